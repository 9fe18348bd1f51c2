-- Written by this session's program wip/tools/xprint.py (the kit's printer, turned by it); not the kit's own print.
import Derived.Test.YtobbcfpkmmafnaaDoorQx0
import Derived.Test.YtobbcfpkmmafnaaDoorQx1
namespace Go.Proofs.YtobbcfpkmmafnaaDoor.Q
open Go.RowKit Go.Proofs.YtobbcfpkmmafnaaDoorW.PrintWords Go.Proofs.YtobbcfpkmmafnaaDoorW.PrintLast Go.Proofs.YtobbcfpkmmafnaaDoorW.PrintMore
attribute [local go_sem] max2_int min2_int max_two min_two max_three min_three max_four min_four   -- for this text's walks alone
set_option linter.unusedVariables false
set_option linter.unusedSimpArgs false

attribute [local go_sem high] eqA39
attribute [local go_sem high] eqErr_some neErr_some eqErr_left neErr_left
/-! ### word_field: function 24 -/
def word_field.f (a0 : Int) (a1 : Int) : Option (Bool) := if a0 ≥ 0 then (if a0 < 64 then (if a1 ≥ 1 then (if a1 ≤ 64 then (some (decide ((wrap64 (a0 + a1)) ≤ 64))) else (some false)) else (some false)) else (some false)) else (some false)
set_option maxHeartbeats 8000000 in
set_option maxRecDepth 100000 in
theorem word_field.calls (a0 : Int) (a1 : Int) (r : Bool) (w : World) (h : word_field.f a0 a1 = some r) :
    Calls Tryd.prog 24 #[.int .i64 a0, .int .i64 a1] w fun e w' => e = .returned (.bool r) ∧ Drawn0 w w' := by
  have H : (if a0 ≥ 0 then (if a0 < 64 then (if a1 ≥ 1 then (if a1 ≤ 64 then (some (decide ((wrap64 (a0 + a1)) ≤ 64))) else (some false)) else (some false)) else (some false)) else (some false)) = some r := h
  clear h
  by_cases c3 : a0 ≥ 0
  · rw [if_pos c3] at H
    have c3b0 : decide (0 ≤ a0) = true := decide_eq_true c3
    clear c3
    by_cases c4 : a0 < 64
    · rw [if_pos c4] at H
      have c4b0 : decide (a0 < 64) = true := decide_eq_true c4
      clear c4
      by_cases c5 : a1 ≥ 1
      · rw [if_pos c5] at H
        have c5b0 : decide (1 ≤ a1) = true := decide_eq_true c5
        clear c5
        by_cases c6 : a1 ≤ 64
        · rw [if_pos c6] at H
          have c6b0 : decide (a1 ≤ 64) = true := decide_eq_true c6
          clear c6
          obtain rfl := Option.some.inj H
          go_enter Tryd.func24, Tryd.ntmps24
          go_wp2
          go_ret
          exact ⟨by first | rfl | (simp; done) | (simp [*]; done), by repeat (first | exact Drawn0.refl _ | apply Drawn0.step)⟩
        · rw [if_neg c6] at H
          have c6b0 : decide (a1 ≤ 64) = false := decide_eq_false c6
          clear c6
          obtain rfl := Option.some.inj H
          go_enter Tryd.func24, Tryd.ntmps24
          go_wp2
          go_ret
          exact ⟨by first | rfl | (simp; done) | (simp [*]; done), by repeat (first | exact Drawn0.refl _ | apply Drawn0.step)⟩
      · rw [if_neg c5] at H
        have c5b0 : decide (1 ≤ a1) = false := decide_eq_false c5
        clear c5
        obtain rfl := Option.some.inj H
        go_enter Tryd.func24, Tryd.ntmps24
        go_wp2
        go_ret
        exact ⟨by first | rfl | (simp; done) | (simp [*]; done), by repeat (first | exact Drawn0.refl _ | apply Drawn0.step)⟩
    · rw [if_neg c4] at H
      have c4b0 : decide (a0 < 64) = false := decide_eq_false c4
      clear c4
      obtain rfl := Option.some.inj H
      go_enter Tryd.func24, Tryd.ntmps24
      go_wp2
      go_ret
      exact ⟨by first | rfl | (simp; done) | (simp [*]; done), by repeat (first | exact Drawn0.refl _ | apply Drawn0.step)⟩
  · rw [if_neg c3] at H
    have c3b0 : decide (0 ≤ a0) = false := decide_eq_false c3
    clear c3
    obtain rfl := Option.some.inj H
    go_enter Tryd.func24, Tryd.ntmps24
    go_wp2
    go_ret
    exact ⟨by first | rfl | (simp; done) | (simp [*]; done), by repeat (first | exact Drawn0.refl _ | apply Drawn0.step)⟩

/-! ### word_mask: function 25 -/
def word_mask.f (a0 : Int) : Option (Int) := if 0 ≤ a0 then (some (IntKind.u64.wrap ((shl .u64 1 a0) - 1))) else (none)
set_option maxHeartbeats 8000000 in
set_option maxRecDepth 100000 in
theorem word_mask.calls (a0 : Int) (r : Int) (w : World) (h : word_mask.f a0 = some r) :
    Calls Tryd.prog 25 #[.int .i64 a0] w fun e w' => e = .returned (.int .u64 r) ∧ Drawn0 w w' := by
  have H : (if 0 ≤ a0 then (some (IntKind.u64.wrap ((shl .u64 1 a0) - 1))) else (none)) = some r := h
  clear h
  by_cases c2 : 0 ≤ a0
  · rw [if_pos c2] at H
    have c2b0 := eq_true c2
    have c2b1 : decide (0 ≤ a0) = true := decide_eq_true c2
    clear c2
    obtain ⟨ji3, hji3⟩ : ∃ j_ : Int, (shl .u64 1 a0) = j_ := ⟨_, rfl⟩
    replace H : (some (IntKind.u64.wrap ((ji3) - 1))) = some r := by first | (rw [hji3] at H; exact H) | (simp only [hji3] at H ⊢; exact H)
    have hji3_ : (IntKind.u64.wrap (1 * 2 ^ min a0.toNat 64)) = ji3 := hji3
    have hji3z : a0 ≤ 64 → (IntKind.u64.wrap (1 * 2 ^ a0.toNat)) = ji3 := shl_small hji3
    have hji3u : (IntKind.u64.wrap (2 ^ min a0.toNat 64)) = ji3 := by have h_ := hji3_; rw [Int.one_mul] at h_; exact h_
    have hji3v : a0 ≤ 64 → (IntKind.u64.wrap (2 ^ a0.toNat)) = ji3 := fun hle_ => by have h_ := hji3z hle_; rw [Int.one_mul] at h_; exact h_
    obtain rfl := Option.some.inj H
    go_enter Tryd.func25, Tryd.ntmps25
    go_wp2
    go_ret
    exact ⟨by first | rfl | (simp; done) | (simp only [← hji3] <;> (first | rfl | simp)) | (simp [*]; done), by repeat (first | exact Drawn0.refl _ | apply Drawn0.step)⟩
  · rw [if_neg c2] at H
    exact absurd H (by simp)

/-! ### word_Field: function 12 -/
def word_Field.f (a0 : Int) (a1 : Int) (a2 : Int) : Option (Int × Option Int) := (word_field.f a1 a2).bind fun t101 => (if t101 = true then (if 0 ≤ a1 then ((word_mask.f a2).bind fun t102 => (some (Go.bits .and .u64 (shr .u64 a0 a1) t102, none))) else (none)) else (some (0, some 1)))
set_option maxHeartbeats 8000000 in
set_option maxRecDepth 100000 in
theorem word_Field.calls (a0 : Int) (a1 : Int) (a2 : Int) (r1 : Int) (r2 : Option Int) (w : World) (h : word_Field.f a0 a1 a2 = some (r1, r2)) :
    Calls Tryd.prog 12 #[.int .u64 a0, .int .i64 a1, .int .i64 a2] w fun e w' => e = .returned (.tuple #[.int .u64 r1, errW r2]) ∧ Drawn0 w w' := by
  have hu25 := Tryd.underlying25
  have hu30 := Tryd.underlying30
  have H : ((word_field.f a1 a2).bind fun t101 => (if t101 = true then (if 0 ≤ a1 then ((word_mask.f a2).bind fun t102 => (some (Go.bits .and .u64 (shr .u64 a0 a1) t102, none))) else (none)) else (some (0, some 1)))) = some (r1, r2) := h
  clear h
  replace H := Option.bind_eq_some_iff.mp H
  obtain ⟨t101, A40, H⟩ := H
  replace H : (if t101 = true then (if 0 ≤ a1 then ((word_mask.f a2).bind fun t102 => (some (Go.bits .and .u64 (shr .u64 a0 a1) t102, none))) else (none)) else (some (0, some 1))) = some (r1, r2) := H
  have A4 := Aside0.mk A40
  clear A40
  by_cases c5 : t101 = true
  · subst c5
    have H1 : (if 0 ≤ a1 then ((word_mask.f a2).bind fun t102 => (some (Go.bits .and .u64 (shr .u64 a0 a1) t102, none))) else (none)) = some (r1, r2) := by rw [if_pos rfl] at H; exact H
    clear H
    have H := H1
    clear H1
    by_cases c6 : 0 ≤ a1
    · rw [if_pos c6] at H
      have c6b0 := eq_true c6
      have c6b1 : decide (0 ≤ a1) = true := decide_eq_true c6
      clear c6
      obtain ⟨ji7, hji7⟩ : ∃ j_ : Int, (shr .u64 a0 a1) = j_ := ⟨_, rfl⟩
      replace H : ((word_mask.f a2).bind fun t102 => (some (Go.bits .and .u64 (ji7) t102, none))) = some (r1, r2) := by first | (rw [hji7] at H; exact H) | (simp only [hji7] at H ⊢; exact H)
      (try rw [hji7] at A4)
      have hji7_ : (a0 / 2 ^ min a1.toNat 64) = ji7 := hji7
      have hji7z : a1 ≤ 64 → (a0 / 2 ^ a1.toNat) = ji7 := shr_small hji7
      replace H := Option.bind_eq_some_iff.mp H
      obtain ⟨t102, A80, H⟩ := H
      replace H : (some (Go.bits .and .u64 (ji7) t102, none)) = some (r1, r2) := H
      have A8 := Aside0.mk A80
      clear A80
      simp only [Option.some.injEq, Prod.mk.injEq] at H
      obtain ⟨rfl, rfl⟩ := H
      go_enter Tryd.func12, Tryd.ntmps12
      go_wp2_with (first | (go_at_call 24; (with_reducible refine (word_field.calls a1 a2 true _ A4.out).mono ?_); rintro e w' ⟨rfl, ⟨nd, rfl⟩⟩; (try first | exact ⟨rfl, _, World.drewN_drewN _ _ _⟩ | exact ⟨rfl, _, Eq.trans (World.drewN_drewN _ _ _) (congrArg (World.drewN _) (Nat.add_assoc _ _ _))⟩)) | (go_at_call 25; (with_reducible refine (word_mask.calls a2 t102 _ A8.out).mono ?_); rintro e w' ⟨rfl, ⟨nd, rfl⟩⟩; (try first | exact ⟨rfl, _, World.drewN_drewN _ _ _⟩ | exact ⟨rfl, _, Eq.trans (World.drewN_drewN _ _ _) (congrArg (World.drewN _) (Nat.add_assoc _ _ _))⟩)))
      repeat (go_quiet (first | (go_at_call 24; (with_reducible refine (word_field.calls a1 a2 true _ A4.out).mono ?_); rintro e w' ⟨rfl, ⟨nd, rfl⟩⟩; (try first | exact ⟨rfl, _, World.drewN_drewN _ _ _⟩ | exact ⟨rfl, _, Eq.trans (World.drewN_drewN _ _ _) (congrArg (World.drewN _) (Nat.add_assoc _ _ _))⟩)) | (go_at_call 25; (with_reducible refine (word_mask.calls a2 t102 _ A8.out).mono ?_); rintro e w' ⟨rfl, ⟨nd, rfl⟩⟩; (try first | exact ⟨rfl, _, World.drewN_drewN _ _ _⟩ | exact ⟨rfl, _, Eq.trans (World.drewN_drewN _ _ _) (congrArg (World.drewN _) (Nat.add_assoc _ _ _))⟩))); try go_wp2_with (first | (go_at_call 24; (with_reducible refine (word_field.calls a1 a2 true _ A4.out).mono ?_); rintro e w' ⟨rfl, ⟨nd, rfl⟩⟩; (try first | exact ⟨rfl, _, World.drewN_drewN _ _ _⟩ | exact ⟨rfl, _, Eq.trans (World.drewN_drewN _ _ _) (congrArg (World.drewN _) (Nat.add_assoc _ _ _))⟩)) | (go_at_call 25; (with_reducible refine (word_mask.calls a2 t102 _ A8.out).mono ?_); rintro e w' ⟨rfl, ⟨nd, rfl⟩⟩; (try first | exact ⟨rfl, _, World.drewN_drewN _ _ _⟩ | exact ⟨rfl, _, Eq.trans (World.drewN_drewN _ _ _) (congrArg (World.drewN _) (Nat.add_assoc _ _ _))⟩))))
      go_ret2
      exact ⟨by first | rfl | (simp; done) | (simp only [← hji7] <;> (first | rfl | simp)) | (simp [*]; done), by repeat (first | exact Drawn0.refl _ | apply Drawn0.step)⟩
    · rw [if_neg c6] at H
      exact absurd H (by simp)
  · replace c5 := Bool.eq_false_iff.mpr c5
    subst c5
    have H1 : (some (0, some 1)) = some (r1, r2) := by rw [if_neg (show ¬ (false = true) by decide)] at H; exact H
    clear H
    have H := H1
    clear H1
    simp only [Option.some.injEq, Prod.mk.injEq] at H
    obtain ⟨rfl, rfl⟩ := H
    go_enter Tryd.func12, Tryd.ntmps12
    go_wp2_with (first | (go_at_call 24; (with_reducible refine (word_field.calls a1 a2 false _ A4.out).mono ?_); rintro e w' ⟨rfl, ⟨nd, rfl⟩⟩; (try first | exact ⟨rfl, _, World.drewN_drewN _ _ _⟩ | exact ⟨rfl, _, Eq.trans (World.drewN_drewN _ _ _) (congrArg (World.drewN _) (Nat.add_assoc _ _ _))⟩)))
    repeat (go_quiet (first | (go_at_call 24; (with_reducible refine (word_field.calls a1 a2 false _ A4.out).mono ?_); rintro e w' ⟨rfl, ⟨nd, rfl⟩⟩; (try first | exact ⟨rfl, _, World.drewN_drewN _ _ _⟩ | exact ⟨rfl, _, Eq.trans (World.drewN_drewN _ _ _) (congrArg (World.drewN _) (Nat.add_assoc _ _ _))⟩))); try go_wp2_with (first | (go_at_call 24; (with_reducible refine (word_field.calls a1 a2 false _ A4.out).mono ?_); rintro e w' ⟨rfl, ⟨nd, rfl⟩⟩; (try first | exact ⟨rfl, _, World.drewN_drewN _ _ _⟩ | exact ⟨rfl, _, Eq.trans (World.drewN_drewN _ _ _) (congrArg (World.drewN _) (Nat.add_assoc _ _ _))⟩))))
    go_ret2
    exact ⟨by first | rfl | (simp; done) | (simp [*]; done), by repeat (first | exact Drawn0.refl _ | apply Drawn0.step)⟩

/-! ### word_Put: function 13 -/
def word_Put.f (a0 : Int) (a1 : Int) (a2 : Int) (a3 : Int) : Option (Int × Option Int) := (word_field.f a1 a2).bind fun t103 => (if t103 = true then ((word_mask.f a2).bind fun t104 => (if a3 > t104 then (some (0, some 8)) else (if 0 ≤ a1 then (some (Go.bits .or .u64 (Go.bits .andNot .u64 a0 (shl .u64 t104 a1)) (shl .u64 a3 a1), none)) else (none)))) else (some (0, some 1)))
set_option maxHeartbeats 8000000 in
set_option maxRecDepth 100000 in
theorem word_Put.calls (a0 : Int) (a1 : Int) (a2 : Int) (a3 : Int) (r1 : Int) (r2 : Option Int) (w : World) (h : word_Put.f a0 a1 a2 a3 = some (r1, r2)) :
    Calls Tryd.prog 13 #[.int .u64 a0, .int .i64 a1, .int .i64 a2, .int .u64 a3] w fun e w' => e = .returned (.tuple #[.int .u64 r1, errW r2]) ∧ Drawn0 w w' := by
  have hu25 := Tryd.underlying25
  have hu30 := Tryd.underlying30
  have H : ((word_field.f a1 a2).bind fun t103 => (if t103 = true then ((word_mask.f a2).bind fun t104 => (if a3 > t104 then (some (0, some 8)) else (if 0 ≤ a1 then (some (Go.bits .or .u64 (Go.bits .andNot .u64 a0 (shl .u64 t104 a1)) (shl .u64 a3 a1), none)) else (none)))) else (some (0, some 1)))) = some (r1, r2) := h
  clear h
  replace H := Option.bind_eq_some_iff.mp H
  obtain ⟨t103, A50, H⟩ := H
  replace H : (if t103 = true then ((word_mask.f a2).bind fun t104 => (if a3 > t104 then (some (0, some 8)) else (if 0 ≤ a1 then (some (Go.bits .or .u64 (Go.bits .andNot .u64 a0 (shl .u64 t104 a1)) (shl .u64 a3 a1), none)) else (none)))) else (some (0, some 1))) = some (r1, r2) := H
  have A5 := Aside0.mk A50
  clear A50
  by_cases c6 : t103 = true
  · subst c6
    have H1 : ((word_mask.f a2).bind fun t104 => (if a3 > t104 then (some (0, some 8)) else (if 0 ≤ a1 then (some (Go.bits .or .u64 (Go.bits .andNot .u64 a0 (shl .u64 t104 a1)) (shl .u64 a3 a1), none)) else (none)))) = some (r1, r2) := by rw [if_pos rfl] at H; exact H
    clear H
    have H := H1
    clear H1
    replace H := Option.bind_eq_some_iff.mp H
    obtain ⟨t104, A70, H⟩ := H
    replace H : (if a3 > t104 then (some (0, some 8)) else (if 0 ≤ a1 then (some (Go.bits .or .u64 (Go.bits .andNot .u64 a0 (shl .u64 t104 a1)) (shl .u64 a3 a1), none)) else (none))) = some (r1, r2) := H
    have A7 := Aside0.mk A70
    clear A70
    by_cases c8 : a3 > t104
    · rw [if_pos c8] at H
      have c8b0 : decide (t104 < a3) = true := decide_eq_true c8
      clear c8
      simp only [Option.some.injEq, Prod.mk.injEq] at H
      obtain ⟨rfl, rfl⟩ := H
      go_enter Tryd.func13, Tryd.ntmps13
      go_wp2_with (first | (go_at_call 24; (with_reducible refine (word_field.calls a1 a2 true _ A5.out).mono ?_); rintro e w' ⟨rfl, ⟨nd, rfl⟩⟩; (try first | exact ⟨rfl, _, World.drewN_drewN _ _ _⟩ | exact ⟨rfl, _, Eq.trans (World.drewN_drewN _ _ _) (congrArg (World.drewN _) (Nat.add_assoc _ _ _))⟩)) | (go_at_call 25; (with_reducible refine (word_mask.calls a2 t104 _ A7.out).mono ?_); rintro e w' ⟨rfl, ⟨nd, rfl⟩⟩; (try first | exact ⟨rfl, _, World.drewN_drewN _ _ _⟩ | exact ⟨rfl, _, Eq.trans (World.drewN_drewN _ _ _) (congrArg (World.drewN _) (Nat.add_assoc _ _ _))⟩)))
      repeat (go_quiet (first | (go_at_call 24; (with_reducible refine (word_field.calls a1 a2 true _ A5.out).mono ?_); rintro e w' ⟨rfl, ⟨nd, rfl⟩⟩; (try first | exact ⟨rfl, _, World.drewN_drewN _ _ _⟩ | exact ⟨rfl, _, Eq.trans (World.drewN_drewN _ _ _) (congrArg (World.drewN _) (Nat.add_assoc _ _ _))⟩)) | (go_at_call 25; (with_reducible refine (word_mask.calls a2 t104 _ A7.out).mono ?_); rintro e w' ⟨rfl, ⟨nd, rfl⟩⟩; (try first | exact ⟨rfl, _, World.drewN_drewN _ _ _⟩ | exact ⟨rfl, _, Eq.trans (World.drewN_drewN _ _ _) (congrArg (World.drewN _) (Nat.add_assoc _ _ _))⟩))); try go_wp2_with (first | (go_at_call 24; (with_reducible refine (word_field.calls a1 a2 true _ A5.out).mono ?_); rintro e w' ⟨rfl, ⟨nd, rfl⟩⟩; (try first | exact ⟨rfl, _, World.drewN_drewN _ _ _⟩ | exact ⟨rfl, _, Eq.trans (World.drewN_drewN _ _ _) (congrArg (World.drewN _) (Nat.add_assoc _ _ _))⟩)) | (go_at_call 25; (with_reducible refine (word_mask.calls a2 t104 _ A7.out).mono ?_); rintro e w' ⟨rfl, ⟨nd, rfl⟩⟩; (try first | exact ⟨rfl, _, World.drewN_drewN _ _ _⟩ | exact ⟨rfl, _, Eq.trans (World.drewN_drewN _ _ _) (congrArg (World.drewN _) (Nat.add_assoc _ _ _))⟩))))
      go_ret2
      exact ⟨by first | rfl | (simp; done) | (simp [*]; done), by repeat (first | exact Drawn0.refl _ | apply Drawn0.step)⟩
    · rw [if_neg c8] at H
      have c8b0 : decide (t104 < a3) = false := decide_eq_false c8
      clear c8
      by_cases c9 : 0 ≤ a1
      · rw [if_pos c9] at H
        have c9b0 := eq_true c9
        have c9b1 : decide (0 ≤ a1) = true := decide_eq_true c9
        clear c9
        obtain ⟨ji10, hji10⟩ : ∃ j_ : Int, (shl .u64 t104 a1) = j_ := ⟨_, rfl⟩
        replace H : (some (Go.bits .or .u64 (Go.bits .andNot .u64 a0 (ji10)) (shl .u64 a3 a1), none)) = some (r1, r2) := by first | (rw [hji10] at H; exact H) | (simp only [hji10] at H ⊢; exact H)
        (try rw [hji10] at A5)
        (try rw [hji10] at A7)
        have hji10_ : (IntKind.u64.wrap (t104 * 2 ^ min a1.toNat 64)) = ji10 := hji10
        have hji10z : a1 ≤ 64 → (IntKind.u64.wrap (t104 * 2 ^ a1.toNat)) = ji10 := shl_small hji10
        have c11b0 := eq_true (of_decide_eq_true (by first | (with_reducible assumption) | assumption) : 0 ≤ a1)
        obtain ⟨ji12, hji12⟩ : ∃ j_ : Int, (shl .u64 a3 a1) = j_ := ⟨_, rfl⟩
        replace H : (some (Go.bits .or .u64 (Go.bits .andNot .u64 a0 (ji10)) (ji12), none)) = some (r1, r2) := by first | (rw [hji12] at H; exact H) | (simp only [hji12] at H ⊢; exact H)
        (try rw [hji12] at A5)
        (try rw [hji12] at A7)
        have hji12_ : (IntKind.u64.wrap (a3 * 2 ^ min a1.toNat 64)) = ji12 := hji12
        have hji12z : a1 ≤ 64 → (IntKind.u64.wrap (a3 * 2 ^ a1.toNat)) = ji12 := shl_small hji12
        simp only [Option.some.injEq, Prod.mk.injEq] at H
        obtain ⟨rfl, rfl⟩ := H
        go_enter Tryd.func13, Tryd.ntmps13
        go_wp2_with (first | (go_at_call 24; (with_reducible refine (word_field.calls a1 a2 true _ A5.out).mono ?_); rintro e w' ⟨rfl, ⟨nd, rfl⟩⟩; (try first | exact ⟨rfl, _, World.drewN_drewN _ _ _⟩ | exact ⟨rfl, _, Eq.trans (World.drewN_drewN _ _ _) (congrArg (World.drewN _) (Nat.add_assoc _ _ _))⟩)) | (go_at_call 25; (with_reducible refine (word_mask.calls a2 t104 _ A7.out).mono ?_); rintro e w' ⟨rfl, ⟨nd, rfl⟩⟩; (try first | exact ⟨rfl, _, World.drewN_drewN _ _ _⟩ | exact ⟨rfl, _, Eq.trans (World.drewN_drewN _ _ _) (congrArg (World.drewN _) (Nat.add_assoc _ _ _))⟩)))
        repeat (go_quiet (first | (go_at_call 24; (with_reducible refine (word_field.calls a1 a2 true _ A5.out).mono ?_); rintro e w' ⟨rfl, ⟨nd, rfl⟩⟩; (try first | exact ⟨rfl, _, World.drewN_drewN _ _ _⟩ | exact ⟨rfl, _, Eq.trans (World.drewN_drewN _ _ _) (congrArg (World.drewN _) (Nat.add_assoc _ _ _))⟩)) | (go_at_call 25; (with_reducible refine (word_mask.calls a2 t104 _ A7.out).mono ?_); rintro e w' ⟨rfl, ⟨nd, rfl⟩⟩; (try first | exact ⟨rfl, _, World.drewN_drewN _ _ _⟩ | exact ⟨rfl, _, Eq.trans (World.drewN_drewN _ _ _) (congrArg (World.drewN _) (Nat.add_assoc _ _ _))⟩))); try go_wp2_with (first | (go_at_call 24; (with_reducible refine (word_field.calls a1 a2 true _ A5.out).mono ?_); rintro e w' ⟨rfl, ⟨nd, rfl⟩⟩; (try first | exact ⟨rfl, _, World.drewN_drewN _ _ _⟩ | exact ⟨rfl, _, Eq.trans (World.drewN_drewN _ _ _) (congrArg (World.drewN _) (Nat.add_assoc _ _ _))⟩)) | (go_at_call 25; (with_reducible refine (word_mask.calls a2 t104 _ A7.out).mono ?_); rintro e w' ⟨rfl, ⟨nd, rfl⟩⟩; (try first | exact ⟨rfl, _, World.drewN_drewN _ _ _⟩ | exact ⟨rfl, _, Eq.trans (World.drewN_drewN _ _ _) (congrArg (World.drewN _) (Nat.add_assoc _ _ _))⟩))))
        go_ret2
        exact ⟨by first | rfl | (simp; done) | (simp only [← hji10, ← hji12] <;> (first | rfl | simp)) | (simp [*]; done), by repeat (first | exact Drawn0.refl _ | apply Drawn0.step)⟩
      · rw [if_neg c9] at H
        exact absurd H (by simp)
  · replace c6 := Bool.eq_false_iff.mpr c6
    subst c6
    have H1 : (some (0, some 1)) = some (r1, r2) := by rw [if_neg (show ¬ (false = true) by decide)] at H; exact H
    clear H
    have H := H1
    clear H1
    simp only [Option.some.injEq, Prod.mk.injEq] at H
    obtain ⟨rfl, rfl⟩ := H
    go_enter Tryd.func13, Tryd.ntmps13
    go_wp2_with (first | (go_at_call 24; (with_reducible refine (word_field.calls a1 a2 false _ A5.out).mono ?_); rintro e w' ⟨rfl, ⟨nd, rfl⟩⟩; (try first | exact ⟨rfl, _, World.drewN_drewN _ _ _⟩ | exact ⟨rfl, _, Eq.trans (World.drewN_drewN _ _ _) (congrArg (World.drewN _) (Nat.add_assoc _ _ _))⟩)))
    repeat (go_quiet (first | (go_at_call 24; (with_reducible refine (word_field.calls a1 a2 false _ A5.out).mono ?_); rintro e w' ⟨rfl, ⟨nd, rfl⟩⟩; (try first | exact ⟨rfl, _, World.drewN_drewN _ _ _⟩ | exact ⟨rfl, _, Eq.trans (World.drewN_drewN _ _ _) (congrArg (World.drewN _) (Nat.add_assoc _ _ _))⟩))); try go_wp2_with (first | (go_at_call 24; (with_reducible refine (word_field.calls a1 a2 false _ A5.out).mono ?_); rintro e w' ⟨rfl, ⟨nd, rfl⟩⟩; (try first | exact ⟨rfl, _, World.drewN_drewN _ _ _⟩ | exact ⟨rfl, _, Eq.trans (World.drewN_drewN _ _ _) (congrArg (World.drewN _) (Nat.add_assoc _ _ _))⟩))))
    go_ret2
    exact ⟨by first | rfl | (simp; done) | (simp [*]; done), by repeat (first | exact Drawn0.refl _ | apply Drawn0.step)⟩

/-! ### bits_TrailingZeros64: function 31 -/
def bits_TrailingZeros64.idx (a : Int) : Int := IntKind.u64.wrap (bits .and .u64 a (IntKind.u64.wrap (-a)) * 285870213051353865) / 288230376151711744
def bits_TrailingZeros64.f (a0 : Int) : Option Int := if a0 = 0 then some 64 else if 0 ≤ bits_TrailingZeros64.idx a0 then (if bits_TrailingZeros64.idx a0 < 64 then some (wrap64 (rd tab64 (bits_TrailingZeros64.idx a0))) else none) else none
set_option maxHeartbeats 400000 in
theorem bits_TrailingZeros64.calls (a0 : Int) (r : Int) (w : World) (hT : Tab w) (h : bits_TrailingZeros64.f a0 = some r) :
    Calls Tryd.prog 31 #[.int .u64 a0] w fun e w' => e = .returned (.int .i64 r) ∧ Below w.heap.size w w' := by
  unfold bits_TrailingZeros64.f at h
  by_cases h0 : a0 = 0
  · rw [if_pos h0] at h
    obtain rfl := Option.some.inj h
    subst h0
    go_enter Tryd.func31, Tryd.ntmps31
    go_wp2
    go_ret
    exact ⟨rfl, Below.refl _ _⟩
  · rw [if_neg h0] at h
    by_cases h1 : 0 ≤ bits_TrailingZeros64.idx a0
    · rw [if_pos h1] at h
      by_cases h2 : bits_TrailingZeros64.idx a0 < 64
      · rw [if_pos h2] at h
        obtain rfl := Option.some.inj h
        have hc := hT.2 (bits_TrailingZeros64.idx a0).toNat (by omega)
        have e : rd tab64 (bits_TrailingZeros64.idx a0) = tab64.getD (bits_TrailingZeros64.idx a0).toNat 0 := rfl
        rw [e]
        clear e h hT
        have hz : (a0 == 0) = false := beq_eq_false_iff_ne.mpr h0
        clear h0
        have hu : Tryd.prog.underlying 54 = some (.array 64 5) := Tryd.underlying54
        generalize hv : tab64.getD (bits_TrailingZeros64.idx a0).toNat 0 = v at hc ⊢
        clear hv
        obtain ⟨J, hJ⟩ : ∃ J, bits_TrailingZeros64.idx a0 = J := ⟨_, rfl⟩
        rw [hJ] at h1 h2 hc
        unfold bits_TrailingZeros64.idx at hJ
        go_enter Tryd.func31, Tryd.ntmps31
        go_wp2
        go_ret
        exact ⟨rfl, Below.refl _ _⟩
      · rw [if_neg h2] at h; cases h
    · rw [if_neg h1] at h; cases h


/-! ### bits_TrailingZeros: function 27 -/
def bits_TrailingZeros.f (a0 : Int) : Option (Int) := (bits_TrailingZeros64.f a0).bind fun t105 => (some t105)
set_option maxHeartbeats 8000000 in
set_option maxRecDepth 100000 in
theorem bits_TrailingZeros.calls (a0 : Int) (r : Int) (w : World) (hT : Tab w) (h : bits_TrailingZeros.f a0 = some r) :
    Calls Tryd.prog 27 #[.int .u64 a0] w fun e w' => e = .returned (.int .i64 r) ∧ Below w.heap.size w w' := by
  have HB := Aside0.mk (Below.refl w.heap.size w)
  have hTB := Aside0.mk hT
  clear hT
  have H : ((bits_TrailingZeros64.f a0).bind fun t105 => (some t105)) = some r := h
  clear h
  replace H := Option.bind_eq_some_iff.mp H
  obtain ⟨t105, A20, H⟩ := H
  replace H : (some t105) = some r := H
  have A2 := Aside0.mk A20
  clear A20
  obtain rfl := Option.some.inj H
  go_enter Tryd.func27, Tryd.ntmps27
  go_wp2_with (first | ((with_reducible refine gate_callee (f := 31) rfl ?_); refine goesL_ (some 7) rfl rfl Tryd.func31 (by kernel_rfl) rfl #[.int .u64 a0] rfl (by (try simp only [List.map_toArray, List.map_cons, List.map_nil]); first | done | rfl | (simp only [List.length_drop, List.length_take]; rfl)) ?_; (with_reducible refine (bits_TrailingZeros64.calls a0 t105 _ ?side1 A2.out).mono ?_); (case side1 => exact tab_below hTB.out (by repeat (first | (with_reducible first | exact HB.out | apply below_alloc | apply pw_below_drewN | apply below_drew1) | exact HB.out))); rintro e w3 ⟨rfl, hb⟩; refine ⟨_, rfl, ?_⟩; have n0_ := Aside0.mk (below_step (by repeat (first | (with_reducible first | exact HB.out | apply below_alloc | apply pw_below_drewN | apply below_drew1) | exact HB.out)) hb); clear HB; have HB := n0_; clear n0_; (try clear hb); (try clear hb2); (try clear hk); (try clear hi)))
  go_ret
  exact ⟨by first | rfl | (simp [errW_none, errW_some] <;> rfl) | (simp [*, errW_none, errW_some] <;> rfl), by repeat (first | (with_reducible first | exact HB.out | apply below_alloc | apply pw_below_drewN | apply below_drew1) | exact HB.out)⟩

/-! ### bits_Len64: function 33 -/
def bits_Len64.f (a0 : Int) : Option Int := if 0 ≤ a0 then (if a0 ≤ 18446744073709551615 then some ((Lib.bitLen a0.toNat : Nat) : Int) else none) else none
theorem bits_Len64.calls (a0 : Int) (r : Int) (w : World) (h : bits_Len64.f a0 = some r) :
    Calls Tryd.prog 33 #[.int .u64 a0] w fun e w' => e = .returned (.int .i64 r) ∧ Drawn0 w w' := by
  unfold bits_Len64.f at h
  by_cases h0 : 0 ≤ a0
  · rw [if_pos h0] at h
    by_cases h1 : a0 ≤ 18446744073709551615
    · rw [if_pos h1] at h
      obtain rfl := Option.some.inj h
      refine (HLen64.len64 a0 w h0 h1).mono fun e w' he => ?_
      obtain ⟨he, hw⟩ := he
      subst hw
      exact ⟨he, Drawn0.refl _⟩
    · rw [if_neg h1] at h; cases h
  · rw [if_neg h0] at h; cases h


/-! ### bits_Len: function 28 -/
def bits_Len.f (a0 : Int) : Option (Int) := (bits_Len64.f a0).bind fun t106 => (some t106)
set_option maxHeartbeats 8000000 in
set_option maxRecDepth 100000 in
theorem bits_Len.calls (a0 : Int) (r : Int) (w : World) (h : bits_Len.f a0 = some r) :
    Calls Tryd.prog 28 #[.int .u64 a0] w fun e w' => e = .returned (.int .i64 r) ∧ Drawn0 w w' := by
  have H : ((bits_Len64.f a0).bind fun t106 => (some t106)) = some r := h
  clear h
  replace H := Option.bind_eq_some_iff.mp H
  obtain ⟨t106, A20, H⟩ := H
  replace H : (some t106) = some r := H
  have A2 := Aside0.mk A20
  clear A20
  obtain rfl := Option.some.inj H
  go_enter Tryd.func28, Tryd.ntmps28
  go_wp2_with (first | ((with_reducible refine gate_callee (f := 33) rfl ?_); refine goesL_ (some 7) rfl rfl Tryd.func33 (by kernel_rfl) rfl #[.int .u64 a0] rfl (by (try simp only [List.map_toArray, List.map_cons, List.map_nil]); first | done | rfl | (simp only [List.length_drop, List.length_take]; rfl)) ?_; (with_reducible refine (bits_Len64.calls a0 t106 _ A2.out).mono ?_); rintro e w' ⟨rfl, ⟨nd, rfl⟩⟩; refine ⟨_, rfl, ?_⟩))
  go_ret
  exact ⟨by first | rfl | (simp; done) | (simp [*]; done), by repeat (first | exact Drawn0.refl _ | apply Drawn0.step)⟩

/-! ### word_Cut: function 18 -/
mutual
def word_Cut.j0 : Nat → Int → Int → Bool → Option ((List (S39)) × Option Int)
  | 0, _, _, _ => none
  | k + 1, x0, x1, x18 => if x18 = true then (some (([] : List (S39)), some 1)) else (word_Cut.l0 k x0 x1 ([] : List (S39)))
def word_Cut.l0 : Nat → Int → Int → List (S39) → Option ((List (S39)) × Option Int)
  | 0, _, _, _ => none
  | k + 1, x0, x1, x6 => if x0 < x1 then ((bits_TrailingZeros.f (IntKind.u64.wrap (x0))).bind fun t107 => ((bits_Len.f (IntKind.u64.wrap (wrap64 (x1 - x0)))).bind fun t108 => (if x6.length < 8796093022208 then (if 0 ≤ (mn (mn t107 (wrap64 (t108 - 1))) 20) then (word_Cut.l0 k (wrap64 (x0 + (shl .i64 1 (mn (mn t107 (wrap64 (t108 - 1))) 20)))) x1 (x6 ++ [(⟨x0, mn (mn t107 (wrap64 (t108 - 1))) 20⟩ : S39)])) else (none)) else (none)))) else (some (x6, none))
end
def word_Cut.f (k : Nat) (a0 : Int) (a1 : Int) : Option ((List (S39)) × Option Int) := if a0 < 0 then (word_Cut.j0 k a0 a1 true) else (if a1 < a0 then (word_Cut.j0 k a0 a1 true) else (word_Cut.j0 k a0 a1 (decide (a1 > 1048576))))
theorem word_Cut.mono_l : ∀ k, (∀ y0 y1 y2, LeO (word_Cut.j0 k y0 y1 y2) (word_Cut.j0 (k + 1) y0 y1 y2)) ∧ (∀ y0 y1 y2, LeO (word_Cut.l0 k y0 y1 y2) (word_Cut.l0 (k + 1) y0 y1 y2))
  | 0 => ⟨fun _ _ _ r h => by simp [word_Cut.j0] at h, fun _ _ _ r h => by simp [word_Cut.l0] at h⟩
  | k + 1 => by
    obtain ⟨ih0, ih1⟩ := word_Cut.mono_l k
    refine ⟨?_, ?_⟩
    · intro y0 y1 y2
      unfold word_Cut.j0
      repeat' first
      | (with_reducible exact ih0 _ _ _)
      | (with_reducible exact ih1 _ _ _)
      | (with_reducible exact LeO.refl _)
      | (with_reducible exact LeO.none _)
      | (with_reducible refine LeO.ite ?_ ?_)
      | (with_reducible refine LeO.bind ?_ (fun _ => ?_))
      | exact ih0 _ _ _
      | exact ih1 _ _ _
      | exact LeO.none _
      | refine LeO.ite ?_ ?_
      | refine LeO.bind ?_ (fun _ => ?_)
    · intro y0 y1 y2
      unfold word_Cut.l0
      repeat' first
      | (with_reducible exact ih0 _ _ _)
      | (with_reducible exact ih1 _ _ _)
      | (with_reducible exact LeO.refl _)
      | (with_reducible exact LeO.none _)
      | (with_reducible refine LeO.ite ?_ ?_)
      | (with_reducible refine LeO.bind ?_ (fun _ => ?_))
      | exact ih0 _ _ _
      | exact ih1 _ _ _
      | exact LeO.none _
      | refine LeO.ite ?_ ?_
      | refine LeO.bind ?_ (fun _ => ?_)
theorem word_Cut.mono : ∀ a0 a1 k, LeO (word_Cut.f k a0 a1) (word_Cut.f (k + 1) a0 a1) := by
  intro a0 a1 k
  obtain ⟨ih0, ih1⟩ := word_Cut.mono_l k
  unfold word_Cut.f
  repeat' first
      | (with_reducible exact ih0 _ _ _)
      | (with_reducible exact ih1 _ _ _)
      | (with_reducible exact LeO.refl _)
      | (with_reducible exact LeO.none _)
      | (with_reducible refine LeO.ite ?_ ?_)
      | (with_reducible refine LeO.bind ?_ (fun _ => ?_))
      | exact ih0 _ _ _
      | exact ih1 _ _ _
      | exact LeO.none _
      | refine LeO.ite ?_ ?_
      | refine LeO.bind ?_ (fun _ => ?_)
set_option maxHeartbeats 8000000 in
set_option maxRecDepth 100000 in
theorem word_Cut.calls (k : Nat) (a0 : Int) (a1 : Int) (r1 : List (S39)) (r2 : Option Int) (w : World) (hT : Tab w) (h : word_Cut.f k a0 a1 = some (r1, r2)) :
    Calls Tryd.prog 18 #[.int .i64 a0, .int .i64 a1] w fun e w' => ∃ v0_ : Value, e = .returned (.tuple #[v0_, errW r2]) ∧ Kd.R k39 39 w' w.heap.size (fun _ => True) v0_ r1 ∧ Below w.heap.size w w' := by
  have hu39 := Tryd.underlying39
  have hu25 := Tryd.underlying25
  have hu30 := Tryd.underlying30
  have HB := Aside0.mk (Below.refl w.heap.size w)
  have hTB := Aside0.mk hT
  clear hT
  have H : (if a0 < 0 then (word_Cut.j0 k a0 a1 true) else (if a1 < a0 then (word_Cut.j0 k a0 a1 true) else (word_Cut.j0 k a0 a1 (decide (a1 > 1048576))))) = some (r1, r2) := h
  clear h
  have HC3 := Aside0.mk H
  clear H
  go_enter Tryd.func18, Tryd.ntmps18
  go_upto_region 1 with (fail)
  go_cut [18] (fun v18 wc => ∃ (kq : Nat) (x18_2 : Bool), v18 = .bool x18_2 ∧ Aside0 (word_Cut.j0 kq a0 a1 x18_2 = some (r1, r2)) ∧ Aside0 (kq ≤ k) ∧ Aside0 (Below w.heap.size w wc))
  case first =>
    have H := HC3.out
    clear HC3
    by_cases c4 : a0 < 0
    · rw [if_pos c4] at H
      have c4b0 : decide (a0 < 0) = true := decide_eq_true c4
      clear c4
      (first | rw [c4b0] | (simp only [i64_w, i32_w]; rw [c4b0]) | skip)
      have H' := Aside0.mk H
      clear H
      go_wp2
      go_meet
      case rel => exact ⟨_, (true), (by first | rfl | (simp; done) | (simp [*]; done)), H', ⟨by first | omega | exact Nat.le_refl _⟩, ⟨by repeat (first | (with_reducible first | exact HB.out | apply below_alloc | apply pw_below_drewN | apply below_drew1) | exact HB.out)⟩⟩
    · rw [if_neg c4] at H
      have c4b0 : decide (a0 < 0) = false := decide_eq_false c4
      clear c4
      (first | rw [c4b0] | (simp only [i64_w, i32_w]; rw [c4b0]) | skip)
      by_cases c5 : a1 < a0
      · rw [if_pos c5] at H
        have c5b0 : decide (a1 < a0) = true := decide_eq_true c5
        clear c5
        have H' := Aside0.mk H
        clear H
        go_wp2
        go_meet
        case rel => exact ⟨_, (true), (by first | rfl | (simp; done) | (simp [*]; done)), H', ⟨by first | omega | exact Nat.le_refl _⟩, ⟨by repeat (first | (with_reducible first | exact HB.out | apply below_alloc | apply pw_below_drewN | apply below_drew1) | exact HB.out)⟩⟩
      · rw [if_neg c5] at H
        have c5b0 : decide (a1 < a0) = false := decide_eq_false c5
        clear c5
        have H' := Aside0.mk H
        clear H
        go_wp2
        go_meet
        case rel => exact ⟨_, (decide (a1 > 1048576)), (by first | rfl | (simp; done) | (simp [*]; done)), H', ⟨by first | omega | exact Nat.le_refl _⟩, ⟨by repeat (first | (with_reducible first | exact HB.out | apply below_alloc | apply pw_below_drewN | apply below_drew1) | exact HB.out)⟩⟩
  case rest =>
    clear HC3
    try clear c1
    try clear p2
    try clear c4
    try clear c4b0
    try clear c5
    try clear c5b0
    obtain ⟨kq, x18_2, rfl, HA, HJ2, HB⟩ := hcut
    cases kq with
    | zero => exact absurd HA.out (by simp [word_Cut.j0])
    | succ kj2 =>
      have H := HA.out
      clear HA
      simp only [word_Cut.j0] at H
      by_cases c6 : x18_2 = true
      · subst c6
        have H1 : (some (([] : List (S39)), some 1)) = some (r1, r2) := by rw [if_pos rfl] at H; exact H
        clear H
        have H := H1
        clear H1
        simp only [Option.some.injEq, Prod.mk.injEq] at H
        obtain ⟨rfl, rfl⟩ := H
        go_wp2
        go_ret2
        exact ⟨_, by first | rfl | (simp [errW_none, errW_some] <;> rfl) | (simp [*, errW_none, errW_some] <;> rfl), by first | exact Kd.R_nil _ _ _ _ _ | exact Kd.N_nil _ _ _ _ _ | exact Kd.V_nil _ _ _ _ _ | exact Kd.Q_nil _ _ _ _ _ | exact Kd.S_nil _ _ _ _ _, by repeat (first | (with_reducible first | exact HB.out | apply below_alloc | apply pw_below_drewN | apply below_drew1) | exact HB.out)⟩
      · replace c6 := Bool.eq_false_iff.mpr c6
        subst c6
        have H1 : (word_Cut.l0 kj2 a0 a1 ([] : List (S39))) = some (r1, r2) := by rw [if_neg (show ¬ (false = true) by decide)] at H; exact H
        clear H
        have H := H1
        clear H1
        have H' := Aside0.mk H
        clear H
        go_wp2
        go_loopg [0, 6] kj2 (fun kq v0 v6 w' => ∃ (x0_2 : Int) (x6_2 : List (S39)), v0 = .int .i64 x0_2 ∧ Aside0 (word_Cut.l0 kq x0_2 a1 x6_2 = some (r1, r2)) ∧ Aside0 (kq ≤ kj2) ∧ Aside0 (Kd.R k39 39 w' w.heap.size (fun _ => True) v6 x6_2) ∧ Aside0 (Below w.heap.size w w'))
        case atStart => exact ⟨(a0), (([] : List (S39))), (by first | rfl | (simp; done) | (simp [*]; done)), H', ⟨Nat.le_refl _⟩, ⟨by first | exact Kd.R_nil _ _ _ _ _ | exact Kd.N_nil _ _ _ _ _ | exact Kd.V_nil _ _ _ _ _ | exact Kd.Q_nil _ _ _ _ _ | exact Kd.S_nil _ _ _ _ _⟩, ⟨by repeat (first | (with_reducible first | exact HB.out | apply below_alloc | apply pw_below_drewN | apply below_drew1) | exact HB.out)⟩⟩
        case round =>
          clear H'
          try clear c1
          try clear p2
          try clear c4
          try clear c4b0
          try clear c5
          try clear c5b0
          try clear c6
          try clear p2
          obtain ⟨x0_2, x6_2, rfl, HA, HK2, HO_6, HB⟩ := hrel
          cases gk with
          | zero => exact absurd HA.out (by simp [word_Cut.l0])
          | succ k2 =>
            have H := HA.out
            clear HA
            simp only [word_Cut.l0] at H
            by_cases c7 : x0_2 < a1
            · rw [if_pos c7] at H
              have c7b0 : decide (x0_2 < a1) = true := decide_eq_true c7
              clear c7
              replace H := Option.bind_eq_some_iff.mp H
              obtain ⟨t107, A80, H⟩ := H
              replace H : ((bits_Len.f (IntKind.u64.wrap (wrap64 (a1 - x0_2)))).bind fun t108 => (if x6_2.length < 8796093022208 then (if 0 ≤ (mn (mn t107 (wrap64 (t108 - 1))) 20) then (word_Cut.l0 k2 (wrap64 (x0_2 + (shl .i64 1 (mn (mn t107 (wrap64 (t108 - 1))) 20)))) a1 (x6_2 ++ [(⟨x0_2, mn (mn t107 (wrap64 (t108 - 1))) 20⟩ : S39)])) else (none)) else (none))) = some (r1, r2) := H
              have A8 := Aside0.mk A80
              clear A80
              replace H := Option.bind_eq_some_iff.mp H
              obtain ⟨t108, A90, H⟩ := H
              replace H : (if x6_2.length < 8796093022208 then (if 0 ≤ (mn (mn t107 (wrap64 (t108 - 1))) 20) then (word_Cut.l0 k2 (wrap64 (x0_2 + (shl .i64 1 (mn (mn t107 (wrap64 (t108 - 1))) 20)))) a1 (x6_2 ++ [(⟨x0_2, mn (mn t107 (wrap64 (t108 - 1))) 20⟩ : S39)])) else (none)) else (none)) = some (r1, r2) := H
              have A9 := Aside0.mk A90
              clear A90
              obtain ⟨ji10, hji10⟩ : ∃ j_ : Int, (mn t107 (wrap64 (t108 - 1))) = j_ := ⟨_, rfl⟩
              replace H : (if x6_2.length < 8796093022208 then (if 0 ≤ (mn (ji10) 20) then (word_Cut.l0 k2 (wrap64 (x0_2 + (shl .i64 1 (mn (ji10) 20)))) a1 (x6_2 ++ [(⟨x0_2, mn (ji10) 20⟩ : S39)])) else (none)) else (none)) = some (r1, r2) := by first | (rw [hji10] at H; exact H) | (simp only [hji10] at H ⊢; exact H)
              (try rw [hji10] at A8)
              (try rw [hji10] at A9)
              have hji10_ : (if (wrap64 (t108 - 1)) < t107 then (wrap64 (t108 - 1)) else t107) = ji10 := hji10
              obtain ⟨ji11, hji11⟩ : ∃ j_ : Int, (mn (ji10) 20) = j_ := ⟨_, rfl⟩
              replace H : (if x6_2.length < 8796093022208 then (if 0 ≤ (ji11) then (word_Cut.l0 k2 (wrap64 (x0_2 + (shl .i64 1 (ji11)))) a1 (x6_2 ++ [(⟨x0_2, ji11⟩ : S39)])) else (none)) else (none)) = some (r1, r2) := by first | (rw [hji11] at H; exact H) | (simp only [hji11] at H ⊢; exact H)
              (try rw [hji11] at A8)
              (try rw [hji11] at A9)
              have hji11_ : (if 20 < (ji10) then 20 else (ji10)) = ji11 := hji11
              by_cases c12 : x6_2.length < 8796093022208
              · rw [if_pos c12] at H
                have LMc12 := Aside0.mk c12
                clear c12
                obtain ⟨y109, hy109⟩ : ∃ y_ : List (S39), y_ = (x6_2 ++ [(⟨x0_2, ji11⟩ : S39)]) := ⟨_, rfl⟩
                replace H : (if 0 ≤ (ji11) then (word_Cut.l0 k2 (wrap64 (x0_2 + (shl .i64 1 (ji11)))) a1 y109) else (none)) = some (r1, r2) := by first | (rw [hy109]; with_reducible exact H) | (have H2_ := (Option.bind_some _ _).symm.trans H; rw [hy109]; with_reducible exact H2_) | (have H2_ := (Option.bind_some _ _).symm.trans H; with_reducible exact H2_) | with_reducible exact H | (rw [hy109]; exact H) | exact H
                have Ny109 := Aside0.mk hy109
                clear hy109
                by_cases c13 : 0 ≤ (ji11)
                · rw [if_pos c13] at H
                  have c13b0 := eq_true c13
                  have c13b1 : decide (0 ≤ (ji11)) = true := decide_eq_true c13
                  clear c13
                  obtain ⟨ji14, hji14⟩ : ∃ j_ : Int, (shl .i64 1 (ji11)) = j_ := ⟨_, rfl⟩
                  replace H : (word_Cut.l0 k2 (wrap64 (x0_2 + (ji14))) a1 y109) = some (r1, r2) := by first | (rw [hji14] at H; exact H) | (simp only [hji14] at H ⊢; exact H)
                  (try rw [hji14] at A8)
                  (try rw [hji14] at A9)
                  have hji14_ : (IntKind.i64.wrap (1 * 2 ^ min (ji11).toNat 64)) = ji14 := hji14
                  have hji14z : (ji11) ≤ 64 → (IntKind.i64.wrap (1 * 2 ^ (ji11).toNat)) = ji14 := shl_small hji14
                  have hji14u : (IntKind.i64.wrap (2 ^ min (ji11).toNat 64)) = ji14 := by have h_ := hji14_; rw [Int.one_mul] at h_; exact h_
                  have hji14v : (ji11) ≤ 64 → (IntKind.i64.wrap (2 ^ (ji11).toNat)) = ji14 := fun hle_ => by have h_ := hji14z hle_; rw [Int.one_mul] at h_; exact h_
                  have hji14y : (wrap64 (1 * 2 ^ min (ji11).toNat 64)) = ji14 := (i64_w _).symm.trans hji14_
                  have hji14x : (ji11) ≤ 64 → (wrap64 (1 * 2 ^ (ji11).toNat)) = ji14 := fun h_ => (i64_w _).symm.trans (hji14z h_)
                  have H' := Aside0.mk H
                  clear H
                  go_wp2_with (first | ((with_reducible refine gate_callee (f := 27) rfl ?_); refine goesL_ (some 25) rfl rfl Tryd.func27 (by kernel_rfl) rfl #[.int .u64 (IntKind.u64.wrap (x0_2))] rfl (by (try simp only [List.map_toArray, List.map_cons, List.map_nil]); first | done | rfl | (simp only [List.length_drop, List.length_take]; rfl)) ?_; (with_reducible refine (bits_TrailingZeros.calls (IntKind.u64.wrap (x0_2)) t107 _ ?side1 A8.out).mono ?_); (case side1 => exact tab_below hTB.out (by repeat (first | (with_reducible first | exact HB.out | apply below_alloc | apply pw_below_drewN | apply below_drew1) | exact HB.out))); rintro e w15 ⟨rfl, hb⟩; refine ⟨_, rfl, ?_⟩; have n0_ := Aside0.mk (Kd.R_below (by (with_reducible repeat (first | apply Kd.R_alloc | apply Kd.R_drewN | apply Kd.R_drew)); exact HO_6.out) hb); have n1_ := Aside0.mk (below_step (by repeat (first | (with_reducible first | exact HB.out | apply below_alloc | apply pw_below_drewN | apply below_drew1) | exact HB.out)) hb); clear HO_6; clear HB; have HO_6 := n0_; have HB := n1_; clear n0_ n1_; (try clear hb); (try clear hb2); (try clear hk); (try clear hi)) | ((with_reducible refine gate_callee (f := 28) rfl ?_); refine goesL_ (some 30) rfl rfl Tryd.func28 (by kernel_rfl) rfl #[.int .u64 (IntKind.u64.wrap (wrap64 (a1 - x0_2)))] rfl (by (try simp only [List.map_toArray, List.map_cons, List.map_nil]); first | done | rfl | (simp only [List.length_drop, List.length_take]; rfl)) ?_; (with_reducible refine (bits_Len.calls (IntKind.u64.wrap (wrap64 (a1 - x0_2))) t108 _ A9.out).mono ?_); rintro e w' ⟨rfl, ⟨nd, rfl⟩⟩; refine ⟨_, rfl, ?_⟩) | ((with_reducible refine gate_builtin (b := .append) (xs := #[.tmp 33, .tmp 37]) rfl ?_); at_builtin; refine Kd.R_append k39 (w0 := w) w.heap.size rfl (.tmp 33) (.tmp 37) 35 39 (.agg #[(.int .i64 0), (.int .i64 0)]) 16 rfl Tryd.underlying35 info39 rfl (by decide) (by omega) u6 x6_2 (⟨x0_2, ji11⟩ : S39) [.int .i64 x0_2, .int .i64 ji11] (fun _ => True) (fun _ => False) rfl rfl ?aP (fun _ hk => hk.elim) ?aF ?aO ?aB ?aS ?aL ?_; (case aP => exact k39_mkM _ _ _ (⟨x0_2, ji11⟩ : S39)); (case aB => exact (by repeat (first | (with_reducible first | exact HB.out | apply below_alloc | apply pw_below_drewN | apply below_drew1) | exact HB.out))); (case aF => exact (fun _ _ => trivial)); (case aO => exact (by (with_reducible repeat (first | apply Kd.R_alloc | apply Kd.R_drewN | apply Kd.R_drew)); exact HO_6.out)); (case aS => exact (below_size (by repeat (first | (with_reducible first | exact HB.out | apply below_alloc | apply pw_below_drewN | apply below_drew1) | exact HB.out)))); (case aL => have := LMc12.out; omega); intro v110 w16 ho hb hg hat; rw [← Ny109.out] at ho; have n0_ := Aside0.mk (hb); have n1_ := Aside0.mk (ho); clear HB; clear HO_6; have HB := n0_; have HO111 := n1_; clear n0_ n1_; clear ho hb hg hat))
                  go_roundg k2
                  case measure => have := HJ2.out; have := HK2.out; omega
                  case rel => exact ⟨(wrap64 (x0_2 + (ji14))), (y109), (by first | rfl | (simp; done) | (simp only [← hji14] <;> (first | rfl | simp)) | (simp [*]; done)), H', ⟨by have := HJ2.out; have := HK2.out; omega⟩, ⟨by (with_reducible repeat (first | apply Kd.R_alloc | apply Kd.R_drewN | apply Kd.R_drew)); exact HO111.out⟩, ⟨by repeat (first | (with_reducible first | exact HB.out | apply below_alloc | apply pw_below_drewN | apply below_drew1) | exact HB.out)⟩⟩
                · rw [if_neg c13] at H
                  exact absurd H (by simp)
              · rw [if_neg c12] at H
                exact absurd H (by simp)
            · rw [if_neg c7] at H
              have c7b0 : decide (x0_2 < a1) = false := decide_eq_false c7
              clear c7
              simp only [Option.some.injEq, Prod.mk.injEq] at H
              obtain ⟨rfl, rfl⟩ := H
              go_wp2
              go_ret2
              exact ⟨_, by first | rfl | (simp [errW_none, errW_some] <;> rfl) | (simp [*, errW_none, errW_some] <;> rfl), by (with_reducible repeat (first | apply Kd.R_alloc | apply Kd.R_drewN | apply Kd.R_drew)); exact HO_6.out, by repeat (first | (with_reducible first | exact HB.out | apply below_alloc | apply pw_below_drewN | apply below_drew1) | exact HB.out)⟩

/-! ### paviorlaw01_up: function 11 -/
def paviorlaw01_up.f (k : Nat)  : Option (Bool) := (word_Field.f 240 4 4).bind fun bt112 => ((word_Put.f 0 60 4 15).bind fun bt114 => ((word_Cut.f k 3 9).bind fun bt116 => (if bt112.2.isNone = true then (if bt112.1 = 15 then (if bt114.2.isNone = true then (if bt114.1 = 17293822569102704640 then (if bt116.2.isNone = true then (if (bt116.1.length : Int) = 3 then (if 0 < (bt116.1.length : Int) then (if (((rd_T39 bt116.1 0).f0) == 3 && (((rd_T39 bt116.1 0).f1) == 0)) = true then (if 1 < (bt116.1.length : Int) then (if (((rd_T39 bt116.1 1).f0) == 4 && (((rd_T39 bt116.1 1).f1) == 2)) = true then (if 2 < (bt116.1.length : Int) then (some (((rd_T39 bt116.1 2).f0) == 8 && (((rd_T39 bt116.1 2).f1) == 0))) else (none)) else (some false)) else (none)) else (some false)) else (none)) else (some false)) else (some false)) else (some false)) else (some false)) else (some false)) else (some false))))
theorem paviorlaw01_up.mono : ∀ k, LeO (paviorlaw01_up.f k ) (paviorlaw01_up.f (k + 1) ) := by
  intro  k
  unfold paviorlaw01_up.f
  repeat' first
      | (with_reducible exact word_Cut.mono _ _ _)
      | (with_reducible exact LeO.refl _)
      | (with_reducible exact LeO.none _)
      | (with_reducible refine LeO.ite ?_ ?_)
      | (with_reducible refine LeO.bind ?_ (fun _ => ?_))
      | exact word_Cut.mono _ _ _
      | exact LeO.none _
      | refine LeO.ite ?_ ?_
      | refine LeO.bind ?_ (fun _ => ?_)
set_option maxHeartbeats 8000000 in
set_option maxRecDepth 100000 in
theorem paviorlaw01_up.calls (k : Nat)  (r : Bool) (w : World) (hT : Tab w) (h : paviorlaw01_up.f k  = some r) :
    Calls Tryd.prog 11 #[] w fun e w' => e = .returned (.bool r) ∧ Below w.heap.size w w' := by
  have hu39 := Tryd.underlying39
  have hu25 := Tryd.underlying25
  have hu30 := Tryd.underlying30
  have HB := Aside0.mk (Below.refl w.heap.size w)
  have hTB := Aside0.mk hT
  clear hT
  have H : ((word_Field.f 240 4 4).bind fun bt112 => ((word_Put.f 0 60 4 15).bind fun bt114 => ((word_Cut.f k 3 9).bind fun bt116 => (if bt112.2.isNone = true then (if bt112.1 = 15 then (if bt114.2.isNone = true then (if bt114.1 = 17293822569102704640 then (if bt116.2.isNone = true then (if (bt116.1.length : Int) = 3 then (if 0 < (bt116.1.length : Int) then (if (((rd_T39 bt116.1 0).f0) == 3 && (((rd_T39 bt116.1 0).f1) == 0)) = true then (if 1 < (bt116.1.length : Int) then (if (((rd_T39 bt116.1 1).f0) == 4 && (((rd_T39 bt116.1 1).f1) == 2)) = true then (if 2 < (bt116.1.length : Int) then (some (((rd_T39 bt116.1 2).f0) == 8 && (((rd_T39 bt116.1 2).f1) == 0))) else (none)) else (some false)) else (none)) else (some false)) else (none)) else (some false)) else (some false)) else (some false)) else (some false)) else (some false)) else (some false))))) = some r := h
  clear h
  replace H := Option.bind_eq_some_iff.mp H
  obtain ⟨⟨t112, t113⟩, A10, H⟩ := H
  replace H : ((word_Put.f 0 60 4 15).bind fun bt114 => ((word_Cut.f k 3 9).bind fun bt116 => (if t113.isNone = true then (if t112 = 15 then (if bt114.2.isNone = true then (if bt114.1 = 17293822569102704640 then (if bt116.2.isNone = true then (if (bt116.1.length : Int) = 3 then (if 0 < (bt116.1.length : Int) then (if (((rd_T39 bt116.1 0).f0) == 3 && (((rd_T39 bt116.1 0).f1) == 0)) = true then (if 1 < (bt116.1.length : Int) then (if (((rd_T39 bt116.1 1).f0) == 4 && (((rd_T39 bt116.1 1).f1) == 2)) = true then (if 2 < (bt116.1.length : Int) then (some (((rd_T39 bt116.1 2).f0) == 8 && (((rd_T39 bt116.1 2).f1) == 0))) else (none)) else (some false)) else (none)) else (some false)) else (none)) else (some false)) else (some false)) else (some false)) else (some false)) else (some false)) else (some false)))) = some r := H
  have A1 := Aside0.mk A10
  clear A10
  replace H := Option.bind_eq_some_iff.mp H
  obtain ⟨⟨t114, t115⟩, A20, H⟩ := H
  replace H : ((word_Cut.f k 3 9).bind fun bt116 => (if t113.isNone = true then (if t112 = 15 then (if t115.isNone = true then (if t114 = 17293822569102704640 then (if bt116.2.isNone = true then (if (bt116.1.length : Int) = 3 then (if 0 < (bt116.1.length : Int) then (if (((rd_T39 bt116.1 0).f0) == 3 && (((rd_T39 bt116.1 0).f1) == 0)) = true then (if 1 < (bt116.1.length : Int) then (if (((rd_T39 bt116.1 1).f0) == 4 && (((rd_T39 bt116.1 1).f1) == 2)) = true then (if 2 < (bt116.1.length : Int) then (some (((rd_T39 bt116.1 2).f0) == 8 && (((rd_T39 bt116.1 2).f1) == 0))) else (none)) else (some false)) else (none)) else (some false)) else (none)) else (some false)) else (some false)) else (some false)) else (some false)) else (some false)) else (some false))) = some r := H
  have A2 := Aside0.mk A20
  clear A20
  replace H := Option.bind_eq_some_iff.mp H
  obtain ⟨⟨t116, t117⟩, A30, H⟩ := H
  replace H : (if t113.isNone = true then (if t112 = 15 then (if t115.isNone = true then (if t114 = 17293822569102704640 then (if t117.isNone = true then (if (t116.length : Int) = 3 then (if 0 < (t116.length : Int) then (if (((rd_T39 t116 0).f0) == 3 && (((rd_T39 t116 0).f1) == 0)) = true then (if 1 < (t116.length : Int) then (if (((rd_T39 t116 1).f0) == 4 && (((rd_T39 t116 1).f1) == 2)) = true then (if 2 < (t116.length : Int) then (some (((rd_T39 t116 2).f0) == 8 && (((rd_T39 t116 2).f1) == 0))) else (none)) else (some false)) else (none)) else (some false)) else (none)) else (some false)) else (some false)) else (some false)) else (some false)) else (some false)) else (some false)) = some r := H
  have A3 := Aside0.mk A30
  clear A30
  rcases t113 with _ | q120
  · have H1 : (if t112 = 15 then (if t115.isNone = true then (if t114 = 17293822569102704640 then (if t117.isNone = true then (if (t116.length : Int) = 3 then (if 0 < (t116.length : Int) then (if (((rd_T39 t116 0).f0) == 3 && (((rd_T39 t116 0).f1) == 0)) = true then (if 1 < (t116.length : Int) then (if (((rd_T39 t116 1).f0) == 4 && (((rd_T39 t116 1).f1) == 2)) = true then (if 2 < (t116.length : Int) then (some (((rd_T39 t116 2).f0) == 8 && (((rd_T39 t116 2).f1) == 0))) else (none)) else (some false)) else (none)) else (some false)) else (none)) else (some false)) else (some false)) else (some false)) else (some false)) else (some false)) = some r := by rw [if_pos (show (none : Option Int).isNone = true by rfl)] at H; exact H
    clear H
    have H := H1
    clear H1
    try simp only [errW_none, errW_some]
    by_cases c4 : t112 = 15
    · rw [if_pos c4] at H
      have c4b0 : (t112 == 15) = true := beq_iff_eq.mpr c4
      have c4b1 : (t112 != 15) = false := bne_eq_false_iff_eq.mpr c4
      clear c4
      rcases t115 with _ | q121
      · have H1 : (if t114 = 17293822569102704640 then (if t117.isNone = true then (if (t116.length : Int) = 3 then (if 0 < (t116.length : Int) then (if (((rd_T39 t116 0).f0) == 3 && (((rd_T39 t116 0).f1) == 0)) = true then (if 1 < (t116.length : Int) then (if (((rd_T39 t116 1).f0) == 4 && (((rd_T39 t116 1).f1) == 2)) = true then (if 2 < (t116.length : Int) then (some (((rd_T39 t116 2).f0) == 8 && (((rd_T39 t116 2).f1) == 0))) else (none)) else (some false)) else (none)) else (some false)) else (none)) else (some false)) else (some false)) else (some false)) = some r := by rw [if_pos (show (none : Option Int).isNone = true by rfl)] at H; exact H
        clear H
        have H := H1
        clear H1
        try simp only [errW_none, errW_some]
        by_cases c5 : t114 = 17293822569102704640
        · rw [if_pos c5] at H
          have c5b0 : (t114 == 17293822569102704640) = true := beq_iff_eq.mpr c5
          have c5b1 : (t114 != 17293822569102704640) = false := bne_eq_false_iff_eq.mpr c5
          clear c5
          rcases t117 with _ | q122
          · have H1 : (if (t116.length : Int) = 3 then (if 0 < (t116.length : Int) then (if (((rd_T39 t116 0).f0) == 3 && (((rd_T39 t116 0).f1) == 0)) = true then (if 1 < (t116.length : Int) then (if (((rd_T39 t116 1).f0) == 4 && (((rd_T39 t116 1).f1) == 2)) = true then (if 2 < (t116.length : Int) then (some (((rd_T39 t116 2).f0) == 8 && (((rd_T39 t116 2).f1) == 0))) else (none)) else (some false)) else (none)) else (some false)) else (none)) else (some false)) = some r := by rw [if_pos (show (none : Option Int).isNone = true by rfl)] at H; exact H
            clear H
            have H := H1
            clear H1
            try simp only [errW_none, errW_some]
            by_cases c6 : (t116.length : Int) = 3
            · rw [if_pos c6] at H
              have c6b0 : ((t116.length : Int) == 3) = true := beq_iff_eq.mpr c6
              have c6b1 : ((t116.length : Int) != 3) = false := bne_eq_false_iff_eq.mpr c6
              clear c6
              by_cases c7 : 0 < (t116.length : Int)
              · rw [if_pos c7] at H
                have c7b0 : decide (0 < (t116.length : Int)) = true := decide_eq_true c7
                have c7b1 : decide (0 < t116.length) = true := decide_eq_true (by omega)
                clear c7
                by_cases c8 : (((rd_T39 t116 0).f0) == 3 && (((rd_T39 t116 0).f1) == 0)) = true
                · rw [if_pos c8] at H
                  have c8b0 : (((rd_T39 t116 0).f0) == 3 && (((rd_T39 t116 0).f1) == 0)) = true := c8
                  (try (have c8b1 : decide (((rd_T39 t116 0).f0) = 3 && (((rd_T39 t116 0).f1) == 0)) = true := by simpa using c8))
                  (try (have c8b2 : (((rd_T39 t116 0).f0) == 3 && (((rd_T39 t116 0).f1) == 0)) = true := by simpa using c8))
                  clear c8
                  by_cases c9 : 1 < (t116.length : Int)
                  · rw [if_pos c9] at H
                    have c9b0 : decide (1 < (t116.length : Int)) = true := decide_eq_true c9
                    have c9b1 : decide (1 < t116.length) = true := decide_eq_true (by omega)
                    clear c9
                    by_cases c10 : (((rd_T39 t116 1).f0) == 4 && (((rd_T39 t116 1).f1) == 2)) = true
                    · rw [if_pos c10] at H
                      have c10b0 : (((rd_T39 t116 1).f0) == 4 && (((rd_T39 t116 1).f1) == 2)) = true := c10
                      (try (have c10b1 : decide (((rd_T39 t116 1).f0) = 4 && (((rd_T39 t116 1).f1) == 2)) = true := by simpa using c10))
                      (try (have c10b2 : (((rd_T39 t116 1).f0) == 4 && (((rd_T39 t116 1).f1) == 2)) = true := by simpa using c10))
                      clear c10
                      by_cases c11 : 2 < (t116.length : Int)
                      · rw [if_pos c11] at H
                        have c11b0 : decide (2 < (t116.length : Int)) = true := decide_eq_true c11
                        have c11b1 : decide (2 < t116.length) = true := decide_eq_true (by omega)
                        clear c11
                        obtain rfl := Option.some.inj H
                        go_enter Tryd.func11, Tryd.ntmps11
                        go_wp2_with (first | ((with_reducible refine gate_callee (f := 12) rfl ?_); refine goesL_ (some 8) rfl rfl Tryd.func12 (by kernel_rfl) rfl #[.int .u64 240, .int .i64 4, .int .i64 4] rfl (by (try simp only [List.map_toArray, List.map_cons, List.map_nil]); first | done | rfl | (simp only [List.length_drop, List.length_take]; rfl)) ?_; (with_reducible refine (word_Field.calls 240 4 4 t112 none _ A1.out).mono ?_); rintro e w' ⟨rfl, ⟨nd, rfl⟩⟩; refine ⟨_, rfl, ?_⟩; (try simp only [errW_none, errW_some])) | ((with_reducible refine gate_callee (f := 13) rfl ?_); refine goesL_ (some 12) rfl rfl Tryd.func13 (by kernel_rfl) rfl #[.int .u64 0, .int .i64 60, .int .i64 4, .int .u64 15] rfl (by (try simp only [List.map_toArray, List.map_cons, List.map_nil]); first | done | rfl | (simp only [List.length_drop, List.length_take]; rfl)) ?_; (with_reducible refine (word_Put.calls 0 60 4 15 t114 none _ A2.out).mono ?_); rintro e w' ⟨rfl, ⟨nd, rfl⟩⟩; refine ⟨_, rfl, ?_⟩; (try simp only [errW_none, errW_some])) | ((with_reducible refine gate_callee (f := 18) rfl ?_); refine goesL_ (some 16) rfl rfl Tryd.func18 (by kernel_rfl) rfl #[.int .i64 3, .int .i64 9] rfl (by (try simp only [List.map_toArray, List.map_cons, List.map_nil]); first | done | rfl | (simp only [List.length_drop, List.length_take]; rfl)) ?_; (with_reducible refine (word_Cut.calls k 3 9 t116 none _ ?side1 A3.out).mono ?_); (case side1 => exact tab_below hTB.out (by repeat (first | (with_reducible first | exact HB.out | apply below_alloc | apply pw_below_drewN | apply below_drew1) | exact HB.out))); rintro e w12 ⟨v118, rfl, ho0, hb⟩; refine ⟨_, rfl, ?_⟩; have n0_ := Aside0.mk (Kd.R_lower ho0 (below_size (by repeat (first | (with_reducible first | exact HB.out | apply below_alloc | apply pw_below_drewN | apply below_drew1) | exact HB.out)))); have n1_ := Aside0.mk (below_step (by repeat (first | (with_reducible first | exact HB.out | apply below_alloc | apply pw_below_drewN | apply below_drew1) | exact HB.out)) hb); clear HB; have HO119 := n0_; have HB := n1_; clear n0_ n1_; (try clear hb); (try clear hb2); (try clear hk); (try clear hi); (try clear ho0); (try simp only [errW_none, errW_some]); obtain ⟨Ao13, co13, eo13⟩ := Kd.R_slice HO119.out; subst eo13; have p123 : 0 ≤ (0 : Int) := (by omega); have q123 : 0 < (t116.length : Int) := of_decide_eq_true (by first | (with_reducible assumption) | assumption); obtain ⟨ad123, e123, hx123_0, hx123_1⟩ := at_T39 (Kd.R_reads' HO119.out).2.2 0 p123 q123; cases e123; have qi123 : (0 < t116.length) = True := eq_true (by omega); (try rw [show ((0 : Int)).toNat = 0 from rfl] at hx123_0); (try rw [show 0 * 2 = 0 from rfl] at hx123_0); (try rw [Addr.add_zero'] at hx123_0); (try rw [show ((0 : Int)).toNat = 0 from rfl] at hx123_1); (try rw [show 0 * 2 = 0 from rfl] at hx123_1); (try rw [Addr.add_zero'] at hx123_1); replace p123 := eq_true p123; replace q123 := eq_true q123; have p124 : 0 ≤ (1 : Int) := (by omega); have q124 : 1 < (t116.length : Int) := of_decide_eq_true (by first | (with_reducible assumption) | assumption); obtain ⟨ad124, e124, hx124_0, hx124_1⟩ := at_T39 (Kd.R_reads' HO119.out).2.2 1 p124 q124; obtain rfl : ad123 = ad124 := (by injection e124); (try simp only [show (1 : Int).toNat = 1 from rfl, Nat.reduceMul, Nat.reduceEqDiff, Go.Addr.add, ↓reduceIte] at hx124_0); (try simp only [show (1 : Int).toNat = 1 from rfl, Nat.reduceMul, Nat.reduceEqDiff, Go.Addr.add, ↓reduceIte] at hx124_1); have qi124 : (1 < t116.length) = True := eq_true (by omega); (try rw [show ((1 : Int)).toNat = 1 from rfl] at hx124_0); (try rw [show 1 * 2 = 2 from rfl] at hx124_0); (try rw [show ((1 : Int)).toNat = 1 from rfl] at hx124_1); (try rw [show 1 * 2 = 2 from rfl] at hx124_1); replace p124 := eq_true p124; replace q124 := eq_true q124; have p125 : 0 ≤ (2 : Int) := (by omega); have q125 : 2 < (t116.length : Int) := of_decide_eq_true (by first | (with_reducible assumption) | assumption); obtain ⟨ad125, e125, hx125_0, hx125_1⟩ := at_T39 (Kd.R_reads' HO119.out).2.2 2 p125 q125; obtain rfl : ad123 = ad125 := (by injection e125); (try simp only [show (2 : Int).toNat = 2 from rfl, Nat.reduceMul, Nat.reduceEqDiff, Go.Addr.add, ↓reduceIte] at hx125_0); (try simp only [show (2 : Int).toNat = 2 from rfl, Nat.reduceMul, Nat.reduceEqDiff, Go.Addr.add, ↓reduceIte] at hx125_1); have qi125 : (2 < t116.length) = True := eq_true (by omega); (try rw [show ((2 : Int)).toNat = 2 from rfl] at hx125_0); (try rw [show 2 * 2 = 4 from rfl] at hx125_0); (try rw [show ((2 : Int)).toNat = 2 from rfl] at hx125_1); (try rw [show 2 * 2 = 4 from rfl] at hx125_1); replace p125 := eq_true p125; replace q125 := eq_true q125))
                        go_ret
                        exact ⟨by first | rfl | (simp [errW_none, errW_some] <;> rfl) | (simp [*, errW_none, errW_some] <;> rfl), by repeat (first | (with_reducible first | exact HB.out | apply below_alloc | apply pw_below_drewN | apply below_drew1) | exact HB.out)⟩
                      · rw [if_neg c11] at H
                        exact absurd H (by simp)
                    · rw [if_neg c10] at H
                      have c10b0 : (((rd_T39 t116 1).f0) == 4 && (((rd_T39 t116 1).f1) == 2)) = false := by simpa using c10
                      (try (have c10b1 : decide (((rd_T39 t116 1).f0) = 4 && (((rd_T39 t116 1).f1) == 2)) = false := by simpa using c10))
                      (try (have c10b2 : (((rd_T39 t116 1).f0) == 4 && (((rd_T39 t116 1).f1) == 2)) = false := by simpa using c10))
                      (try (have c10b3 : ¬ (((rd_T39 t116 1).f0) = 4 && (((rd_T39 t116 1).f1) == 2)) := by simpa using c10))
                      clear c10
                      obtain rfl := Option.some.inj H
                      go_enter Tryd.func11, Tryd.ntmps11
                      go_wp2_with (first | ((with_reducible refine gate_callee (f := 12) rfl ?_); refine goesL_ (some 8) rfl rfl Tryd.func12 (by kernel_rfl) rfl #[.int .u64 240, .int .i64 4, .int .i64 4] rfl (by (try simp only [List.map_toArray, List.map_cons, List.map_nil]); first | done | rfl | (simp only [List.length_drop, List.length_take]; rfl)) ?_; (with_reducible refine (word_Field.calls 240 4 4 t112 none _ A1.out).mono ?_); rintro e w' ⟨rfl, ⟨nd, rfl⟩⟩; refine ⟨_, rfl, ?_⟩; (try simp only [errW_none, errW_some])) | ((with_reducible refine gate_callee (f := 13) rfl ?_); refine goesL_ (some 12) rfl rfl Tryd.func13 (by kernel_rfl) rfl #[.int .u64 0, .int .i64 60, .int .i64 4, .int .u64 15] rfl (by (try simp only [List.map_toArray, List.map_cons, List.map_nil]); first | done | rfl | (simp only [List.length_drop, List.length_take]; rfl)) ?_; (with_reducible refine (word_Put.calls 0 60 4 15 t114 none _ A2.out).mono ?_); rintro e w' ⟨rfl, ⟨nd, rfl⟩⟩; refine ⟨_, rfl, ?_⟩; (try simp only [errW_none, errW_some])) | ((with_reducible refine gate_callee (f := 18) rfl ?_); refine goesL_ (some 16) rfl rfl Tryd.func18 (by kernel_rfl) rfl #[.int .i64 3, .int .i64 9] rfl (by (try simp only [List.map_toArray, List.map_cons, List.map_nil]); first | done | rfl | (simp only [List.length_drop, List.length_take]; rfl)) ?_; (with_reducible refine (word_Cut.calls k 3 9 t116 none _ ?side1 A3.out).mono ?_); (case side1 => exact tab_below hTB.out (by repeat (first | (with_reducible first | exact HB.out | apply below_alloc | apply pw_below_drewN | apply below_drew1) | exact HB.out))); rintro e w14 ⟨v118, rfl, ho0, hb⟩; refine ⟨_, rfl, ?_⟩; have n0_ := Aside0.mk (Kd.R_lower ho0 (below_size (by repeat (first | (with_reducible first | exact HB.out | apply below_alloc | apply pw_below_drewN | apply below_drew1) | exact HB.out)))); have n1_ := Aside0.mk (below_step (by repeat (first | (with_reducible first | exact HB.out | apply below_alloc | apply pw_below_drewN | apply below_drew1) | exact HB.out)) hb); clear HB; have HO119 := n0_; have HB := n1_; clear n0_ n1_; (try clear hb); (try clear hb2); (try clear hk); (try clear hi); (try clear ho0); (try simp only [errW_none, errW_some]); obtain ⟨Ao15, co15, eo15⟩ := Kd.R_slice HO119.out; subst eo15; have p123 : 0 ≤ (0 : Int) := (by omega); have q123 : 0 < (t116.length : Int) := of_decide_eq_true (by first | (with_reducible assumption) | assumption); obtain ⟨ad123, e123, hx123_0, hx123_1⟩ := at_T39 (Kd.R_reads' HO119.out).2.2 0 p123 q123; cases e123; have qi123 : (0 < t116.length) = True := eq_true (by omega); (try rw [show ((0 : Int)).toNat = 0 from rfl] at hx123_0); (try rw [show 0 * 2 = 0 from rfl] at hx123_0); (try rw [Addr.add_zero'] at hx123_0); (try rw [show ((0 : Int)).toNat = 0 from rfl] at hx123_1); (try rw [show 0 * 2 = 0 from rfl] at hx123_1); (try rw [Addr.add_zero'] at hx123_1); replace p123 := eq_true p123; replace q123 := eq_true q123; have p124 : 0 ≤ (1 : Int) := (by omega); have q124 : 1 < (t116.length : Int) := of_decide_eq_true (by first | (with_reducible assumption) | assumption); obtain ⟨ad124, e124, hx124_0, hx124_1⟩ := at_T39 (Kd.R_reads' HO119.out).2.2 1 p124 q124; obtain rfl : ad123 = ad124 := (by injection e124); (try simp only [show (1 : Int).toNat = 1 from rfl, Nat.reduceMul, Nat.reduceEqDiff, Go.Addr.add, ↓reduceIte] at hx124_0); (try simp only [show (1 : Int).toNat = 1 from rfl, Nat.reduceMul, Nat.reduceEqDiff, Go.Addr.add, ↓reduceIte] at hx124_1); have qi124 : (1 < t116.length) = True := eq_true (by omega); (try rw [show ((1 : Int)).toNat = 1 from rfl] at hx124_0); (try rw [show 1 * 2 = 2 from rfl] at hx124_0); (try rw [show ((1 : Int)).toNat = 1 from rfl] at hx124_1); (try rw [show 1 * 2 = 2 from rfl] at hx124_1); replace p124 := eq_true p124; replace q124 := eq_true q124))
                      go_ret
                      exact ⟨by first | rfl | (simp [errW_none, errW_some] <;> rfl) | (simp [*, errW_none, errW_some] <;> rfl), by repeat (first | (with_reducible first | exact HB.out | apply below_alloc | apply pw_below_drewN | apply below_drew1) | exact HB.out)⟩
                  · rw [if_neg c9] at H
                    exact absurd H (by simp)
                · rw [if_neg c8] at H
                  have c8b0 : (((rd_T39 t116 0).f0) == 3 && (((rd_T39 t116 0).f1) == 0)) = false := by simpa using c8
                  (try (have c8b1 : decide (((rd_T39 t116 0).f0) = 3 && (((rd_T39 t116 0).f1) == 0)) = false := by simpa using c8))
                  (try (have c8b2 : (((rd_T39 t116 0).f0) == 3 && (((rd_T39 t116 0).f1) == 0)) = false := by simpa using c8))
                  (try (have c8b3 : ¬ (((rd_T39 t116 0).f0) = 3 && (((rd_T39 t116 0).f1) == 0)) := by simpa using c8))
                  clear c8
                  obtain rfl := Option.some.inj H
                  go_enter Tryd.func11, Tryd.ntmps11
                  go_wp2_with (first | ((with_reducible refine gate_callee (f := 12) rfl ?_); refine goesL_ (some 8) rfl rfl Tryd.func12 (by kernel_rfl) rfl #[.int .u64 240, .int .i64 4, .int .i64 4] rfl (by (try simp only [List.map_toArray, List.map_cons, List.map_nil]); first | done | rfl | (simp only [List.length_drop, List.length_take]; rfl)) ?_; (with_reducible refine (word_Field.calls 240 4 4 t112 none _ A1.out).mono ?_); rintro e w' ⟨rfl, ⟨nd, rfl⟩⟩; refine ⟨_, rfl, ?_⟩; (try simp only [errW_none, errW_some])) | ((with_reducible refine gate_callee (f := 13) rfl ?_); refine goesL_ (some 12) rfl rfl Tryd.func13 (by kernel_rfl) rfl #[.int .u64 0, .int .i64 60, .int .i64 4, .int .u64 15] rfl (by (try simp only [List.map_toArray, List.map_cons, List.map_nil]); first | done | rfl | (simp only [List.length_drop, List.length_take]; rfl)) ?_; (with_reducible refine (word_Put.calls 0 60 4 15 t114 none _ A2.out).mono ?_); rintro e w' ⟨rfl, ⟨nd, rfl⟩⟩; refine ⟨_, rfl, ?_⟩; (try simp only [errW_none, errW_some])) | ((with_reducible refine gate_callee (f := 18) rfl ?_); refine goesL_ (some 16) rfl rfl Tryd.func18 (by kernel_rfl) rfl #[.int .i64 3, .int .i64 9] rfl (by (try simp only [List.map_toArray, List.map_cons, List.map_nil]); first | done | rfl | (simp only [List.length_drop, List.length_take]; rfl)) ?_; (with_reducible refine (word_Cut.calls k 3 9 t116 none _ ?side1 A3.out).mono ?_); (case side1 => exact tab_below hTB.out (by repeat (first | (with_reducible first | exact HB.out | apply below_alloc | apply pw_below_drewN | apply below_drew1) | exact HB.out))); rintro e w16 ⟨v118, rfl, ho0, hb⟩; refine ⟨_, rfl, ?_⟩; have n0_ := Aside0.mk (Kd.R_lower ho0 (below_size (by repeat (first | (with_reducible first | exact HB.out | apply below_alloc | apply pw_below_drewN | apply below_drew1) | exact HB.out)))); have n1_ := Aside0.mk (below_step (by repeat (first | (with_reducible first | exact HB.out | apply below_alloc | apply pw_below_drewN | apply below_drew1) | exact HB.out)) hb); clear HB; have HO119 := n0_; have HB := n1_; clear n0_ n1_; (try clear hb); (try clear hb2); (try clear hk); (try clear hi); (try clear ho0); (try simp only [errW_none, errW_some]); obtain ⟨Ao17, co17, eo17⟩ := Kd.R_slice HO119.out; subst eo17; have p123 : 0 ≤ (0 : Int) := (by omega); have q123 : 0 < (t116.length : Int) := of_decide_eq_true (by first | (with_reducible assumption) | assumption); obtain ⟨ad123, e123, hx123_0, hx123_1⟩ := at_T39 (Kd.R_reads' HO119.out).2.2 0 p123 q123; cases e123; have qi123 : (0 < t116.length) = True := eq_true (by omega); (try rw [show ((0 : Int)).toNat = 0 from rfl] at hx123_0); (try rw [show 0 * 2 = 0 from rfl] at hx123_0); (try rw [Addr.add_zero'] at hx123_0); (try rw [show ((0 : Int)).toNat = 0 from rfl] at hx123_1); (try rw [show 0 * 2 = 0 from rfl] at hx123_1); (try rw [Addr.add_zero'] at hx123_1); replace p123 := eq_true p123; replace q123 := eq_true q123))
                  go_ret
                  exact ⟨by first | rfl | (simp [errW_none, errW_some] <;> rfl) | (simp [*, errW_none, errW_some] <;> rfl), by repeat (first | (with_reducible first | exact HB.out | apply below_alloc | apply pw_below_drewN | apply below_drew1) | exact HB.out)⟩
              · rw [if_neg c7] at H
                exact absurd H (by simp)
            · rw [if_neg c6] at H
              have c6b0 : ((t116.length : Int) == 3) = false := beq_eq_false_iff_ne.mpr c6
              have c6b1 : ((t116.length : Int) != 3) = true := bne_iff_ne.mpr c6
              obtain rfl := Option.some.inj H
              go_enter Tryd.func11, Tryd.ntmps11
              go_wp2_with (first | ((with_reducible refine gate_callee (f := 12) rfl ?_); refine goesL_ (some 8) rfl rfl Tryd.func12 (by kernel_rfl) rfl #[.int .u64 240, .int .i64 4, .int .i64 4] rfl (by (try simp only [List.map_toArray, List.map_cons, List.map_nil]); first | done | rfl | (simp only [List.length_drop, List.length_take]; rfl)) ?_; (with_reducible refine (word_Field.calls 240 4 4 t112 none _ A1.out).mono ?_); rintro e w' ⟨rfl, ⟨nd, rfl⟩⟩; refine ⟨_, rfl, ?_⟩; (try simp only [errW_none, errW_some])) | ((with_reducible refine gate_callee (f := 13) rfl ?_); refine goesL_ (some 12) rfl rfl Tryd.func13 (by kernel_rfl) rfl #[.int .u64 0, .int .i64 60, .int .i64 4, .int .u64 15] rfl (by (try simp only [List.map_toArray, List.map_cons, List.map_nil]); first | done | rfl | (simp only [List.length_drop, List.length_take]; rfl)) ?_; (with_reducible refine (word_Put.calls 0 60 4 15 t114 none _ A2.out).mono ?_); rintro e w' ⟨rfl, ⟨nd, rfl⟩⟩; refine ⟨_, rfl, ?_⟩; (try simp only [errW_none, errW_some])) | ((with_reducible refine gate_callee (f := 18) rfl ?_); refine goesL_ (some 16) rfl rfl Tryd.func18 (by kernel_rfl) rfl #[.int .i64 3, .int .i64 9] rfl (by (try simp only [List.map_toArray, List.map_cons, List.map_nil]); first | done | rfl | (simp only [List.length_drop, List.length_take]; rfl)) ?_; (with_reducible refine (word_Cut.calls k 3 9 t116 none _ ?side1 A3.out).mono ?_); (case side1 => exact tab_below hTB.out (by repeat (first | (with_reducible first | exact HB.out | apply below_alloc | apply pw_below_drewN | apply below_drew1) | exact HB.out))); rintro e w18 ⟨v118, rfl, ho0, hb⟩; refine ⟨_, rfl, ?_⟩; have n0_ := Aside0.mk (Kd.R_lower ho0 (below_size (by repeat (first | (with_reducible first | exact HB.out | apply below_alloc | apply pw_below_drewN | apply below_drew1) | exact HB.out)))); have n1_ := Aside0.mk (below_step (by repeat (first | (with_reducible first | exact HB.out | apply below_alloc | apply pw_below_drewN | apply below_drew1) | exact HB.out)) hb); clear HB; have HO119 := n0_; have HB := n1_; clear n0_ n1_; (try clear hb); (try clear hb2); (try clear hk); (try clear hi); (try clear ho0); (try simp only [errW_none, errW_some]); obtain ⟨Ao19, co19, eo19⟩ := Kd.R_slice HO119.out; subst eo19))
              go_ret
              exact ⟨by first | rfl | (simp [errW_none, errW_some] <;> rfl) | (simp [*, errW_none, errW_some] <;> rfl), by repeat (first | (with_reducible first | exact HB.out | apply below_alloc | apply pw_below_drewN | apply below_drew1) | exact HB.out)⟩
          · have H1 : (some false) = some r := by rw [if_neg (show ¬ (some q122).isNone = true by simp)] at H; exact H
            clear H
            have H := H1
            clear H1
            try simp only [errW_none, errW_some]
            obtain rfl := Option.some.inj H
            go_enter Tryd.func11, Tryd.ntmps11
            go_wp2_with (first | ((with_reducible refine gate_callee (f := 12) rfl ?_); refine goesL_ (some 8) rfl rfl Tryd.func12 (by kernel_rfl) rfl #[.int .u64 240, .int .i64 4, .int .i64 4] rfl (by (try simp only [List.map_toArray, List.map_cons, List.map_nil]); first | done | rfl | (simp only [List.length_drop, List.length_take]; rfl)) ?_; (with_reducible refine (word_Field.calls 240 4 4 t112 none _ A1.out).mono ?_); rintro e w' ⟨rfl, ⟨nd, rfl⟩⟩; refine ⟨_, rfl, ?_⟩; (try simp only [errW_none, errW_some])) | ((with_reducible refine gate_callee (f := 13) rfl ?_); refine goesL_ (some 12) rfl rfl Tryd.func13 (by kernel_rfl) rfl #[.int .u64 0, .int .i64 60, .int .i64 4, .int .u64 15] rfl (by (try simp only [List.map_toArray, List.map_cons, List.map_nil]); first | done | rfl | (simp only [List.length_drop, List.length_take]; rfl)) ?_; (with_reducible refine (word_Put.calls 0 60 4 15 t114 none _ A2.out).mono ?_); rintro e w' ⟨rfl, ⟨nd, rfl⟩⟩; refine ⟨_, rfl, ?_⟩; (try simp only [errW_none, errW_some])) | ((with_reducible refine gate_callee (f := 18) rfl ?_); refine goesL_ (some 16) rfl rfl Tryd.func18 (by kernel_rfl) rfl #[.int .i64 3, .int .i64 9] rfl (by (try simp only [List.map_toArray, List.map_cons, List.map_nil]); first | done | rfl | (simp only [List.length_drop, List.length_take]; rfl)) ?_; (with_reducible refine (word_Cut.calls k 3 9 t116 (some q122) _ ?side1 A3.out).mono ?_); (case side1 => exact tab_below hTB.out (by repeat (first | (with_reducible first | exact HB.out | apply below_alloc | apply pw_below_drewN | apply below_drew1) | exact HB.out))); rintro e w20 ⟨v118, rfl, ho0, hb⟩; refine ⟨_, rfl, ?_⟩; have n0_ := Aside0.mk (Kd.R_lower ho0 (below_size (by repeat (first | (with_reducible first | exact HB.out | apply below_alloc | apply pw_below_drewN | apply below_drew1) | exact HB.out)))); have n1_ := Aside0.mk (below_step (by repeat (first | (with_reducible first | exact HB.out | apply below_alloc | apply pw_below_drewN | apply below_drew1) | exact HB.out)) hb); clear HB; have HO119 := n0_; have HB := n1_; clear n0_ n1_; (try clear hb); (try clear hb2); (try clear hk); (try clear hi); (try clear ho0); (try simp only [errW_none, errW_some])))
            go_ret
            exact ⟨by first | rfl | (simp [errW_none, errW_some] <;> rfl) | (simp [*, errW_none, errW_some] <;> rfl), by repeat (first | (with_reducible first | exact HB.out | apply below_alloc | apply pw_below_drewN | apply below_drew1) | exact HB.out)⟩
        · rw [if_neg c5] at H
          have c5b0 : (t114 == 17293822569102704640) = false := beq_eq_false_iff_ne.mpr c5
          have c5b1 : (t114 != 17293822569102704640) = true := bne_iff_ne.mpr c5
          obtain rfl := Option.some.inj H
          go_enter Tryd.func11, Tryd.ntmps11
          go_wp2_with (first | ((with_reducible refine gate_callee (f := 12) rfl ?_); refine goesL_ (some 8) rfl rfl Tryd.func12 (by kernel_rfl) rfl #[.int .u64 240, .int .i64 4, .int .i64 4] rfl (by (try simp only [List.map_toArray, List.map_cons, List.map_nil]); first | done | rfl | (simp only [List.length_drop, List.length_take]; rfl)) ?_; (with_reducible refine (word_Field.calls 240 4 4 t112 none _ A1.out).mono ?_); rintro e w' ⟨rfl, ⟨nd, rfl⟩⟩; refine ⟨_, rfl, ?_⟩; (try simp only [errW_none, errW_some])) | ((with_reducible refine gate_callee (f := 13) rfl ?_); refine goesL_ (some 12) rfl rfl Tryd.func13 (by kernel_rfl) rfl #[.int .u64 0, .int .i64 60, .int .i64 4, .int .u64 15] rfl (by (try simp only [List.map_toArray, List.map_cons, List.map_nil]); first | done | rfl | (simp only [List.length_drop, List.length_take]; rfl)) ?_; (with_reducible refine (word_Put.calls 0 60 4 15 t114 none _ A2.out).mono ?_); rintro e w' ⟨rfl, ⟨nd, rfl⟩⟩; refine ⟨_, rfl, ?_⟩; (try simp only [errW_none, errW_some])) | ((with_reducible refine gate_callee (f := 18) rfl ?_); refine goesL_ (some 16) rfl rfl Tryd.func18 (by kernel_rfl) rfl #[.int .i64 3, .int .i64 9] rfl (by (try simp only [List.map_toArray, List.map_cons, List.map_nil]); first | done | rfl | (simp only [List.length_drop, List.length_take]; rfl)) ?_; (with_reducible refine (word_Cut.calls k 3 9 t116 t117 _ ?side1 A3.out).mono ?_); (case side1 => exact tab_below hTB.out (by repeat (first | (with_reducible first | exact HB.out | apply below_alloc | apply pw_below_drewN | apply below_drew1) | exact HB.out))); rintro e w21 ⟨v118, rfl, ho0, hb⟩; refine ⟨_, rfl, ?_⟩; have n0_ := Aside0.mk (Kd.R_lower ho0 (below_size (by repeat (first | (with_reducible first | exact HB.out | apply below_alloc | apply pw_below_drewN | apply below_drew1) | exact HB.out)))); have n1_ := Aside0.mk (below_step (by repeat (first | (with_reducible first | exact HB.out | apply below_alloc | apply pw_below_drewN | apply below_drew1) | exact HB.out)) hb); clear HB; have HO119 := n0_; have HB := n1_; clear n0_ n1_; (try clear hb); (try clear hb2); (try clear hk); (try clear hi); (try clear ho0); (try simp only [errW_none, errW_some])))
          go_ret
          exact ⟨by first | rfl | (simp [errW_none, errW_some] <;> rfl) | (simp [*, errW_none, errW_some] <;> rfl), by repeat (first | (with_reducible first | exact HB.out | apply below_alloc | apply pw_below_drewN | apply below_drew1) | exact HB.out)⟩
      · have H1 : (some false) = some r := by rw [if_neg (show ¬ (some q121).isNone = true by simp)] at H; exact H
        clear H
        have H := H1
        clear H1
        try simp only [errW_none, errW_some]
        obtain rfl := Option.some.inj H
        go_enter Tryd.func11, Tryd.ntmps11
        go_wp2_with (first | ((with_reducible refine gate_callee (f := 12) rfl ?_); refine goesL_ (some 8) rfl rfl Tryd.func12 (by kernel_rfl) rfl #[.int .u64 240, .int .i64 4, .int .i64 4] rfl (by (try simp only [List.map_toArray, List.map_cons, List.map_nil]); first | done | rfl | (simp only [List.length_drop, List.length_take]; rfl)) ?_; (with_reducible refine (word_Field.calls 240 4 4 t112 none _ A1.out).mono ?_); rintro e w' ⟨rfl, ⟨nd, rfl⟩⟩; refine ⟨_, rfl, ?_⟩; (try simp only [errW_none, errW_some])) | ((with_reducible refine gate_callee (f := 13) rfl ?_); refine goesL_ (some 12) rfl rfl Tryd.func13 (by kernel_rfl) rfl #[.int .u64 0, .int .i64 60, .int .i64 4, .int .u64 15] rfl (by (try simp only [List.map_toArray, List.map_cons, List.map_nil]); first | done | rfl | (simp only [List.length_drop, List.length_take]; rfl)) ?_; (with_reducible refine (word_Put.calls 0 60 4 15 t114 (some q121) _ A2.out).mono ?_); rintro e w' ⟨rfl, ⟨nd, rfl⟩⟩; refine ⟨_, rfl, ?_⟩; (try simp only [errW_none, errW_some])) | ((with_reducible refine gate_callee (f := 18) rfl ?_); refine goesL_ (some 16) rfl rfl Tryd.func18 (by kernel_rfl) rfl #[.int .i64 3, .int .i64 9] rfl (by (try simp only [List.map_toArray, List.map_cons, List.map_nil]); first | done | rfl | (simp only [List.length_drop, List.length_take]; rfl)) ?_; (with_reducible refine (word_Cut.calls k 3 9 t116 t117 _ ?side1 A3.out).mono ?_); (case side1 => exact tab_below hTB.out (by repeat (first | (with_reducible first | exact HB.out | apply below_alloc | apply pw_below_drewN | apply below_drew1) | exact HB.out))); rintro e w22 ⟨v118, rfl, ho0, hb⟩; refine ⟨_, rfl, ?_⟩; have n0_ := Aside0.mk (Kd.R_lower ho0 (below_size (by repeat (first | (with_reducible first | exact HB.out | apply below_alloc | apply pw_below_drewN | apply below_drew1) | exact HB.out)))); have n1_ := Aside0.mk (below_step (by repeat (first | (with_reducible first | exact HB.out | apply below_alloc | apply pw_below_drewN | apply below_drew1) | exact HB.out)) hb); clear HB; have HO119 := n0_; have HB := n1_; clear n0_ n1_; (try clear hb); (try clear hb2); (try clear hk); (try clear hi); (try clear ho0); (try simp only [errW_none, errW_some])))
        go_ret
        exact ⟨by first | rfl | (simp [errW_none, errW_some] <;> rfl) | (simp [*, errW_none, errW_some] <;> rfl), by repeat (first | (with_reducible first | exact HB.out | apply below_alloc | apply pw_below_drewN | apply below_drew1) | exact HB.out)⟩
    · rw [if_neg c4] at H
      have c4b0 : (t112 == 15) = false := beq_eq_false_iff_ne.mpr c4
      have c4b1 : (t112 != 15) = true := bne_iff_ne.mpr c4
      obtain rfl := Option.some.inj H
      go_enter Tryd.func11, Tryd.ntmps11
      go_wp2_with (first | ((with_reducible refine gate_callee (f := 12) rfl ?_); refine goesL_ (some 8) rfl rfl Tryd.func12 (by kernel_rfl) rfl #[.int .u64 240, .int .i64 4, .int .i64 4] rfl (by (try simp only [List.map_toArray, List.map_cons, List.map_nil]); first | done | rfl | (simp only [List.length_drop, List.length_take]; rfl)) ?_; (with_reducible refine (word_Field.calls 240 4 4 t112 none _ A1.out).mono ?_); rintro e w' ⟨rfl, ⟨nd, rfl⟩⟩; refine ⟨_, rfl, ?_⟩; (try simp only [errW_none, errW_some])) | ((with_reducible refine gate_callee (f := 13) rfl ?_); refine goesL_ (some 12) rfl rfl Tryd.func13 (by kernel_rfl) rfl #[.int .u64 0, .int .i64 60, .int .i64 4, .int .u64 15] rfl (by (try simp only [List.map_toArray, List.map_cons, List.map_nil]); first | done | rfl | (simp only [List.length_drop, List.length_take]; rfl)) ?_; (with_reducible refine (word_Put.calls 0 60 4 15 t114 t115 _ A2.out).mono ?_); rintro e w' ⟨rfl, ⟨nd, rfl⟩⟩; refine ⟨_, rfl, ?_⟩; (try simp only [errW_none, errW_some])) | ((with_reducible refine gate_callee (f := 18) rfl ?_); refine goesL_ (some 16) rfl rfl Tryd.func18 (by kernel_rfl) rfl #[.int .i64 3, .int .i64 9] rfl (by (try simp only [List.map_toArray, List.map_cons, List.map_nil]); first | done | rfl | (simp only [List.length_drop, List.length_take]; rfl)) ?_; (with_reducible refine (word_Cut.calls k 3 9 t116 t117 _ ?side1 A3.out).mono ?_); (case side1 => exact tab_below hTB.out (by repeat (first | (with_reducible first | exact HB.out | apply below_alloc | apply pw_below_drewN | apply below_drew1) | exact HB.out))); rintro e w23 ⟨v118, rfl, ho0, hb⟩; refine ⟨_, rfl, ?_⟩; have n0_ := Aside0.mk (Kd.R_lower ho0 (below_size (by repeat (first | (with_reducible first | exact HB.out | apply below_alloc | apply pw_below_drewN | apply below_drew1) | exact HB.out)))); have n1_ := Aside0.mk (below_step (by repeat (first | (with_reducible first | exact HB.out | apply below_alloc | apply pw_below_drewN | apply below_drew1) | exact HB.out)) hb); clear HB; have HO119 := n0_; have HB := n1_; clear n0_ n1_; (try clear hb); (try clear hb2); (try clear hk); (try clear hi); (try clear ho0); (try simp only [errW_none, errW_some])))
      go_ret
      exact ⟨by first | rfl | (simp [errW_none, errW_some] <;> rfl) | (simp [*, errW_none, errW_some] <;> rfl), by repeat (first | (with_reducible first | exact HB.out | apply below_alloc | apply pw_below_drewN | apply below_drew1) | exact HB.out)⟩
  · have H1 : (some false) = some r := by rw [if_neg (show ¬ (some q120).isNone = true by simp)] at H; exact H
    clear H
    have H := H1
    clear H1
    try simp only [errW_none, errW_some]
    obtain rfl := Option.some.inj H
    go_enter Tryd.func11, Tryd.ntmps11
    go_wp2_with (first | ((with_reducible refine gate_callee (f := 12) rfl ?_); refine goesL_ (some 8) rfl rfl Tryd.func12 (by kernel_rfl) rfl #[.int .u64 240, .int .i64 4, .int .i64 4] rfl (by (try simp only [List.map_toArray, List.map_cons, List.map_nil]); first | done | rfl | (simp only [List.length_drop, List.length_take]; rfl)) ?_; (with_reducible refine (word_Field.calls 240 4 4 t112 (some q120) _ A1.out).mono ?_); rintro e w' ⟨rfl, ⟨nd, rfl⟩⟩; refine ⟨_, rfl, ?_⟩; (try simp only [errW_none, errW_some])) | ((with_reducible refine gate_callee (f := 13) rfl ?_); refine goesL_ (some 12) rfl rfl Tryd.func13 (by kernel_rfl) rfl #[.int .u64 0, .int .i64 60, .int .i64 4, .int .u64 15] rfl (by (try simp only [List.map_toArray, List.map_cons, List.map_nil]); first | done | rfl | (simp only [List.length_drop, List.length_take]; rfl)) ?_; (with_reducible refine (word_Put.calls 0 60 4 15 t114 t115 _ A2.out).mono ?_); rintro e w' ⟨rfl, ⟨nd, rfl⟩⟩; refine ⟨_, rfl, ?_⟩; (try simp only [errW_none, errW_some])) | ((with_reducible refine gate_callee (f := 18) rfl ?_); refine goesL_ (some 16) rfl rfl Tryd.func18 (by kernel_rfl) rfl #[.int .i64 3, .int .i64 9] rfl (by (try simp only [List.map_toArray, List.map_cons, List.map_nil]); first | done | rfl | (simp only [List.length_drop, List.length_take]; rfl)) ?_; (with_reducible refine (word_Cut.calls k 3 9 t116 t117 _ ?side1 A3.out).mono ?_); (case side1 => exact tab_below hTB.out (by repeat (first | (with_reducible first | exact HB.out | apply below_alloc | apply pw_below_drewN | apply below_drew1) | exact HB.out))); rintro e w24 ⟨v118, rfl, ho0, hb⟩; refine ⟨_, rfl, ?_⟩; have n0_ := Aside0.mk (Kd.R_lower ho0 (below_size (by repeat (first | (with_reducible first | exact HB.out | apply below_alloc | apply pw_below_drewN | apply below_drew1) | exact HB.out)))); have n1_ := Aside0.mk (below_step (by repeat (first | (with_reducible first | exact HB.out | apply below_alloc | apply pw_below_drewN | apply below_drew1) | exact HB.out)) hb); clear HB; have HO119 := n0_; have HB := n1_; clear n0_ n1_; (try clear hb); (try clear hb2); (try clear hk); (try clear hi); (try clear ho0); (try simp only [errW_none, errW_some])))
    go_ret
    exact ⟨by first | rfl | (simp [errW_none, errW_some] <;> rfl) | (simp [*, errW_none, errW_some] <;> rfl), by repeat (first | (with_reducible first | exact HB.out | apply below_alloc | apply pw_below_drewN | apply below_drew1) | exact HB.out)⟩

/-! ### paviorref01_May: function 14 -/
def paviorref01_May.f (a0 : Int) (a1 : Int) : Option (Bool) := if a0 ≥ 0 then (if a0 ≤ 63 then (if a1 ≥ 1 then (if a1 ≤ 64 then (some (decide ((wrap64 (a0 + a1)) ≤ 64))) else (some false)) else (some false)) else (some false)) else (some false)
set_option maxHeartbeats 8000000 in
set_option maxRecDepth 100000 in
theorem paviorref01_May.calls (a0 : Int) (a1 : Int) (r : Bool) (w : World) (h : paviorref01_May.f a0 a1 = some r) :
    Calls Tryd.prog 14 #[.int .i64 a0, .int .i64 a1] w fun e w' => e = .returned (.bool r) ∧ Drawn0 w w' := by
  have H : (if a0 ≥ 0 then (if a0 ≤ 63 then (if a1 ≥ 1 then (if a1 ≤ 64 then (some (decide ((wrap64 (a0 + a1)) ≤ 64))) else (some false)) else (some false)) else (some false)) else (some false)) = some r := h
  clear h
  by_cases c3 : a0 ≥ 0
  · rw [if_pos c3] at H
    have c3b0 : decide (0 ≤ a0) = true := decide_eq_true c3
    clear c3
    by_cases c4 : a0 ≤ 63
    · rw [if_pos c4] at H
      have c4b0 : decide (a0 ≤ 63) = true := decide_eq_true c4
      clear c4
      by_cases c5 : a1 ≥ 1
      · rw [if_pos c5] at H
        have c5b0 : decide (1 ≤ a1) = true := decide_eq_true c5
        clear c5
        by_cases c6 : a1 ≤ 64
        · rw [if_pos c6] at H
          have c6b0 : decide (a1 ≤ 64) = true := decide_eq_true c6
          clear c6
          obtain rfl := Option.some.inj H
          go_enter Tryd.func14, Tryd.ntmps14
          go_wp2
          go_ret
          exact ⟨by first | rfl | (simp; done) | (simp [*]; done), by repeat (first | exact Drawn0.refl _ | apply Drawn0.step)⟩
        · rw [if_neg c6] at H
          have c6b0 : decide (a1 ≤ 64) = false := decide_eq_false c6
          clear c6
          obtain rfl := Option.some.inj H
          go_enter Tryd.func14, Tryd.ntmps14
          go_wp2
          go_ret
          exact ⟨by first | rfl | (simp; done) | (simp [*]; done), by repeat (first | exact Drawn0.refl _ | apply Drawn0.step)⟩
      · rw [if_neg c5] at H
        have c5b0 : decide (1 ≤ a1) = false := decide_eq_false c5
        clear c5
        obtain rfl := Option.some.inj H
        go_enter Tryd.func14, Tryd.ntmps14
        go_wp2
        go_ret
        exact ⟨by first | rfl | (simp; done) | (simp [*]; done), by repeat (first | exact Drawn0.refl _ | apply Drawn0.step)⟩
    · rw [if_neg c4] at H
      have c4b0 : decide (a0 ≤ 63) = false := decide_eq_false c4
      clear c4
      obtain rfl := Option.some.inj H
      go_enter Tryd.func14, Tryd.ntmps14
      go_wp2
      go_ret
      exact ⟨by first | rfl | (simp; done) | (simp [*]; done), by repeat (first | exact Drawn0.refl _ | apply Drawn0.step)⟩
  · rw [if_neg c3] at H
    have c3b0 : decide (0 ≤ a0) = false := decide_eq_false c3
    clear c3
    obtain rfl := Option.some.inj H
    go_enter Tryd.func14, Tryd.ntmps14
    go_wp2
    go_ret
    exact ⟨by first | rfl | (simp; done) | (simp [*]; done), by repeat (first | exact Drawn0.refl _ | apply Drawn0.step)⟩

/-! ### paviorref01_Bit: function 26 -/
def paviorref01_Bit.f (a0 : Int) (a1 : Int) : Option (Int) := if 0 ≤ a1 then (some (Go.bits .and .u64 (shr .u64 a0 a1) 1)) else (none)
set_option maxHeartbeats 8000000 in
set_option maxRecDepth 100000 in
theorem paviorref01_Bit.calls (a0 : Int) (a1 : Int) (r : Int) (w : World) (h : paviorref01_Bit.f a0 a1 = some r) :
    Calls Tryd.prog 26 #[.int .u64 a0, .int .i64 a1] w fun e w' => e = .returned (.int .u64 r) ∧ Drawn0 w w' := by
  have H : (if 0 ≤ a1 then (some (Go.bits .and .u64 (shr .u64 a0 a1) 1)) else (none)) = some r := h
  clear h
  by_cases c3 : 0 ≤ a1
  · rw [if_pos c3] at H
    have c3b0 := eq_true c3
    have c3b1 : decide (0 ≤ a1) = true := decide_eq_true c3
    clear c3
    obtain ⟨ji4, hji4⟩ : ∃ j_ : Int, (shr .u64 a0 a1) = j_ := ⟨_, rfl⟩
    replace H : (some (Go.bits .and .u64 (ji4) 1)) = some r := by first | (rw [hji4] at H; exact H) | (simp only [hji4] at H ⊢; exact H)
    have hji4_ : (a0 / 2 ^ min a1.toNat 64) = ji4 := hji4
    have hji4z : a1 ≤ 64 → (a0 / 2 ^ a1.toNat) = ji4 := shr_small hji4
    obtain rfl := Option.some.inj H
    go_enter Tryd.func26, Tryd.ntmps26
    go_wp2
    go_ret
    exact ⟨by first | rfl | (simp; done) | (simp only [← hji4] <;> (first | rfl | simp)) | (simp [*]; done), by repeat (first | exact Drawn0.refl _ | apply Drawn0.step)⟩
  · rw [if_neg c3] at H
    exact absurd H (by simp)

end Go.Proofs.YtobbcfpkmmafnaaDoor.Q
