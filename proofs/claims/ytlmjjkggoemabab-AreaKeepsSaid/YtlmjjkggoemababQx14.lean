-- Written by this session's program wip/tools/xprint.py (the kit's printer, turned by it); not the kit's own print.
import Derived.Test.YtlmjjkggoemababQx0
namespace Go.Proofs.Ytlmjjkggoemabab.Q
open Go.RowKit Go.Proofs.YtlmjjkggoemababW.PrintWords Go.Proofs.YtlmjjkggoemababW.PrintLast Go.Proofs.YtlmjjkggoemababW.PrintMore
attribute [local go_sem] max2_int min2_int max_two min_two max_three min_three max_four min_four   -- for this text's walks alone
set_option linter.unusedVariables false
set_option linter.unusedSimpArgs false

attribute [local go_sem high] eqErr_some neErr_some eqErr_left neErr_left
--ALONE
/-! ### paviorlaw00_Code: function 20 -/
def paviorlaw00_Code.of : Option Int → Int
  | none => 0
  | some c => if 1 ≤ c ∧ c ≤ 8 then c else -1
def paviorlaw00_Code.f (a0 : Option Int) : Option Int := some (paviorlaw00_Code.of a0)
set_option maxHeartbeats 4000000 in
theorem paviorlaw00_Code.calls (a0 : Option Int) (r : Int) (w : World) (h : paviorlaw00_Code.f a0 = some r) :
    Calls Try.prog 20 #[errW a0] w fun e w' => e = .returned (.int .i64 r) ∧ Drawn0 w w' := by
  unfold paviorlaw00_Code.f at h
  obtain rfl := Option.some.inj h
  clear h
  rcases a0 with _ | q
  · simp only [errW_none, errW_some]
    go_enter Try.func20, Try.ntmps20
    go_wp2
    go_ret
    exact ⟨rfl, by repeat (first | exact Drawn0.refl _ | apply Drawn0.step)⟩
  · obtain ⟨r, hr⟩ : ∃ r, paviorlaw00_Code.of (some q) = r := ⟨_, rfl⟩
    rw [hr]
    have hr1 : (if 1 ≤ q ∧ q ≤ 8 then q else -1) = r := hr
    clear hr
    have hq := Aside0.mk hr1
    clear hr1
    simp only [errW_none, errW_some]
    go_enter Try.func20, Try.ntmps20
    go_wp2
    go_loopg [3] 9 (fun kq v3 w' => ∃ (x3_1 : Int), v3 = .int .i64 x3_1 ∧ Aside0 (x3_1 + (kq : Int) = 10 ∧ 1 ≤ x3_1 ∧ x3_1 ≤ 9) ∧ Aside0 ((if x3_1 ≤ q ∧ q ≤ 8 then q else -1) = r) ∧ Drawn0 w w')
    case atStart => exact ⟨(1), rfl, ⟨by omega⟩, ⟨hq.out⟩, by repeat (first | exact Drawn0.refl _ | apply Drawn0.step)⟩
    case round =>
      clear hq
      obtain ⟨x3_1, rfl, HA, HR, ⟨m1, rfl⟩⟩ := hrel
      cases gk with
      | zero => exact absurd HA.out (by omega)
      | succ k1 =>
        by_cases c2 : x3_1 ≤ 8
        · have c2b0 : decide (x3_1 ≤ 8) = true := decide_eq_true c2
          by_cases c3 : q = x3_1
          · have c3b0 : (q == x3_1) = true := beq_iff_eq.mpr c3
            have e : r = x3_1 := by have := HR.out; rw [if_pos (by omega)] at this; omega
            clear HA HR c2 c3
            go_wp2
            go_ret
            exact ⟨by rw [e]; rfl, by repeat (first | exact Drawn0.refl _ | apply Drawn0.step)⟩
          · have c3b0 : (q == x3_1) = false := beq_eq_false_iff_ne.mpr c3
            have e : wrap64 (x3_1 + 1) = x3_1 + 1 := by unfold wrap64; have := HA.out; omega
            have hr' : (if x3_1 + 1 ≤ q ∧ q ≤ 8 then q else -1) = r := by
              have := HR.out
              by_cases d : x3_1 + 1 ≤ q ∧ q ≤ 8
              · rw [if_pos d]; rw [if_pos (by omega)] at this; exact this
              · rw [if_neg d]; rw [if_neg (by omega)] at this; exact this
            have hR := Aside0.mk hr'
            have hA : Aside0 (x3_1 + 1 + (k1 : Int) = 10 ∧ 1 ≤ x3_1 + 1 ∧ x3_1 + 1 ≤ 9) := ⟨by have := HA.out; omega⟩
            clear HA HR c2 c3 hr'
            go_wp2
            go_roundg k1
            case measure => omega
            case rel => exact ⟨x3_1 + 1, by rw [e], hA, hR, by repeat (first | exact Drawn0.refl _ | apply Drawn0.step)⟩
        · have c2b0 : decide (x3_1 ≤ 8) = false := decide_eq_false c2
          have e : r = -1 := by have := HR.out; rw [if_neg (by omega)] at this; omega
          clear HA HR c2
          go_wp2
          go_ret
          exact ⟨by rw [e]; rfl, by repeat (first | exact Drawn0.refl _ | apply Drawn0.step)⟩


end Go.Proofs.Ytlmjjkggoemabab.Q
