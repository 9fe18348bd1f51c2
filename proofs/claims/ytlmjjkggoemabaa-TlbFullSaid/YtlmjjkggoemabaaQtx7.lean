-- Written by this session's program wip/tools/xprint.py (the kit's printer, turned by it); not the kit's own print.
import Derived.Test.YtlmjjkggoemabaaQtx0
import Derived.Test.YtlmjjkggoemabaaQtx2
import Derived.Test.YtlmjjkggoemabaaQtx5
import Derived.Test.YtlmjjkggoemabaaQtx6
namespace Go.Proofs.Ytlmjjkggoemabaa.Qt
open Go.RowKit Go.Proofs.YtlmjjkggoemabaaW.PrintWords Go.Proofs.YtlmjjkggoemabaaW.PrintLast Go.Proofs.YtlmjjkggoemabaaW.PrintMore
attribute [local go_sem] max2_int min2_int max_two min_two max_three min_three max_four min_four   -- for this text's walks alone
set_option linter.unusedVariables false
set_option linter.unusedSimpArgs false

attribute [local go_sem high] eqErr_some neErr_some eqErr_left neErr_left
/-! ### paviorlaw05_TlbFull: function 7 -/
mutual
def paviorlaw05_TlbFull.l0 : Nat → Int → Bool → Bool → Int → List (S48) → Bool → Option (Bool)
  | 0, _, _, _, _, _, _ => none
  | k + 1, x0, x1, x5, x7, x138000, x138001 => if x7 < x0 then ((tlb_Buffer_Fill.f k x138000 x138001 0 x7 0 x7 false false).bind fun bt139 => (if bt139.1.isNone = true then (paviorlaw05_TlbFull.l0 k x0 x1 x5 (wrap64 (x7 + 1)) bt139.2.1 bt139.2.2) else (some false))) else (if x1 = true then ((tlb_Buffer_Fill.f k x138000 x138001 0 (wrap64 (x0 - 1)) 0 (wrap64 (x0 - 1)) false false).bind fun bt143 => (paviorlaw05_TlbFull.j1 k x0 x5 bt143.2.1 bt143.2.2)) else (paviorlaw05_TlbFull.j1 k x0 x5 x138000 x138001))
def paviorlaw05_TlbFull.j1 : Nat → Int → Bool → List (S48) → Bool → Option (Bool)
  | 0, _, _, _, _ => none
  | k + 1, x0, x5, x138000, x138001 => (tlb_Buffer_Entries.f x138000 x138001).bind fun bt146 => (if x0 > 64 then (paviorlaw05_TlbFull.j2 k x0 x5 bt146.1 (wrap64 (x0 - 64)) bt146.2.1 bt146.2.2) else (paviorlaw05_TlbFull.j2 k x0 x5 bt146.1 0 bt146.2.1 bt146.2.2))
def paviorlaw05_TlbFull.j2 : Nat → Int → Bool → List (S48) → Int → List (S48) → Bool → Option (Bool)
  | 0, _, _, _, _, _, _ => none
  | k + 1, x0, x5, x9, x10, x138000, x138001 => if x5 = true then (if (x9.length : Int) = (wrap64 (x0 - x10)) then (if 0 < (x9.length : Int) then (if ((rd_T48 x9 0).f1) = x10 then ((tlb_Buffer_Broken.f x138000 x138001).bind fun bt152 => (some (!bt152.1))) else (some false)) else (none)) else (some false)) else (some false)
end
def paviorlaw05_TlbFull.f (k : Nat) (a0 : Int) (a1 : Bool) : Option (Bool) := (paviorlaw05_up.f k).bind fun t134 => ((tlb_New.f).bind fun bt135 => ((paviorlaw05_pick.f a0 10).bind fun t138 => (paviorlaw05_TlbFull.l0 k (wrap64 (60 + t138)) a1 t134 0 bt135.1 bt135.2)))
theorem paviorlaw05_TlbFull.mono_l : ∀ k, (∀ y0 y1 y2 y3 y4 y5, LeO (paviorlaw05_TlbFull.l0 k y0 y1 y2 y3 y4 y5) (paviorlaw05_TlbFull.l0 (k + 1) y0 y1 y2 y3 y4 y5)) ∧ (∀ y0 y1 y2 y3, LeO (paviorlaw05_TlbFull.j1 k y0 y1 y2 y3) (paviorlaw05_TlbFull.j1 (k + 1) y0 y1 y2 y3)) ∧ (∀ y0 y1 y2 y3 y4 y5, LeO (paviorlaw05_TlbFull.j2 k y0 y1 y2 y3 y4 y5) (paviorlaw05_TlbFull.j2 (k + 1) y0 y1 y2 y3 y4 y5))
  | 0 => ⟨fun _ _ _ _ _ _ r h => by simp [paviorlaw05_TlbFull.l0] at h, fun _ _ _ _ r h => by simp [paviorlaw05_TlbFull.j1] at h, fun _ _ _ _ _ _ r h => by simp [paviorlaw05_TlbFull.j2] at h⟩
  | k + 1 => by
    obtain ⟨ih0, ih1, ih2⟩ := paviorlaw05_TlbFull.mono_l k
    refine ⟨?_, ?_, ?_⟩
    · intro y0 y1 y2 y3 y4 y5
      unfold paviorlaw05_TlbFull.l0
      repeat' first
      | (with_reducible exact ih0 _ _ _ _ _ _)
      | (with_reducible exact ih1 _ _ _ _)
      | (with_reducible exact ih2 _ _ _ _ _ _)
      | (with_reducible exact paviorlaw05_up.mono _)
      | (with_reducible exact tlb_Buffer_Fill.mono _ _ _ _ _ _ _ _ _)
      | (with_reducible exact LeO.refl _)
      | (with_reducible exact LeO.none _)
      | (with_reducible refine LeO.ite ?_ ?_)
      | (with_reducible refine LeO.bind ?_ (fun _ => ?_))
      | exact ih0 _ _ _ _ _ _
      | exact ih1 _ _ _ _
      | exact ih2 _ _ _ _ _ _
      | exact paviorlaw05_up.mono _
      | exact tlb_Buffer_Fill.mono _ _ _ _ _ _ _ _ _
      | exact LeO.none _
      | refine LeO.ite ?_ ?_
      | refine LeO.bind ?_ (fun _ => ?_)
    · intro y0 y1 y2 y3
      unfold paviorlaw05_TlbFull.j1
      repeat' first
      | (with_reducible exact ih0 _ _ _ _ _ _)
      | (with_reducible exact ih1 _ _ _ _)
      | (with_reducible exact ih2 _ _ _ _ _ _)
      | (with_reducible exact paviorlaw05_up.mono _)
      | (with_reducible exact tlb_Buffer_Fill.mono _ _ _ _ _ _ _ _ _)
      | (with_reducible exact LeO.refl _)
      | (with_reducible exact LeO.none _)
      | (with_reducible refine LeO.ite ?_ ?_)
      | (with_reducible refine LeO.bind ?_ (fun _ => ?_))
      | exact ih0 _ _ _ _ _ _
      | exact ih1 _ _ _ _
      | exact ih2 _ _ _ _ _ _
      | exact paviorlaw05_up.mono _
      | exact tlb_Buffer_Fill.mono _ _ _ _ _ _ _ _ _
      | exact LeO.none _
      | refine LeO.ite ?_ ?_
      | refine LeO.bind ?_ (fun _ => ?_)
    · intro y0 y1 y2 y3 y4 y5
      unfold paviorlaw05_TlbFull.j2
      repeat' first
      | (with_reducible exact ih0 _ _ _ _ _ _)
      | (with_reducible exact ih1 _ _ _ _)
      | (with_reducible exact ih2 _ _ _ _ _ _)
      | (with_reducible exact paviorlaw05_up.mono _)
      | (with_reducible exact tlb_Buffer_Fill.mono _ _ _ _ _ _ _ _ _)
      | (with_reducible exact LeO.refl _)
      | (with_reducible exact LeO.none _)
      | (with_reducible refine LeO.ite ?_ ?_)
      | (with_reducible refine LeO.bind ?_ (fun _ => ?_))
      | exact ih0 _ _ _ _ _ _
      | exact ih1 _ _ _ _
      | exact ih2 _ _ _ _ _ _
      | exact paviorlaw05_up.mono _
      | exact tlb_Buffer_Fill.mono _ _ _ _ _ _ _ _ _
      | exact LeO.none _
      | refine LeO.ite ?_ ?_
      | refine LeO.bind ?_ (fun _ => ?_)
theorem paviorlaw05_TlbFull.mono : ∀ a0 a1 k, LeO (paviorlaw05_TlbFull.f k a0 a1) (paviorlaw05_TlbFull.f (k + 1) a0 a1) := by
  intro a0 a1 k
  obtain ⟨ih0, ih1, ih2⟩ := paviorlaw05_TlbFull.mono_l k
  unfold paviorlaw05_TlbFull.f
  repeat' first
      | (with_reducible exact ih0 _ _ _ _ _ _)
      | (with_reducible exact ih1 _ _ _ _)
      | (with_reducible exact ih2 _ _ _ _ _ _)
      | (with_reducible exact paviorlaw05_up.mono _)
      | (with_reducible exact tlb_Buffer_Fill.mono _ _ _ _ _ _ _ _ _)
      | (with_reducible exact LeO.refl _)
      | (with_reducible exact LeO.none _)
      | (with_reducible refine LeO.ite ?_ ?_)
      | (with_reducible refine LeO.bind ?_ (fun _ => ?_))
      | exact ih0 _ _ _ _ _ _
      | exact ih1 _ _ _ _
      | exact ih2 _ _ _ _ _ _
      | exact paviorlaw05_up.mono _
      | exact tlb_Buffer_Fill.mono _ _ _ _ _ _ _ _ _
      | exact LeO.none _
      | refine LeO.ite ?_ ?_
      | refine LeO.bind ?_ (fun _ => ?_)
set_option maxHeartbeats 8000000 in
set_option maxRecDepth 100000 in
theorem paviorlaw05_TlbFull.calls (k : Nat) (a0 : Int) (a1 : Bool) (r : Bool) (w : World) (h : paviorlaw05_TlbFull.f k a0 a1 = some r) :
    Calls Try.prog 7 #[.int .i64 a0, .bool a1] w fun e w' => e = .returned (.bool r) ∧ Below w.heap.size w w' := by
  have hu48 := Try.underlying48
  have hu26 := Try.underlying26
  have hu33 := Try.underlying33
  have HB := Aside0.mk (Below.refl w.heap.size w)
  have H : ((paviorlaw05_up.f k).bind fun t134 => ((tlb_New.f).bind fun bt135 => ((paviorlaw05_pick.f a0 10).bind fun t138 => (paviorlaw05_TlbFull.l0 k (wrap64 (60 + t138)) a1 t134 0 bt135.1 bt135.2)))) = some r := h
  clear h
  replace H := Option.bind_eq_some_iff.mp H
  obtain ⟨t134, A30, H⟩ := H
  replace H : ((tlb_New.f).bind fun bt135 => ((paviorlaw05_pick.f a0 10).bind fun t138 => (paviorlaw05_TlbFull.l0 k (wrap64 (60 + t138)) a1 t134 0 bt135.1 bt135.2))) = some r := H
  have A3 := Aside0.mk A30
  clear A30
  replace H := Option.bind_eq_some_iff.mp H
  obtain ⟨⟨t135, t136⟩, A40, H⟩ := H
  replace H : ((paviorlaw05_pick.f a0 10).bind fun t138 => (paviorlaw05_TlbFull.l0 k (wrap64 (60 + t138)) a1 t134 0 t135 t136)) = some r := H
  have A4 := Aside0.mk A40
  clear A40
  replace H := Option.bind_eq_some_iff.mp H
  obtain ⟨t138, A50, H⟩ := H
  replace H : (paviorlaw05_TlbFull.l0 k (wrap64 (60 + t138)) a1 t134 0 t135 t136) = some r := H
  have A5 := Aside0.mk A50
  clear A50
  have H' := Aside0.mk H
  clear H
  go_enter Try.func7, Try.ntmps7
  go_wp2_with (first | ((with_reducible refine gate_callee (f := 19) rfl ?_); refine goesL_ (some 11) rfl rfl Try.func19 (by kernel_rfl) rfl #[] rfl (by (try simp only [List.map_toArray, List.map_cons, List.map_nil]); first | done | rfl | (simp only [List.length_drop, List.length_take]; rfl)) ?_; (with_reducible refine (paviorlaw05_up.calls k  t134 _ A3.out).mono ?_); rintro e w6 ⟨rfl, hb⟩; refine ⟨_, rfl, ?_⟩; have n0_ := Aside0.mk (below_step (by repeat (first | (with_reducible first | exact HB.out | apply below_alloc | apply pw_below_drewN | apply below_drew1) | exact HB.out)) hb); clear HB; have HB := n0_; clear n0_; (try clear hb); (try clear hb2); (try clear hk); (try clear hi)) | ((with_reducible refine gate_callee (f := 20) rfl ?_); refine goesL_ (some 12) rfl rfl Try.func20 (by kernel_rfl) rfl #[] rfl (by (try simp only [List.map_toArray, List.map_cons, List.map_nil]); first | done | rfl | (simp only [List.length_drop, List.length_take]; rfl)) ?_; (with_reducible refine (tlb_New.calls  t135 t136 w _ ?side1 A4.out).mono ?_); (case side1 => repeat (first | (with_reducible first | exact HB.out | apply below_alloc | apply pw_below_drewN | apply below_drew1) | exact HB.out)); rintro e w7 ⟨g137, rfl, hi, hb, hb2⟩; refine ⟨_, rfl, ?_⟩; have n0_ := Aside0.mk (hb); have n1_ := Aside0.mk (hi); clear HB; have HB := n0_; have HI137 := n1_; clear n0_ n1_; (try clear hb); (try clear hb2); (try clear hk); (try clear hi)) | ((with_reducible refine gate_callee (f := 21) rfl ?_); refine goesL_ (some 16) rfl rfl Try.func21 (by kernel_rfl) rfl #[.int .i64 a0, .int .i64 10] rfl (by (try simp only [List.map_toArray, List.map_cons, List.map_nil]); first | done | rfl | (simp only [List.length_drop, List.length_take]; rfl)) ?_; (with_reducible refine (paviorlaw05_pick.calls a0 10 t138 _ A5.out).mono ?_); rintro e w' ⟨rfl, ⟨nd, rfl⟩⟩; refine ⟨_, rfl, ?_⟩))
  go_loopg [7] k (fun kq v7 w' => ∃ (x7_1 : Int) (x138000_1 : List (S48)) (x138001_1 : Bool), v7 = .int .i64 x7_1 ∧ Aside0 (paviorlaw05_TlbFull.l0 kq (wrap64 (60 + t138)) a1 t134 x7_1 x138000_1 x138001_1 = some r) ∧ Aside0 (kq ≤ k) ∧ Aside0 (IsS84 w w' g137 x138000_1 x138001_1) ∧ Aside0 (Below w.heap.size w w'))
  case atStart => exact ⟨(0), (t135), (t136), (by first | rfl | (simp; done) | (simp [*]; done)), H', ⟨Nat.le_refl _⟩, ⟨by repeat (first | (with_reducible first | exact HI137.out | apply IsS84.alloc | apply IsS84.drewN | apply IsS84.drew | apply IsS84.set_0 | apply IsS84.set_1) | exact HI137.out)⟩, ⟨by repeat (first | (with_reducible first | exact HB.out | apply below_alloc | apply pw_below_drewN | apply below_drew1 | refine below_set ?_ (IsS84.ge HI137.out)) | exact HB.out)⟩⟩
  case round =>
    clear H'
    try clear c1
    try clear c2
    try clear p2
    try clear p6
    try clear c7
    obtain ⟨x7_1, x138000_1, x138001_1, rfl, HA, HK1, HI137, HB⟩ := hrel
    cases gk with
    | zero => exact absurd HA.out (by simp [paviorlaw05_TlbFull.l0])
    | succ k1 =>
      have H := HA.out
      clear HA
      simp only [paviorlaw05_TlbFull.l0] at H
      by_cases c8 : x7_1 < (wrap64 (60 + t138))
      · rw [if_pos c8] at H
        have c8b0 : decide (x7_1 < (wrap64 (60 + t138))) = true := decide_eq_true c8
        clear c8
        replace H := Option.bind_eq_some_iff.mp H
        obtain ⟨⟨t139, t140, t141⟩, A90, H⟩ := H
        replace H : (if t139.isNone = true then (paviorlaw05_TlbFull.l0 k1 (wrap64 (60 + t138)) a1 t134 (wrap64 (x7_1 + 1)) t140 t141) else (some false)) = some r := H
        have A9 := Aside0.mk A90
        clear A90
        rcases t139 with _ | q142
        · have H1 : (paviorlaw05_TlbFull.l0 k1 (wrap64 (60 + t138)) a1 t134 (wrap64 (x7_1 + 1)) t140 t141) = some r := by rw [if_pos (show (none : Option Int).isNone = true by rfl)] at H; exact H
          clear H
          have H := H1
          clear H1
          try simp only [errW_none, errW_some]
          have H' := Aside0.mk H
          clear H
          go_wp2_with (first | ((with_reducible refine gate_callee (f := 22) rfl ?_); refine goesL_ (some 27) rfl rfl Try.func22 (by kernel_rfl) rfl #[.pointer (some ⟨g137, 0, none⟩), .agg #[.int .i64 0, .int .i64 x7_1, .int .i64 0, .int .i64 x7_1, .bool false, .bool false]] rfl (by (try simp only [List.map_toArray, List.map_cons, List.map_nil]); first | done | rfl | (simp only [List.length_drop, List.length_take]; rfl)) ?_; (with_reducible refine (tlb_Buffer_Fill.calls k1 g137 x138000_1 x138001_1 0 x7_1 0 x7_1 false false none t140 t141 w _ ?side1 ?side2 A9.out).mono ?_); (case side1 => repeat (first | (with_reducible first | exact HI137.out | apply IsS84.alloc | apply IsS84.drewN | apply IsS84.drew | apply IsS84.set_0 | apply IsS84.set_1) | exact HI137.out)); (case side2 => repeat (first | (with_reducible first | exact HB.out | apply below_alloc | apply pw_below_drewN | apply below_drew1 | refine below_set ?_ (IsS84.ge HI137.out)) | exact HB.out)); rintro e w10 ⟨rfl, hi, hb, hk⟩; refine ⟨_, rfl, ?_⟩; have n0_ := Aside0.mk (hb); have n1_ := Aside0.mk (hi); clear HB; clear HI137; have HB := n0_; have HI137 := n1_; clear n0_ n1_; (try clear hb); (try clear hb2); (try clear hk); (try clear hi); (try simp only [errW_none, errW_some])))
          go_roundg k1
          case measure => have := HK1.out; omega
          case rel => exact ⟨(wrap64 (x7_1 + 1)), (t140), (t141), (by first | rfl | (simp; done) | (simp [*]; done)), H', ⟨by have := HK1.out; omega⟩, ⟨by repeat (first | (with_reducible first | exact HI137.out | apply IsS84.alloc | apply IsS84.drewN | apply IsS84.drew | apply IsS84.set_0 | apply IsS84.set_1) | exact HI137.out)⟩, ⟨by repeat (first | (with_reducible first | exact HB.out | apply below_alloc | apply pw_below_drewN | apply below_drew1 | refine below_set ?_ (IsS84.ge HI137.out)) | exact HB.out)⟩⟩
        · have H1 : (some false) = some r := by rw [if_neg (show ¬ (some q142).isNone = true by simp)] at H; exact H
          clear H
          have H := H1
          clear H1
          try simp only [errW_none, errW_some]
          obtain rfl := Option.some.inj H
          go_wp2_with (first | ((with_reducible refine gate_callee (f := 22) rfl ?_); refine goesL_ (some 27) rfl rfl Try.func22 (by kernel_rfl) rfl #[.pointer (some ⟨g137, 0, none⟩), .agg #[.int .i64 0, .int .i64 x7_1, .int .i64 0, .int .i64 x7_1, .bool false, .bool false]] rfl (by (try simp only [List.map_toArray, List.map_cons, List.map_nil]); first | done | rfl | (simp only [List.length_drop, List.length_take]; rfl)) ?_; (with_reducible refine (tlb_Buffer_Fill.calls k1 g137 x138000_1 x138001_1 0 x7_1 0 x7_1 false false (some q142) t140 t141 w _ ?side1 ?side2 A9.out).mono ?_); (case side1 => repeat (first | (with_reducible first | exact HI137.out | apply IsS84.alloc | apply IsS84.drewN | apply IsS84.drew | apply IsS84.set_0 | apply IsS84.set_1) | exact HI137.out)); (case side2 => repeat (first | (with_reducible first | exact HB.out | apply below_alloc | apply pw_below_drewN | apply below_drew1 | refine below_set ?_ (IsS84.ge HI137.out)) | exact HB.out)); rintro e w11 ⟨rfl, hi, hb, hk⟩; refine ⟨_, rfl, ?_⟩; have n0_ := Aside0.mk (hb); have n1_ := Aside0.mk (hi); clear HB; clear HI137; have HB := n0_; have HI137 := n1_; clear n0_ n1_; (try clear hb); (try clear hb2); (try clear hk); (try clear hi); (try simp only [errW_none, errW_some])))
          go_ret
          exact ⟨by first | rfl | (simp [errW_none, errW_some] <;> rfl) | (simp [*, errW_none, errW_some] <;> rfl), by repeat (first | (with_reducible first | exact HB.out | apply below_alloc | apply pw_below_drewN | apply below_drew1 | refine below_set ?_ (IsS84.ge HI137.out)) | exact HB.out)⟩
      · rw [if_neg c8] at H
        have c8b0 : decide (x7_1 < (wrap64 (60 + t138))) = false := decide_eq_false c8
        clear c8
        have HC12 := Aside0.mk H
        clear H
        go_upto_if 30 with (fail)
        go_cut [] (fun wc => ∃ (kq : Nat) (x138000_11 : List (S48)) (x138001_11 : Bool), Aside0 (paviorlaw05_TlbFull.j1 kq (wrap64 (60 + t138)) t134 x138000_11 x138001_11 = some r) ∧ Aside0 (kq ≤ k1) ∧ Aside0 (IsS84 w wc g137 x138000_11 x138001_11) ∧ Aside0 (Below w.heap.size w wc))
        case first =>
          have H := HC12.out
          clear HC12
          by_cases c13 : a1 = true
          · subst c13
            have H1 : ((tlb_Buffer_Fill.f k1 x138000_1 x138001_1 0 (wrap64 ((wrap64 (60 + t138)) - 1)) 0 (wrap64 ((wrap64 (60 + t138)) - 1)) false false).bind fun bt143 => (paviorlaw05_TlbFull.j1 k1 (wrap64 (60 + t138)) t134 bt143.2.1 bt143.2.2)) = some r := by rw [if_pos rfl] at H; exact H
            clear H
            have H := H1
            clear H1
            replace H := Option.bind_eq_some_iff.mp H
            obtain ⟨⟨t143, t144, t145⟩, A140, H⟩ := H
            replace H : (paviorlaw05_TlbFull.j1 k1 (wrap64 (60 + t138)) t134 t144 t145) = some r := H
            have A14 := Aside0.mk A140
            clear A140
            have H' := Aside0.mk H
            clear H
            go_wp2_with (first | ((with_reducible refine gate_callee (f := 22) rfl ?_); refine goesL_ (some 37) rfl rfl Try.func22 (by kernel_rfl) rfl #[.pointer (some ⟨g137, 0, none⟩), .agg #[.int .i64 0, .int .i64 (wrap64 ((wrap64 (60 + t138)) - 1)), .int .i64 0, .int .i64 (wrap64 ((wrap64 (60 + t138)) - 1)), .bool false, .bool false]] rfl (by (try simp only [List.map_toArray, List.map_cons, List.map_nil]); first | done | rfl | (simp only [List.length_drop, List.length_take]; rfl)) ?_; (with_reducible refine (tlb_Buffer_Fill.calls k1 g137 x138000_1 x138001_1 0 (wrap64 ((wrap64 (60 + t138)) - 1)) 0 (wrap64 ((wrap64 (60 + t138)) - 1)) false false t143 t144 t145 w _ ?side1 ?side2 A14.out).mono ?_); (case side1 => repeat (first | (with_reducible first | exact HI137.out | apply IsS84.alloc | apply IsS84.drewN | apply IsS84.drew | apply IsS84.set_0 | apply IsS84.set_1) | exact HI137.out)); (case side2 => repeat (first | (with_reducible first | exact HB.out | apply below_alloc | apply pw_below_drewN | apply below_drew1 | refine below_set ?_ (IsS84.ge HI137.out)) | exact HB.out)); rintro e w15 ⟨rfl, hi, hb, hk⟩; refine ⟨_, rfl, ?_⟩; have n0_ := Aside0.mk (hb); have n1_ := Aside0.mk (hi); clear HB; clear HI137; have HB := n0_; have HI137 := n1_; clear n0_ n1_; (try clear hb); (try clear hb2); (try clear hk); (try clear hi); (try simp only [errW_none, errW_some])))
            go_meet
            case rel => exact ⟨_, (t144), (t145), H', ⟨by have := HK1.out; first | omega | exact Nat.le_refl _⟩, ⟨by repeat (first | (with_reducible first | exact HI137.out | apply IsS84.alloc | apply IsS84.drewN | apply IsS84.drew | apply IsS84.set_0 | apply IsS84.set_1) | exact HI137.out)⟩, ⟨by repeat (first | (with_reducible first | exact HB.out | apply below_alloc | apply pw_below_drewN | apply below_drew1 | refine below_set ?_ (IsS84.ge HI137.out)) | exact HB.out)⟩⟩
          · replace c13 := Bool.eq_false_iff.mpr c13
            subst c13
            have H1 : (paviorlaw05_TlbFull.j1 k1 (wrap64 (60 + t138)) t134 x138000_1 x138001_1) = some r := by rw [if_neg (show ¬ (false = true) by decide)] at H; exact H
            clear H
            have H := H1
            clear H1
            have H' := Aside0.mk H
            clear H
            go_wp2
            go_meet
            case rel => exact ⟨_, (x138000_1), (x138001_1), H', ⟨by have := HK1.out; first | omega | exact Nat.le_refl _⟩, ⟨by repeat (first | (with_reducible first | exact HI137.out | apply IsS84.alloc | apply IsS84.drewN | apply IsS84.drew | apply IsS84.set_0 | apply IsS84.set_1) | exact HI137.out)⟩, ⟨by repeat (first | (with_reducible first | exact HB.out | apply below_alloc | apply pw_below_drewN | apply below_drew1 | refine below_set ?_ (IsS84.ge HI137.out)) | exact HB.out)⟩⟩
        case rest =>
          clear HC12
          try clear c1
          try clear q1
          try clear c2
          try clear p2
          try clear p6
          try clear c7
          try clear c8
          try clear c8b0
          try clear c13
          try clear q14
          try clear p2
          try clear p6
          try clear q142
          obtain ⟨kq, x138000_11, x138001_11, HA, HJ11, HI137, HB⟩ := hcut
          cases kq with
          | zero => exact absurd HA.out (by simp [paviorlaw05_TlbFull.j1])
          | succ kj11 =>
            have H := HA.out
            clear HA
            simp only [paviorlaw05_TlbFull.j1] at H
            replace H := Option.bind_eq_some_iff.mp H
            obtain ⟨⟨t146, t149, t150⟩, A160, H⟩ := H
            replace H : (if (wrap64 (60 + t138)) > 64 then (paviorlaw05_TlbFull.j2 kj11 (wrap64 (60 + t138)) t134 t146 (wrap64 ((wrap64 (60 + t138)) - 64)) t149 t150) else (paviorlaw05_TlbFull.j2 kj11 (wrap64 (60 + t138)) t134 t146 0 t149 t150)) = some r := H
            have A16 := Aside0.mk A160
            clear A160
            have HC17 := Aside0.mk H
            clear H
            go_upto_if 41 with (first | ((with_reducible refine gate_callee (f := 23) rfl ?_); refine goesL_ (some 39) rfl rfl Try.func23 (by kernel_rfl) rfl #[.pointer (some ⟨g137, 0, none⟩)] rfl (by (try simp only [List.map_toArray, List.map_cons, List.map_nil]); first | done | rfl | (simp only [List.length_drop, List.length_take]; rfl)) ?_; (with_reducible refine (tlb_Buffer_Entries.calls g137 x138000_11 x138001_11 t146 t149 t150 w _ ?side1 ?side2 A16.out).mono ?_); (case side1 => repeat (first | (with_reducible first | exact HI137.out | apply IsS84.alloc | apply IsS84.drewN | apply IsS84.drew | apply IsS84.set_0 | apply IsS84.set_1) | exact HI137.out)); (case side2 => repeat (first | (with_reducible first | exact HB.out | apply below_alloc | apply pw_below_drewN | apply below_drew1 | refine below_set ?_ (IsS84.ge HI137.out)) | exact HB.out)); rintro e w18 ⟨v147, rfl, ho0, hi, hb, hk⟩; refine ⟨_, rfl, ?_⟩; have n0_ := Aside0.mk (Kd.R_lower ho0 (below_size (by repeat (first | (with_reducible first | exact HB.out | apply below_alloc | apply pw_below_drewN | apply below_drew1 | refine below_set ?_ (IsS84.ge HI137.out)) | exact HB.out)))); have n1_ := Aside0.mk (hb); have n2_ := Aside0.mk (hi); clear HB; clear HI137; have HO148 := n0_; have HB := n1_; have HI137 := n2_; clear n0_ n1_ n2_; (try clear hb); (try clear hb2); (try clear hk); (try clear hi); (try clear ho0)))
            (try simp only [Act.put, List.setIfInBounds_toArray, List.set_cons_zero, List.set_cons_succ])
            go_cut [10] (fun v10 wc => ∃ (kq : Nat) (x10_16 : Int), v10 = .int .i64 x10_16 ∧ Aside0 (paviorlaw05_TlbFull.j2 kq (wrap64 (60 + t138)) t134 t146 x10_16 t149 t150 = some r) ∧ Aside0 (kq ≤ kj11) ∧ Aside0 (Kd.R k48 48 wc w.heap.size (fun _ => True) v147 t146) ∧ Aside0 (IsS84 w wc g137 t149 t150) ∧ Aside0 (Below w.heap.size w wc))
            case first =>
              have H := HC17.out
              clear HC17
              by_cases c19 : (wrap64 (60 + t138)) > 64
              · rw [if_pos c19] at H
                have c19b0 : decide (64 < (wrap64 (60 + t138))) = true := decide_eq_true c19
                clear c19
                (first | rw [c19b0] | (simp only [i64_w, i32_w]; rw [c19b0]) | skip)
                have H' := Aside0.mk H
                clear H
                go_wp2
                go_meet
                case rel => exact ⟨_, (wrap64 ((wrap64 (60 + t138)) - 64)), (by first | rfl | (simp; done) | (simp [*]; done)), H', ⟨by have := HK1.out; have := HJ11.out; first | omega | exact Nat.le_refl _⟩, ⟨by (with_reducible repeat (first | apply Kd.R_alloc | apply Kd.R_drewN | apply Kd.R_drew)); exact HO148.out⟩, ⟨by repeat (first | (with_reducible first | exact HI137.out | apply IsS84.alloc | apply IsS84.drewN | apply IsS84.drew | apply IsS84.set_0 | apply IsS84.set_1) | exact HI137.out)⟩, ⟨by repeat (first | (with_reducible first | exact HB.out | apply below_alloc | apply pw_below_drewN | apply below_drew1 | refine below_set ?_ (IsS84.ge HI137.out)) | exact HB.out)⟩⟩
              · rw [if_neg c19] at H
                have c19b0 : decide (64 < (wrap64 (60 + t138))) = false := decide_eq_false c19
                clear c19
                (first | rw [c19b0] | (simp only [i64_w, i32_w]; rw [c19b0]) | skip)
                have H' := Aside0.mk H
                clear H
                go_wp2
                go_meet
                case rel => exact ⟨_, (0), (by first | rfl | (simp; done) | (simp [*]; done)), H', ⟨by have := HK1.out; have := HJ11.out; first | omega | exact Nat.le_refl _⟩, ⟨by (with_reducible repeat (first | apply Kd.R_alloc | apply Kd.R_drewN | apply Kd.R_drew)); exact HO148.out⟩, ⟨by repeat (first | (with_reducible first | exact HI137.out | apply IsS84.alloc | apply IsS84.drewN | apply IsS84.drew | apply IsS84.set_0 | apply IsS84.set_1) | exact HI137.out)⟩, ⟨by repeat (first | (with_reducible first | exact HB.out | apply below_alloc | apply pw_below_drewN | apply below_drew1 | refine below_set ?_ (IsS84.ge HI137.out)) | exact HB.out)⟩⟩
            case rest =>
              clear HC17
              try clear c1
              try clear q1
              try clear c2
              try clear p2
              try clear p6
              try clear c7
              try clear c8
              try clear c8b0
              try clear c13
              try clear q14
              try clear c19
              try clear c19b0
              try clear p2
              try clear p6
              try clear q1
              try clear q14
              try clear q142
              obtain ⟨kq, x10_16, rfl, HA, HJ16, HO_9, HI137, HB⟩ := hcut
              cases kq with
              | zero => exact absurd HA.out (by simp [paviorlaw05_TlbFull.j2])
              | succ kj16 =>
                have H := HA.out
                clear HA
                simp only [paviorlaw05_TlbFull.j2] at H
                by_cases c20 : t134 = true
                · subst c20
                  have H1 : (if (t146.length : Int) = (wrap64 ((wrap64 (60 + t138)) - x10_16)) then (if 0 < (t146.length : Int) then (if ((rd_T48 t146 0).f1) = x10_16 then ((tlb_Buffer_Broken.f t149 t150).bind fun bt152 => (some (!bt152.1))) else (some false)) else (none)) else (some false)) = some r := by rw [if_pos rfl] at H; exact H
                  clear H
                  have H := H1
                  clear H1
                  by_cases c21 : (t146.length : Int) = (wrap64 ((wrap64 (60 + t138)) - x10_16))
                  · rw [if_pos c21] at H
                    have c21b0 : ((t146.length : Int) == (wrap64 ((wrap64 (60 + t138)) - x10_16))) = true := beq_iff_eq.mpr c21
                    have c21b1 : ((t146.length : Int) != (wrap64 ((wrap64 (60 + t138)) - x10_16))) = false := bne_eq_false_iff_eq.mpr c21
                    clear c21
                    by_cases c22 : 0 < (t146.length : Int)
                    · rw [if_pos c22] at H
                      have c22b0 : decide (0 < (t146.length : Int)) = true := decide_eq_true c22
                      have c22b1 : decide (0 < t146.length) = true := decide_eq_true (by omega)
                      clear c22
                      by_cases c23 : ((rd_T48 t146 0).f1) = x10_16
                      · rw [if_pos c23] at H
                        have c23b0 : (((rd_T48 t146 0).f1) == x10_16) = true := beq_iff_eq.mpr c23
                        have c23b1 : (((rd_T48 t146 0).f1) != x10_16) = false := bne_eq_false_iff_eq.mpr c23
                        clear c23
                        replace H := Option.bind_eq_some_iff.mp H
                        obtain ⟨⟨t152, t153, t154⟩, A240, H⟩ := H
                        replace H : (some (!t152)) = some r := H
                        have A24 := Aside0.mk A240
                        clear A240
                        obtain rfl := Option.some.inj H
                        obtain ⟨Ao25, co25, eo25⟩ := Kd.R_slice HO_9.out
                        subst eo25
                        have p151 : 0 ≤ (0 : Int) := (by omega)
                        have q151 : 0 < (t146.length : Int) := of_decide_eq_true (by first | (with_reducible assumption) | assumption)
                        obtain ⟨ad151, e151, hx151_0, hx151_1, hx151_2, hx151_3, hx151_4, hx151_5⟩ := at_T48 (Kd.R_reads' HO_9.out).2.2 0 p151 q151
                        cases e151
                        have qi151 : (0 < t146.length) = True := eq_true (by omega)
                        (try rw [show ((0 : Int)).toNat = 0 from rfl] at hx151_0)
                        (try rw [show 0 * 6 = 0 from rfl] at hx151_0)
                        (try rw [Addr.add_zero'] at hx151_0)
                        (try rw [show ((0 : Int)).toNat = 0 from rfl] at hx151_1)
                        (try rw [show 0 * 6 = 0 from rfl] at hx151_1)
                        (try rw [Addr.add_zero'] at hx151_1)
                        (try rw [show ((0 : Int)).toNat = 0 from rfl] at hx151_2)
                        (try rw [show 0 * 6 = 0 from rfl] at hx151_2)
                        (try rw [Addr.add_zero'] at hx151_2)
                        (try rw [show ((0 : Int)).toNat = 0 from rfl] at hx151_3)
                        (try rw [show 0 * 6 = 0 from rfl] at hx151_3)
                        (try rw [Addr.add_zero'] at hx151_3)
                        (try rw [show ((0 : Int)).toNat = 0 from rfl] at hx151_4)
                        (try rw [show 0 * 6 = 0 from rfl] at hx151_4)
                        (try rw [Addr.add_zero'] at hx151_4)
                        (try rw [show ((0 : Int)).toNat = 0 from rfl] at hx151_5)
                        (try rw [show 0 * 6 = 0 from rfl] at hx151_5)
                        (try rw [Addr.add_zero'] at hx151_5)
                        replace p151 := eq_true p151
                        replace q151 := eq_true q151
                        go_wp2_with (first | (go_at_call 24; (with_reducible refine (tlb_Buffer_Broken.calls g137 t149 t150 t152 t153 t154 w _ ?side1 ?side2 A24.out).mono ?_); (case side1 => repeat (first | (with_reducible first | exact HI137.out | apply IsS84.alloc | apply IsS84.drewN | apply IsS84.drew | apply IsS84.set_0 | apply IsS84.set_1) | exact HI137.out)); (case side2 => repeat (first | (with_reducible first | exact HB.out | apply below_alloc | apply pw_below_drewN | apply below_drew1 | refine below_set ?_ (IsS84.ge HI137.out)) | exact HB.out)); rintro e w26 ⟨rfl, hi, hb, hk⟩; have n0_ := Aside0.mk (Kd.R_mono (Kd.R_keep (IsS84.apart (show IsS84 w _ g137 t149 t150 from by repeat (first | (with_reducible first | exact HI137.out | apply IsS84.alloc | apply IsS84.drewN | apply IsS84.drew | apply IsS84.set_0 | apply IsS84.set_1) | exact HI137.out)) (by (with_reducible repeat (first | apply Kd.R_alloc | apply Kd.R_drewN | apply Kd.R_drew)); exact HO_9.out) (by decide)) hk (fun _ h => h.2)) (fun _ h => h.1)); have n1_ := Aside0.mk (hb); have n2_ := Aside0.mk (hi); clear HO_9; clear HB; clear HI137; have HO_9 := n0_; have HB := n1_; have HI137 := n2_; clear n0_ n1_ n2_; (try clear hb); (try clear hb2); (try clear hk); (try clear hi)))
                        go_ret
                        exact ⟨by first | rfl | (simp [errW_none, errW_some] <;> rfl) | (simp [*, errW_none, errW_some] <;> rfl), by repeat (first | (with_reducible first | exact HB.out | apply below_alloc | apply pw_below_drewN | apply below_drew1 | refine below_set ?_ (IsS84.ge HI137.out)) | exact HB.out)⟩
                      · rw [if_neg c23] at H
                        have c23b0 : (((rd_T48 t146 0).f1) == x10_16) = false := beq_eq_false_iff_ne.mpr c23
                        have c23b1 : (((rd_T48 t146 0).f1) != x10_16) = true := bne_iff_ne.mpr c23
                        obtain rfl := Option.some.inj H
                        obtain ⟨Ao27, co27, eo27⟩ := Kd.R_slice HO_9.out
                        subst eo27
                        have p151 : 0 ≤ (0 : Int) := (by omega)
                        have q151 : 0 < (t146.length : Int) := of_decide_eq_true (by first | (with_reducible assumption) | assumption)
                        obtain ⟨ad151, e151, hx151_0, hx151_1, hx151_2, hx151_3, hx151_4, hx151_5⟩ := at_T48 (Kd.R_reads' HO_9.out).2.2 0 p151 q151
                        cases e151
                        have qi151 : (0 < t146.length) = True := eq_true (by omega)
                        (try rw [show ((0 : Int)).toNat = 0 from rfl] at hx151_0)
                        (try rw [show 0 * 6 = 0 from rfl] at hx151_0)
                        (try rw [Addr.add_zero'] at hx151_0)
                        (try rw [show ((0 : Int)).toNat = 0 from rfl] at hx151_1)
                        (try rw [show 0 * 6 = 0 from rfl] at hx151_1)
                        (try rw [Addr.add_zero'] at hx151_1)
                        (try rw [show ((0 : Int)).toNat = 0 from rfl] at hx151_2)
                        (try rw [show 0 * 6 = 0 from rfl] at hx151_2)
                        (try rw [Addr.add_zero'] at hx151_2)
                        (try rw [show ((0 : Int)).toNat = 0 from rfl] at hx151_3)
                        (try rw [show 0 * 6 = 0 from rfl] at hx151_3)
                        (try rw [Addr.add_zero'] at hx151_3)
                        (try rw [show ((0 : Int)).toNat = 0 from rfl] at hx151_4)
                        (try rw [show 0 * 6 = 0 from rfl] at hx151_4)
                        (try rw [Addr.add_zero'] at hx151_4)
                        (try rw [show ((0 : Int)).toNat = 0 from rfl] at hx151_5)
                        (try rw [show 0 * 6 = 0 from rfl] at hx151_5)
                        (try rw [Addr.add_zero'] at hx151_5)
                        replace p151 := eq_true p151
                        replace q151 := eq_true q151
                        go_wp2
                        go_ret
                        exact ⟨by first | rfl | (simp [errW_none, errW_some] <;> rfl) | (simp [*, errW_none, errW_some] <;> rfl), by repeat (first | (with_reducible first | exact HB.out | apply below_alloc | apply pw_below_drewN | apply below_drew1 | refine below_set ?_ (IsS84.ge HI137.out)) | exact HB.out)⟩
                    · rw [if_neg c22] at H
                      exact absurd H (by simp)
                  · rw [if_neg c21] at H
                    have c21b0 : ((t146.length : Int) == (wrap64 ((wrap64 (60 + t138)) - x10_16))) = false := beq_eq_false_iff_ne.mpr c21
                    have c21b1 : ((t146.length : Int) != (wrap64 ((wrap64 (60 + t138)) - x10_16))) = true := bne_iff_ne.mpr c21
                    obtain rfl := Option.some.inj H
                    obtain ⟨Ao28, co28, eo28⟩ := Kd.R_slice HO_9.out
                    subst eo28
                    go_wp2
                    go_ret
                    exact ⟨by first | rfl | (simp [errW_none, errW_some] <;> rfl) | (simp [*, errW_none, errW_some] <;> rfl), by repeat (first | (with_reducible first | exact HB.out | apply below_alloc | apply pw_below_drewN | apply below_drew1 | refine below_set ?_ (IsS84.ge HI137.out)) | exact HB.out)⟩
                · replace c20 := Bool.eq_false_iff.mpr c20
                  subst c20
                  have H1 : (some false) = some r := by rw [if_neg (show ¬ (false = true) by decide)] at H; exact H
                  clear H
                  have H := H1
                  clear H1
                  obtain rfl := Option.some.inj H
                  go_wp2
                  go_ret
                  exact ⟨by first | rfl | (simp [errW_none, errW_some] <;> rfl) | (simp [*, errW_none, errW_some] <;> rfl), by repeat (first | (with_reducible first | exact HB.out | apply below_alloc | apply pw_below_drewN | apply below_drew1 | refine below_set ?_ (IsS84.ge HI137.out)) | exact HB.out)⟩

/-- THE ONE PURE STATEMENT of paviorlaw05_TlbFull: yours. -/
def paviorlaw05_TlbFull.Pure : Prop := ∀ (a0 : Int) (a1 : Bool), (Lit.int .i64 a0).wf = true → ∃ k, paviorlaw05_TlbFull.f k a0 a1 = some true
theorem paviorlaw05_TlbFull.walk (P : paviorlaw05_TlbFull.Pure) (a0 : Int) (a1 : Bool) (w : World) (w0 : (Lit.int .i64 a0).wf = true) :
    Calls Try.prog 7 #[.int .i64 a0, .bool a1] w fun e w' => e = .returned (.bool true) ∧ Below w.heap.size w w' := by
  obtain ⟨k, h⟩ := P a0 a1 w0
  refine (paviorlaw05_TlbFull.calls k a0 a1 true w h).mono ?_
  rintro e w' ⟨rfl, hd⟩
  exact ⟨rfl, hd⟩

end Go.Proofs.Ytlmjjkggoemabaa.Qt
