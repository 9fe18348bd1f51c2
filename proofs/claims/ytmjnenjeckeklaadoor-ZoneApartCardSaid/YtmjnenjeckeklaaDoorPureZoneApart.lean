/- ZoneApart, as a plain law: of a closed group nothing is taken; where an open group of the sort asked for has room, no other group is taken from. -/
import Derived.Test.YtmjnenjeckeklaaDoorB4
import Derived.Test.YtmjnenjeckeklaaDoorZoneGate
namespace Go.Proofs.YtmjnenjeckeklaaDoor.V
open Go Go.RowKit Go.Proofs Go.Proofs.YtmjnenjeckeklaaDoor.Q Go.Proofs.YtmjnenjeckeklaaDoorW.PrintWords
set_option linter.unusedVariables false
set_option linter.unusedSimpArgs false
set_option maxRecDepth 100000
/-- Is a block free, frame by frame? -/
theorem all_go {n : Int} {z : Zon} (Z : ZI n z) (hn : n ≤ 512) {a o : Int} (a0 : 0 ≤ a) (a1 : a ≤ 1000) (o0 : 0 ≤ o) (o3 : o ≤ 3) {F : Nat → Zon → Bool → Int → Option (Zon × Bool × Int)}
    (hF : ∀ m x b v, F (m + 1) x b v = (bif decide (0 ≤ o) then (bif decide (v < (IntKind.i64.wrap (1 * 2 ^ min (o).toNat (IntKind.i64).bits))) then (bif b then (ZIsFree.f 1000 x (IntKind.i64.wrap (a + v))).bind fun (r39 : Zon × Bool) => F m r39.1 r39.2 (IntKind.i64.wrap (v + 1)) else some (x, b, v)) else some (x, b, v)) else none)) :
    ∀ (d m : Nat) (b : Bool) (v : Int), 0 ≤ v → (8 - v).toNat ≤ d → d < m → ∃ b' v', F m z b v = some (z, b', v') ∧ (b' = true → b = true ∧ ∀ u, a + v ≤ u → u < a + pw o → Cov z.s.l u) := by
  have hs := shl_pw o0 (by omega : o ≤ 20)
  have hp : pw o ≤ 8 := by rcases pw_cases o0 (by omega : o ≤ 5) with h | h | h | h | h | h <;> omega
  intro d
  induction d with
  | zero =>
    intro m b v v0 h1 h2
    obtain ⟨m, rfl⟩ : ∃ q, m = q + 1 := ⟨m - 1, by omega⟩
    rw [hF, decide_eq_true o0, cond_true, hs, decide_eq_false (show ¬ v < pw o by omega), cond_false]
    exact ⟨b, v, rfl, fun h => ⟨h, fun u _ _ => by omega⟩⟩
  | succ d ih =>
    intro m b v v0 h1 h2
    obtain ⟨m, rfl⟩ : ∃ q, m = q + 1 := ⟨m - 1, by omega⟩
    rw [hF, decide_eq_true o0, cond_true, hs]
    by_cases hv : v < pw o
    · rw [decide_eq_true hv, cond_true]
      cases b with
      | false => exact ⟨false, v, rfl, fun h => by cases h⟩
      | true =>
        rw [cond_true, wrap_small (x := a + v) (by omega) (by omega)]
        by_cases hc : Cov z.s.l (a + v)
        · rw [zisfree_yes Z hn hc, Option.bind_some, wrap_small (by omega) (by omega)]
          obtain ⟨b', v', e, hb⟩ := ih m true (v + 1) (by omega) (by omega) (by omega)
          refine ⟨b', v', e, fun h => ⟨rfl, fun u u0 u1 => ?_⟩⟩
          rcases Int.lt_or_eq_of_le u0 with h3 | h3
          · exact (hb h).2 u (by omega) u1
          · rw [← h3]; exact hc
        · rw [zisfree_no Z hn hc, Option.bind_some, wrap_small (by omega) (by omega)]
          obtain ⟨b', v', e, hb⟩ := ih m false (v + 1) (by omega) (by omega) (by omega)
          exact ⟨b', v', e, fun h => by have := (hb h).1; cases this⟩
    · rw [decide_eq_false hv, cond_false]
      exact ⟨b, v, rfl, fun h => ⟨h, fun u _ _ => by omega⟩⟩
/-- A group that is open, of a sort, has room. -/
def RoomE (z : Zon) (so o : Int) : Prop := ∃ g a : Int, 0 ≤ g ∧ g < (z.t.length : Int) ∧ z.c.getD g.toNat false = false ∧ z.t.getD g.toNat 0 = so ∧ g * 8 ≤ a ∧ a % pw o = 0 ∧ a + pw o ≤ g * 8 + 8 ∧ ∀ u, a ≤ u → u < a + pw o → Cov z.s.l u
theorem roomE_ex {n : Int} {z : Zon} (Z : ZI n z) {so o : Int} (o0 : 0 ≤ o) (o3 : o ≤ 3) (h : RoomE z so o) : ∃ x ∈ Rms z.c z.s.l, o ≤ x.o ∧ srt z.t x = so := by
  obtain ⟨g, a, g0, g1, hc, ht, h1, h2, h3, h4⟩ := h
  have hp := pw_le o0 (by omega : o ≤ 5)
  have hlast := (h4 (a + pw o - 1) (by omega) (by omega)).lt Z.inv
  have hg : a / 8 = g := by omega
  have ok : Ok n ⟨a, o⟩ := ⟨o0, by simp only; omega, by simp only; omega, h2, by simp only; omega⟩
  obtain ⟨r, hr, hro, hrf⟩ := room_ex Z ok o3 (fun u hu => h4 u hu.1 hu.2) (by simp only; rw [hg]; exact hc)
  refine ⟨r, hr, hro, ?_⟩
  unfold srt
  rw [hrf]
  simp only
  rw [hg]
  exact ht
section
variable {n a0 p w so o : Int} {a1 : List D4} {r3 : Zon × Option Int} {v4 : Zon} {v5 : Int} {z : Zon}
theorem apart_three (Z : ZI n z) (hn : n ≤ 512) (o0 : 0 ≤ o) (o3 : o ≤ 3) {v14 : Zon} {v15 : List Int} {v16 : Bool} {g : Int} {r19 : Zon × Int} (g0 : 0 ≤ g) (g1 : g < (z.t.length : Int)) : ∀ (d m : Nat) (b : Bool) (v : Int), g * 8 ≤ v → (g * 8 + 8 - v).toNat ≤ d → d < m →
    ∃ b' v', ZoneApart.l3 1000 a0 a1 true p r3 v4 v5 w so o v14 v15 v16 g r19 (z, z.t.getD g.toNat 0, none) (z, z.c.getD g.toNat false) m z b v = some (z, b', v') ∧ (b' = true → b = true ∨ RoomE z so o) := by
  have htl := Z.tl
  have hs := shl_pw o0 (by omega : o ≤ 20)
  have hp := pw_le o0 (by omega : o ≤ 5)
  have hp8 : pw o ≤ 8 := by rcases pw_cases o0 (by omega : o ≤ 5) with h | h | h | h | h | h <;> omega
  have w1 : IntKind.i64.wrap (g * 8) = g * 8 := wrap_small (by omega) (by omega)
  have w2 : IntKind.i64.wrap (g * 8 + 8) = g * 8 + 8 := wrap_small (by omega) (by omega)
  have fin : ∀ (m : Nat) (b : Bool) (v : Int), ¬ v < g * 8 + 8 → ZoneApart.l3 1000 a0 a1 true p r3 v4 v5 w so o v14 v15 v16 g r19 (z, z.t.getD g.toNat 0, none) (z, z.c.getD g.toNat false) (m + 1) z b v = some (z, b, v) := by
    intro m b v hv
    unfold ZoneApart.l3
    rw [w1, w2, decide_eq_false hv, cond_false]
  intro d
  induction d with
  | zero =>
    intro m b v h1 h2 h3
    obtain ⟨m, rfl⟩ : ∃ q, m = q + 1 := ⟨m - 1, by omega⟩
    exact ⟨b, v, fin m b v (by omega), fun h => .inl h⟩
  | succ d ih =>
    intro m b v h1 h2 h3
    obtain ⟨m, rfl⟩ : ∃ q, m = q + 1 := ⟨m - 1, by omega⟩
    by_cases hv : v < g * 8 + 8
    · unfold ZoneApart.l3
      rw [w1, w2, decide_eq_true hv, cond_true]
      simp only []
      cases hc : z.c.getD g.toNat false with
      | true => exact ⟨b, v, rfl, fun h => .inl h⟩
      | false =>
        simp only [Bool.not_false, cond_true]
        by_cases hso : z.t.getD g.toNat 0 = so
        · rw [beq_iff_eq.mpr hso, cond_true, decide_eq_true o0, cond_true, hs, decide_eq_true (show pw o ≠ 0 by omega), cond_true, Int.tmod_eq_emod_of_nonneg (by omega)]
          have w3 : IntKind.i64.wrap (v + pw o) = v + pw o := wrap_small (by omega) (by omega)
          have w4 : IntKind.i64.wrap (v + 1) = v + 1 := wrap_small (by omega) (by omega)
          by_cases hm : v % pw o = 0
          · rw [beq_iff_eq.mpr hm, cond_true, cond_true, w3, w4]
            obtain ⟨b', v', e, hb⟩ := all_go Z hn (a := v) (o := o) (by omega) (by omega) o0 o3 (F := ZoneApart.l4 1000 a0 a1 true p r3 v4 v5 w so o v14 v15 v16 g r19 (z, z.t.getD g.toNat 0, none) (z, false) z b v) (fun _ _ _ _ => rfl) 8 1000 (decide (v + pw o ≤ g * 8 + 8)) 0 (by omega) (by omega) (by omega)
            rw [e, Option.bind_some]
            simp only []
            cases b with
            | true =>
              rw [cond_true]
              obtain ⟨b2, v2, e2, hb2⟩ := ih m true (v + 1) (by omega) (by omega) (by omega)
              rw [hc] at e2
              exact ⟨b2, v2, e2, fun _ => .inl rfl⟩
            | false =>
              rw [cond_false]
              obtain ⟨b2, v2, e2, hb2⟩ := ih m b' (v + 1) (by omega) (by omega) (by omega)
              rw [hc] at e2
              refine ⟨b2, v2, e2, fun h => .inr ?_⟩
              rcases hb2 h with h' | h'
              · obtain ⟨h4, h5⟩ := hb h'
                exact ⟨g, v, g0, g1, hc, hso, h1, hm, of_decide_eq_true h4, fun u u0 u1 => h5 u (by omega) u1⟩
              · exact h'
          · rw [beq_eq_false_iff_ne.mpr hm, cond_false, w4]
            obtain ⟨b', v', e, hb⟩ := all_go Z hn (a := v) (o := o) (by omega) (by omega) o0 o3 (F := ZoneApart.l5 1000 a0 a1 true p r3 v4 v5 w so o v14 v15 v16 g r19 (z, z.t.getD g.toNat 0, none) (z, false) z b v) (fun _ _ _ _ => rfl) 8 1000 false 0 (by omega) (by omega) (by omega)
            rw [e, Option.bind_some]
            simp only []
            cases b with
            | true =>
              rw [cond_true]
              obtain ⟨b2, v2, e2, hb2⟩ := ih m true (v + 1) (by omega) (by omega) (by omega)
              rw [hc] at e2
              exact ⟨b2, v2, e2, fun _ => .inl rfl⟩
            | false =>
              rw [cond_false]
              obtain ⟨b2, v2, e2, hb2⟩ := ih m b' (v + 1) (by omega) (by omega) (by omega)
              rw [hc] at e2
              refine ⟨b2, v2, e2, fun h => .inr ?_⟩
              rcases hb2 h with h' | h'
              · have := (hb h').1; cases this
              · exact h'
        · rw [beq_eq_false_iff_ne.mpr hso, cond_false]
          exact ⟨b, v, rfl, fun h => .inl h⟩
    · exact ⟨b, v, fin m b v hv, fun h => .inl h⟩
theorem apart_two (Z : ZI n z) (hn : n ≤ 512) (o0 : 0 ≤ o) (o3 : o ≤ 3) : ∀ (d m : Nat) (b : Bool) (g : Nat), z.t.length - g ≤ d → d < m → g ≤ z.t.length → (b = true → RoomE z so o) →
    ∃ b' v', ZoneApart.l2 1000 a0 a1 true p r3 v4 v5 w so o m z (z.t.take g) b (g : Int) = some (Sum.inl (z, z.t, b', v')) ∧ (b' = true → RoomE z so o) := by
  have htl := Z.tl
  intro d
  have fin : ∀ (m : Nat) (b : Bool) (g : Nat), z.t.length ≤ g → ZoneApart.l2 1000 a0 a1 true p r3 v4 v5 w so o (m + 1) z (z.t.take g) b (g : Int) = some (Sum.inl (z, z.t, b, (g : Int))) := by
    intro m b g hg
    unfold ZoneApart.l2 ZGroups.f
    rw [Option.bind_some]
    simp only []
    rw [decide_eq_false (show ¬ (g : Int) < (z.t.length : Int) by omega), cond_false, List.take_of_length_le hg]
  induction d with
  | zero =>
    intro m b g h1 h2 h3 hb
    obtain ⟨m, rfl⟩ : ∃ q, m = q + 1 := ⟨m - 1, by omega⟩
    exact ⟨b, g, fin m b g (by omega), hb⟩
  | succ d ih =>
    intro m b g h1 h2 h3 hb
    obtain ⟨m, rfl⟩ : ∃ q, m = q + 1 := ⟨m - 1, by omega⟩
    by_cases hg : g < z.t.length
    · have e0 : (!((none : Option Int) == none)) = false := rfl
      have en : ((g : Int)).toNat = g := Int.toNat_natCast g
      have s1 := zsort_eq (z := z) (g := (g : Int)) (by omega) (by omega)
      have s2 := zclosed_eq Z (g := (g : Int)) (by omega) (by omega)
      obtain ⟨b1, v1, e1, hb1⟩ := apart_three (a0 := a0) (p := p) (w := w) (so := so) (o := o) (a1 := a1) (r3 := r3) (v4 := v4) (v5 := v5) Z hn o0 o3 (v14 := z) (v15 := z.t.take g) (v16 := b) (g := (g : Int)) (r19 := (z, (z.t.length : Int))) (by omega) (by omega) 8 1000 b ((g : Int) * 8) (by omega) (by omega) (by omega)
      unfold ZoneApart.l2 ZGroups.f
      rw [Option.bind_some]
      simp only []
      rw [decide_eq_true (show (g : Int) < (z.t.length : Int) by omega), cond_true, s1, Option.bind_some]
      simp only [e0, cond_false]
      rw [decide_eq_true (show (z.t.take g).length + ([z.t.getD ((g : Int)).toNat 0] : List Int).length ≤ 1000000 by rw [List.length_take]; simp only [List.length_cons, List.length_nil]; omega), cond_true, s2, Option.bind_some]
      rw [wrap_small (x := (g : Int) * 8) (by omega) (by omega), e1, Option.bind_some, wrap_small (by omega) (by omega)]
      simp only []
      have ht : z.t.take g ++ [z.t.getD ((g : Int)).toNat 0] = z.t.take (g + 1) := by
        rw [en, List.take_succ_eq_append_getElem hg, List.getD_eq_getElem?_getD, List.getElem?_eq_getElem hg]
        rfl
      rw [ht, show (g : Int) + 1 = ((g + 1 : Nat) : Int) by omega]
      exact ih m b1 (g + 1) (by omega) (by omega) (by omega) (fun h => (hb1 h).elim hb id)
    · exact ⟨b, g, fin m b g (by omega), hb⟩
end
/-- All other groups keep their sort. -/
theorem apart_six {t : List Int} {z' : Zon} {so g : Int} (hg : 0 ≤ g ∧ g < (t.length : Int)) (hz : z'.t = t.set g.toNat so) (hl : t.length ≤ 900) {H : Nat → Zon → Int → Option (Sum (Zon × Int) Bool)}
    (hH : ∀ m x v, H (m + 1) x v = (bif decide (v < (t.length : Int)) then (ZSort.f 1000 x v).bind fun (r72 : Zon × Int × (Option Int)) => (bif !(r72.2.2 == none) then some (Sum.inr false) else (bif v != g then (bif decide (0 ≤ v) && decide (v < (t.length : Int)) then (bif r72.2.1 != (t.getD ((v).toNat) (0 : Int)) then some (Sum.inr false) else H m r72.1 (IntKind.i64.wrap (v + 1))) else none) else H m r72.1 (IntKind.i64.wrap (v + 1)))) else some (Sum.inl (x, v)))) :
    ∀ (d m : Nat) (v : Int), 0 ≤ v → t.length - v.toNat ≤ d → d < m → ∃ v', H m z' v = some (Sum.inl (z', v')) := by
  have hzl : z'.t.length = t.length := by rw [hz, List.length_set]
  intro d
  induction d with
  | zero =>
    intro m v v0 h1 h2
    obtain ⟨m, rfl⟩ : ∃ q, m = q + 1 := ⟨m - 1, by omega⟩
    rw [hH, decide_eq_false (show ¬ v < (t.length : Int) by omega), cond_false]
    exact ⟨v, rfl⟩
  | succ d ih =>
    intro m v v0 h1 h2
    obtain ⟨m, rfl⟩ : ∃ q, m = q + 1 := ⟨m - 1, by omega⟩
    rw [hH]
    by_cases hv : v < (t.length : Int)
    · obtain ⟨v', hv'⟩ := ih m (v + 1) (by omega) (by omega) (by omega)
      have e0 : (!((none : Option Int) == none)) = false := rfl
      rw [decide_eq_true hv, cond_true, zsort_eq v0 (by rw [hzl]; exact hv), Option.bind_some]
      simp only [e0, cond_false]
      rw [wrap_small (by omega) (by omega)]
      by_cases hvg : v = g
      · have : (v != g) = false := by simp [hvg]
        rw [this, cond_false]
        exact ⟨v', hv'⟩
      · have : (v != g) = true := by simp [hvg]
        have hget : z'.t.getD v.toNat 0 = t.getD v.toNat 0 := by
          rw [hz, getD_setI (by omega), if_neg (by omega)]
        have hn : (t.getD v.toNat 0 != t.getD v.toNat 0) = false := by simp
        rw [this, cond_true, decide_eq_true v0, hget, hn]
        exact ⟨v', hv'⟩
    · rw [decide_eq_false hv, cond_false]
      exact ⟨v, rfl⟩
theorem apart_go {n a0 p : Int} {a1 : List D4} {r3 : Zon × Option Int} (h0 : 0 ≤ n) (hn : n ≤ 100)
    (ha : ∀ x ∈ a1, (-9223372036854775808 ≤ x.w ∧ x.w ≤ 9223372036854775807) ∧ (-9223372036854775808 ≤ x.s ∧ x.s ≤ 9223372036854775807) ∧ (-9223372036854775808 ≤ x.o ∧ x.o ≤ 9223372036854775807)) :
    ∀ (d m : Nat) (z : Zon) (v : Int), 0 ≤ v → (60 - v).toNat ≤ d → d < m → ZI n z → ZoneApart.l1 1000 a0 a1 true p r3 m z v = some true := by
  intro d
  induction d with
  | zero =>
    intro m z v v0 h1 h2 Z
    obtain ⟨m, rfl⟩ : ∃ q, m = q + 1 := ⟨m - 1, by omega⟩
    unfold ZoneApart.l1
    rw [decide_eq_false (show ¬ v < 60 by omega)]
    cases decide (v < (a1.length : Int)) <;> rfl
  | succ d ih =>
    intro m z v v0 h1 h2 Z
    obtain ⟨m, rfl⟩ : ∃ q, m = q + 1 := ⟨m - 1, by omega⟩
    by_cases hl : v < (a1.length : Int)
    · by_cases h60 : v < 60
      · have hx : (a1.getD v.toNat zD) ∈ a1 := by
          rw [List.getD_eq_getElem?_getD, List.getElem?_eq_getElem (by omega)]
          exact List.getElem_mem _
        obtain ⟨⟨w0, w1⟩, ⟨s0, s1⟩, y0, y1⟩ := ha _ hx
        obtain ⟨w, hw, _, _⟩ := pick_range (a1.getD v.toNat zD).w 4 w0 w1 (by omega) (by omega)
        obtain ⟨so, hso, so0, so1⟩ := pick_range (a1.getD v.toNat zD).s 2 s0 s1 (by omega) (by omega)
        obtain ⟨o, ho, o0, o1⟩ := pick_range (a1.getD v.toNat zD).o 4 y0 y1 (by omega) (by omega)
        have htl := Z.tl
        have hcl := Z.cl
        have e0 : (!((none : Option Int) == none)) = false := rfl
        have e5 : (!((some 5 : Option Int) == none)) = true := rfl
        have wv : IntKind.i64.wrap (v + 1) = v + 1 := wrap_small (by omega) (by omega)
        have next : ∀ z', ZI n z' → ZoneApart.l1 1000 a0 a1 true p r3 m z' (IntKind.i64.wrap (v + 1)) = some true := fun z' Z' => by
          rw [wv]
          exact ih m z' (v + 1) (by omega) (by omega) (by omega) Z'
        unfold ZoneApart.l1
        rw [decide_eq_true hl, decide_eq_true h60, decide_eq_true v0]
        simp only [Bool.and_self, cond_true]
        rw [hw, Option.bind_some]
        by_cases hw0 : w = 0
        · rw [beq_iff_eq.mpr hw0, cond_true]
          generalize (a1.getD v.toNat zD).a = ga
          by_cases hg : 0 ≤ ga ∧ ga < (z.t.length : Int)
          · rw [zclosed_eq Z hg.1 hg.2, Option.bind_some]
            simp only []
            cases hc : z.c.getD ga.toNat false with
            | true =>
              rw [cond_true]
              rcases zopen_eq Z (by omega) hg with ⟨h, _⟩ | ⟨_, b, _, e⟩
              · rw [hc] at h; cases h
              · rw [e, Option.bind_some]
                exact next _ (Z.shut (by split <;> simp) (List.length_set ..))
            | false =>
              have e := zclose_eq Z hg
              rw [hc, if_neg (by decide)] at e
              rw [cond_false, e, Option.bind_some]
              exact next _ (Z.shut rfl (List.length_set ..))
          · rw [zclosed_no hg, Option.bind_some]
            simp only [cond_false]
            rw [zclose_no hg, Option.bind_some]
            exact next _ Z
        · rw [beq_eq_false_iff_ne.mpr hw0, cond_false, hso, Option.bind_some, ho, Option.bind_some]
          obtain ⟨b, v2, e2, hb⟩ := apart_two (a0 := a0) (p := p) (w := w) (so := so) (o := o) (a1 := a1) (r3 := r3) (v4 := z) (v5 := v) Z (by omega) o0 (by omega) z.t.length 1000 false 0 (by omega) (by omega) (by omega) (fun h => by cases h)
          rw [List.take_zero] at e2
          have e2 : ZoneApart.l2 1000 a0 a1 true p r3 z v w so o 1000 z [] false 0 = some (Sum.inl (z, z.t, b, v2)) := e2
          rw [e2, Option.bind_some]
          simp only [Sum.elim_inl]
          rcases ztake_eq Z h0 hn (so := so) (o := o) (by omega) o0 (by omega) with ⟨hno, e⟩ | ⟨r, hr, hro, _, hbest, rm, ok, l, e, hi, hsub, hcov⟩
          · rw [e, Option.bind_some]
            simp only [e5, cond_true]
            cases b with
            | true =>
              obtain ⟨x, hx, hxo, _⟩ := roomE_ex Z o0 (by omega) (hb rfl)
              have := hno x hx
              omega
            | false =>
              rw [cond_false]
              exact next z Z
          · have Z' : ZI n ⟨⟨z.s.n, l⟩, z.n, z.t.set (r.f / 8).toNat so, z.c⟩ := Z.of hi (List.length_set ..)
            have rf := ok.f0
            have re := ok.en
            have rp := ok.pos
            simp only at rf re rp
            have hgl : ((z.t.set (r.f / 8).toNat so).length : Int) = (n + 7) / 8 := by rw [List.length_set]; exact htl
            have hgs : (z.t.set (r.f / 8).toNat so).getD (r.f / 8).toNat 0 = so := by rw [getD_setI (by omega), if_pos rfl]
            rw [e, Option.bind_some]
            simp only [e0, cond_false]
            rw [decide_eq_false (show ¬ r.f < 0 by omega), cond_false, grp rf (by omega), decide_eq_false (show ¬ r.f / 8 ≥ (z.t.length : Int) by omega), cond_false]
            have s1 := zsort_eq (z := ⟨⟨z.s.n, l⟩, z.n, z.t.set (r.f / 8).toNat so, z.c⟩) (g := r.f / 8) (by omega) (by simp only; omega)
            have s2 := zclosed_eq Z' (g := r.f / 8) (by omega) (by simp only; omega)
            simp only [hgs, rm.op] at s1 s2
            rw [s1, Option.bind_some]
            simp only [e0, cond_false]
            rw [s2, Option.bind_some]
            simp only [cond_false]
            have hss : (so != so) = false := by simp
            cases b with
            | true =>
              have hts : z.t.getD (r.f / 8).toNat 0 = so := hbest (roomE_ex Z o0 (by omega) (hb rfl))
              rw [cond_true, decide_eq_true (show 0 ≤ r.f / 8 by omega), decide_eq_true (show r.f / 8 < (z.t.length : Int) by omega), hts, hss]
              simp only [Bool.and_self, cond_true, cond_false]
              obtain ⟨v', hv'⟩ := apart_six (t := z.t) (z' := ⟨⟨z.s.n, l⟩, z.n, z.t.set (r.f / 8).toNat so, z.c⟩) (so := so) (g := r.f / 8) ⟨by omega, by omega⟩ rfl (by omega) (H := ZoneApart.l6 1000 a0 a1 true p r3 z v w so o (z, z.t, true, v2) (⟨⟨z.s.n, l⟩, z.n, z.t.set (r.f / 8).toNat so, z.c⟩, r.f, none) (⟨⟨z.s.n, l⟩, z.n, z.t.set (r.f / 8).toNat so, z.c⟩, so, none) (⟨⟨z.s.n, l⟩, z.n, z.t.set (r.f / 8).toNat so, z.c⟩, false)) (fun m x v => by (conv => lhs; unfold ZoneApart.l6); simp only []; rw [grp rf (by omega)]) z.t.length 1000 0 (by omega) (by simp) (by omega)
              rw [hv', Option.bind_some]
              exact next _ Z'
            | false =>
              rw [cond_false]
              simp only [hss, cond_false]
              obtain ⟨v', hv'⟩ := apart_six (t := z.t) (z' := ⟨⟨z.s.n, l⟩, z.n, z.t.set (r.f / 8).toNat so, z.c⟩) (so := so) (g := r.f / 8) ⟨by omega, by omega⟩ rfl (by omega) (H := ZoneApart.l7 1000 a0 a1 true p r3 z v w so o (z, z.t, false, v2) (⟨⟨z.s.n, l⟩, z.n, z.t.set (r.f / 8).toNat so, z.c⟩, r.f, none) (⟨⟨z.s.n, l⟩, z.n, z.t.set (r.f / 8).toNat so, z.c⟩, so, none) (⟨⟨z.s.n, l⟩, z.n, z.t.set (r.f / 8).toNat so, z.c⟩, false)) (fun m x v => by (conv => lhs; unfold ZoneApart.l7); simp only []; rw [grp rf (by omega)]) z.t.length 1000 0 (by omega) (by simp) (by omega)
              rw [hv', Option.bind_some]
              exact next _ Z'
      · unfold ZoneApart.l1
        rw [decide_eq_true hl, decide_eq_false h60]
        rfl
    · unfold ZoneApart.l1
      rw [decide_eq_false hl]
      rfl
theorem ZoneApart.plain (a0 : Int) (a1 : List D4) (s0 : -9223372036854775808 ≤ a0) (s1 : a0 ≤ 9223372036854775807) (ha : ∀ x ∈ a1, (-9223372036854775808 ≤ x.w ∧ x.w ≤ 9223372036854775807) ∧ (-9223372036854775808 ≤ x.s ∧ x.s ≤ 9223372036854775807) ∧ (-9223372036854775808 ≤ x.o ∧ x.o ≤ 9223372036854775807)) : ZoneApart.f 1000 a0 a1 = some true := by
  obtain ⟨p, hp, p0, p1⟩ := pick_range a0 70 s0 s1 (by omega) (by omega)
  have hn : IntKind.i64.wrap (1 + p) = 1 + p := wrap_small (by omega) (by omega)
  have hup : up.f 1000 = some true := by kernel_rfl
  obtain ⟨z, hz, Z, _⟩ := znew_eq (n := 1 + p) (by omega) (by omega)
  have e0 : (!((none : Option Int) == none)) = false := rfl
  unfold ZoneApart.f
  rw [hup, Option.bind_some, hp, Option.bind_some, hn, hz, Option.bind_some]
  simp only [e0, cond_false]
  exact apart_go (n := 1 + p) (by omega) (by omega) ha 60 1000 z 0 (by omega) (by omega) (by omega) Z
end Go.Proofs.YtmjnenjeckeklaaDoor.V
