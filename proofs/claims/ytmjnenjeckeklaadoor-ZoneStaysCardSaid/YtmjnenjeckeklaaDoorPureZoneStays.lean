/- ZoneStays, as a plain law: a clone stands as the zone did, and goes its own ways; what was told stays. -/
import Derived.Test.YtmjnenjeckeklaaDoorB4
import Derived.Test.YtmjnenjeckeklaaDoorZoneGate
namespace Go.Proofs.YtmjnenjeckeklaaDoor.V
open Go Go.RowKit Go.Proofs Go.Proofs.YtmjnenjeckeklaaDoor.Q Go.Proofs.YtmjnenjeckeklaaDoorW.PrintWords
set_option linter.unusedVariables false
set_option linter.unusedSimpArgs false
set_option maxRecDepth 100000
theorem stays_three {n a0 a1 p q : Int} {r3 : Zon × Option Int} {r5 : Zon × Int × Option Int} {r6 : Zon × List Blk} {v7 : Zon} {v8 : List Blk} {v9 : Int} {r11 : Zon × List Blk} {v12 : Zon} {v13 : Int} {r15 : Zon × Zon} {r16 r17 : Zon × Int} {r19 : Zon × Option Int} {z1 z2 : Zon} {a : Int} {e : Option Int} {r20 : Zon × Bool} (h20 : r20.2 = false)
    (h0 : 1 ≤ n) (hn : n ≤ 100) (Z1 : ZI n z1) (Z2 : ZI n z2) (ht : ZTake.f 1000 z1 0 0 = some (z2, a, e)) : ∀ (d m : Nat) (z : Zon) (v : Int), 0 ≤ v → (8 - v).toNat ≤ d → d < m → ZI n z → z.c.getD 0 false = true → z.t.getD 0 0 = z2.t.getD 0 0 →
    ZoneStays.l3 1000 a0 a1 true p r3 q r5 r6 v7 v8 v9 r11 v12 v13 r15 r16 r17 (z2, a, e) r19 r20 m z z1 v = some true := by
  have fin : ∀ (m : Nat) (z : Zon) (v : Int), ¬ v < 8 → ZI n z → z.t.getD 0 0 = z2.t.getD 0 0 → ZoneStays.l3 1000 a0 a1 true p r3 q r5 r6 v7 v8 v9 r11 v12 v13 r15 r16 r17 (z2, a, e) r19 r20 (m + 1) z z1 v = some true := by
    intro m z v hv Z htt
    have htl := Z.tl
    have htl2 := Z2.tl
    have s2 := zsort_eq (z := z2) (g := 0) (by omega) (by omega)
    have s1 := zsort_eq (z := z) (g := 0) (by omega) (by omega)
    have e0 : ((none : Option Int) == none) = true := rfl
    unfold ZoneStays.l3
    rw [decide_eq_false hv, cond_false, ht, Option.bind_some]
    simp only []
    rw [s2, Option.bind_some, s1, Option.bind_some, h20]
    have ez : (0 : Int).toNat = 0 := rfl
    simp only [ez, htt, beq_self_eq_true, Bool.not_false, cond_true, e0]
    cases !(e == none) <;> rfl
  intro d
  induction d with
  | zero =>
    intro m z v v0 h1 h2 Z hc htt
    obtain ⟨m, rfl⟩ : ∃ q, m = q + 1 := ⟨m - 1, by omega⟩
    exact fin m z v (by omega) Z htt
  | succ d ih =>
    intro m z v v0 h1 h2 Z hc htt
    obtain ⟨m, rfl⟩ : ∃ q, m = q + 1 := ⟨m - 1, by omega⟩
    by_cases hv : v < 8
    · obtain ⟨z', f, e', hz, Z', hc', hk⟩ := ztake_inv Z (by omega) hn (so := 0) (o := 0) (.inl rfl) (by omega) (by omega)
      unfold ZoneStays.l3
      rw [decide_eq_true hv, cond_true, hz, Option.bind_some, wrap_small (by omega) (by omega)]
      exact ih m z' (v + 1) (by omega) (by omega) (by omega) Z' (by rw [hc']; exact hc) (by rw [hk 0 hc]; exact htt)
    · exact fin m z v hv Z htt
theorem ZoneStays.plain (a0 a1 : Int) (s0 : -9223372036854775808 ≤ a0) (s1 : a0 ≤ 9223372036854775807) (t0 : -9223372036854775808 ≤ a1) (t1 : a1 ≤ 9223372036854775807) : ZoneStays.f 1000 a0 a1 = some true := by
  obtain ⟨p, hp, p0, p1⟩ := pick_range a0 70 s0 s1 (by omega) (by omega)
  obtain ⟨q, hq, q0, q1⟩ := pick_range a1 4 t0 t1 (by omega) (by omega)
  have hn : IntKind.i64.wrap (1 + p) = 1 + p := wrap_small (by omega) (by omega)
  have hup : up.f 1000 = some true := by kernel_rfl
  obtain ⟨z, hz, Z, _, _, hzc⟩ := znew_eq (n := 1 + p) (by omega) (by omega)
  have e0 : (!((none : Option Int) == none)) = false := rfl
  obtain ⟨z1, f, e, ht, Z1, hc1, _⟩ := ztake_inv Z (by omega) (by omega) (so := 1) (o := q) (.inr rfl) q0 (by omega)
  obtain ⟨z2, f2, e2, ht2, Z2, hc2, _⟩ := ztake_inv Z1 (by omega) (by omega) (so := 0) (o := 0) (.inl rfl) (by omega) (by omega)
  have hl1 := Z1.inv.len (by omega)
  have htl1 := Z1.tl
  have htl2 := Z2.tl
  have hcl2 := Z2.cl
  have hfalse : z1.c.getD 0 false = false := by
    rw [hc1, hzc, List.getD_eq_getElem?_getD, List.getElem?_replicate]
    split <;> rfl
  unfold ZoneStays.f
  rw [hup, Option.bind_some, hp, Option.bind_some, hn, hz, Option.bind_some]
  simp only [e0, cond_false]
  rw [hq, Option.bind_some, ht, Option.bind_some, zfree_eq Z1 (by omega), Option.bind_some]
  have two : ∀ (v8 : List Blk) (v9 : Int) (d m : Nat) (v : Int), 0 ≤ v → z1.s.l.length - v.toNat ≤ d → d < m → ZoneStays.l2 1000 a0 a1 true p (z, none) q (z1, f, e) (z1, z1.s.l) z1 v8 v9 (z1, z1.s.l) m z1 v = some true := by
    intro v8 v9 d
    induction d with
    | zero =>
      intro m v v0 h1 h2
      obtain ⟨m, rfl⟩ : ∃ q, m = q + 1 := ⟨m - 1, by omega⟩
      have hgg : ((z1.t.length : Int) != (z1.t.length : Int)) = false := by simp
      have hcl := zclose_eq Z2 (g := 0) ⟨by omega, by omega⟩
      have ez : (0 : Int).toNat = 0 := rfl
      have hc20 : z2.c.getD 0 false = false := by rw [hc2]; exact hfalse
      rw [ez, hc20, if_neg (by decide)] at hcl
      have hcd := zclosed_eq Z1 (g := 0) (by omega) (by omega)
      rw [ez, hfalse] at hcd
      unfold ZoneStays.l2
      rw [decide_eq_false (show ¬ v < ((z1, z1.s.l).2.length : Int) by simp only; omega), cond_false, zclone_eq Z1 (by omega), Option.bind_some]
      unfold ZGroups.f
      simp only [Option.bind_some, hgg, cond_false]
      rw [ht2, Option.bind_some]
      simp only []
      rw [hcl, Option.bind_some, hcd, Option.bind_some]
      simp only []
      exact stays_three rfl (by omega) (by omega) Z1 Z2 ht2 8 1000 _ 0 (by omega) (by omega) (by omega) (Z2.shut rfl (List.length_set ..)) (by simp only; rw [getD_setB (by omega), if_pos rfl]) rfl
    | succ d ih =>
      intro m v v0 h1 h2
      obtain ⟨m, rfl⟩ : ∃ q, m = q + 1 := ⟨m - 1, by omega⟩
      by_cases hv : v < (z1.s.l.length : Int)
      · have next := ih m (v + 1) (by omega) (by omega) (by omega)
        have hi : v.toNat < z1.s.l.length := by omega
        have ok := Z1.inv.ok _ (List.getElem_mem hi)
        have e3 : z1.s.l.getD v.toNat zR = z1.s.l[v.toNat] := getD_at hi
        have hf0 := ok.f0
        unfold ZoneStays.l2
        simp only []
        rw [decide_eq_true hv, decide_eq_true v0, e3, decide_eq_false (show ¬ z1.s.l[v.toNat].f < 0 by omega)]
        simp only [Bool.and_self, cond_true, cond_false]
        rw [wrap_small (by omega) (by omega)]
        exact next
      · exact ih (m + 1) v v0 (by omega) (by omega)
  have hne : ((z1.s.l.length : Int) != (z1.s.l.length : Int)) = false := by simp
  have one : ∀ (d m : Nat) (v8 : List Blk) (v : Int), 0 ≤ v → v8.length ≤ 900 → v8.length - v.toNat ≤ d → d < m → ZoneStays.l1 1000 a0 a1 true p (z, none) q (z1, f, e) (z1, z1.s.l) m z1 v8 v = some true := by
    intro d
    induction d with
    | zero =>
      intro m v8 v v0 hl h1 h2
      obtain ⟨m, rfl⟩ : ∃ q, m = q + 1 := ⟨m - 1, by omega⟩
      unfold ZoneStays.l1
      rw [decide_eq_false (show ¬ v < (v8.length : Int) by omega), cond_false, zfree_eq Z1 (by omega), Option.bind_some]
      simp only [hne, cond_false]
      exact two v8 v z1.s.l.length 1000 0 (by omega) (by simp) (by omega)
    | succ d ih =>
      intro m v8 v v0 hl h1 h2
      obtain ⟨m, rfl⟩ : ∃ q, m = q + 1 := ⟨m - 1, by omega⟩
      by_cases hv : v < (v8.length : Int)
      · unfold ZoneStays.l1
        rw [decide_eq_true hv, decide_eq_true v0]
        simp only [Bool.and_self, cond_true]
        rw [wrap_small (by omega) (by omega)]
        exact ih m _ (v + 1) (by omega) (by rw [List.length_set]; exact hl) (by rw [List.length_set]; omega) (by omega)
      · exact ih (m + 1) v8 v v0 hl (by omega) (by omega)
  exact one z1.s.l.length 1000 z1.s.l 0 (by omega) (by omega) (by simp) (by omega)
end Go.Proofs.YtmjnenjeckeklaaDoor.V
