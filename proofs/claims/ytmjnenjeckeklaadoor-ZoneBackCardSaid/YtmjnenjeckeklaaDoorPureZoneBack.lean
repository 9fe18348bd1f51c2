/- ZoneBack, as a plain law: what was taken and is given back is free as it was. -/
import Derived.Test.YtmjnenjeckeklaaDoorB4
import Derived.Test.YtmjnenjeckeklaaDoorZoneTake
namespace Go.Proofs.YtmjnenjeckeklaaDoor.V
open Go Go.RowKit Go.Proofs Go.Proofs.YtmjnenjeckeklaaDoor.Q Go.Proofs.YtmjnenjeckeklaaDoorW.PrintWords
set_option linter.unusedVariables false
set_option linter.unusedSimpArgs false
set_option maxRecDepth 100000
theorem cmp_loop {L : List Blk} {F : Nat → Int → Option Bool} {r1 : Bool} (hF : ∀ n v, F (n + 1) v = (bif decide (v < (L.length : Int)) then (bif decide (0 ≤ v) && decide (v < (L.length : Int)) then (bif decide (0 ≤ v) && decide (v < (L.length : Int)) then (bif !(((L.getD ((v).toNat) zR).f) == ((L.getD ((v).toNat) zR).f) && (((L.getD ((v).toNat) zR).o) == ((L.getD ((v).toNat) zR).o))) then some false else F n (IntKind.i64.wrap (v + 1))) else none) else none) else some r1)) (hl : L.length ≤ 900) :
    ∀ (d n : Nat) (v : Int), 0 ≤ v → L.length - v.toNat ≤ d → d < n → F n v = some r1 := by
  intro d
  induction d with
  | zero =>
    intro n v h0 h1 h2
    obtain ⟨n, rfl⟩ : ∃ m, n = m + 1 := ⟨n - 1, by omega⟩
    rw [hF, decide_eq_false (show ¬ v < (L.length : Int) by omega)]
    rfl
  | succ d ih =>
    intro n v h0 h1 h2
    obtain ⟨n, rfl⟩ : ∃ m, n = m + 1 := ⟨n - 1, by omega⟩
    rw [hF]
    by_cases hv : v < (L.length : Int)
    · rw [decide_eq_true hv, decide_eq_true h0]
      simp only [beq_self_eq_true, Bool.and_self, Bool.not_true, cond_true, cond_false]
      rw [wrap_small (by omega) (by omega)]
      exact ih n (v + 1) (by omega) (by omega) (by omega)
    · rw [decide_eq_false hv]
      rfl
/-- The end of the law. -/
theorem back_end {n : Int} {z : Zon} (Z : ZI n z) (h0 : 0 ≤ n) (hn : n ≤ 100) {a2 a3 : Int} (t0 : -9223372036854775808 ≤ a2) (t1 : a2 ≤ 9223372036854775807) (u0 : -9223372036854775808 ≤ a3) (u1 : a3 ≤ 9223372036854775807)
    {A B : Zon × List Blk → Int → Int → Zon × Int × Option Int → Zon × Bool → Zon × Int × Option Int → Zon × Option Int → Zon × List Blk → Nat → Int → Option Bool} {C : Zon × List Blk → Int → Int → Zon × Int × Option Int → Zon × List Blk → Nat → Int → Option Bool}
    (hA : ∀ x y o p q s t r n v, A x y o p q s t r (n + 1) v = (bif decide (v < (r.2.length : Int)) then (bif decide (0 ≤ v) && decide (v < (r.2.length : Int)) then (bif decide (0 ≤ v) && decide (v < (x.2.length : Int)) then (bif !(((r.2.getD ((v).toNat) zR).f) == ((x.2.getD ((v).toNat) zR).f) && (((r.2.getD ((v).toNat) zR).o) == ((x.2.getD ((v).toNat) zR).o))) then some false else A x y o p q s t r n (IntKind.i64.wrap (v + 1))) else none) else none) else some true))
    (hC : ∀ x y o p r n v, C x y o p r (n + 1) v = (bif decide (v < (r.2.length : Int)) then (bif decide (0 ≤ v) && decide (v < (r.2.length : Int)) then (bif decide (0 ≤ v) && decide (v < (x.2.length : Int)) then (bif !(((r.2.getD ((v).toNat) zR).f) == ((x.2.getD ((v).toNat) zR).f) && (((r.2.getD ((v).toNat) zR).o) == ((x.2.getD ((v).toNat) zR).o))) then some false else C x y o p r n (IntKind.i64.wrap (v + 1))) else none) else none) else some true)) :
    ((ZFree.f 1000 z).bind fun (r12 : Zon × (List Blk)) => (paviorlaw08_pick.f a2 2).bind fun (r13 : Int) => (paviorlaw08_pick.f a3 4).bind fun (r14 : Int) => (ZTake.f 1000 r12.1 r13 r14).bind fun (r15 : Zon × Int × (Option Int)) => (bif r15.2.2 == none then (bif decide (0 ≤ r14) then (bif decide ((IntKind.i64.wrap (1 * 2 ^ min (r14).toNat (IntKind.i64).bits)) ≠ 0) then (bif (r15.2.1.tmod (IntKind.i64.wrap (1 * 2 ^ min (r14).toNat (IntKind.i64).bits))) != 0 then some false else (ZIsFree.f 1000 r15.1 r15.2.1).bind fun (r20 : Zon × Bool) => (bif r20.2 then some false else (ZSort.f 1000 r20.1 (IntKind.i64.wrap (r15.2.1.tdiv 8))).bind fun (r21 : Zon × Int × (Option Int)) => (ZGive.f 1000 r21.1 r15.2.1 r14).bind fun (r22 : Zon × (Option Int)) => (bif !(r22.2 == none) then some false else (bif !(r21.2.2 == none) then some false else (bif r21.2.1 != r13 then some false else (ZFree.f 1000 r22.1).bind fun (r27 : Zon × (List Blk)) => (bif (r27.2.length : Int) != (r12.2.length : Int) then some false else A r12 r13 r14 r15 r20 r21 r22 r27 1000 0)))))) else none) else none) else (ZFree.f 1000 r15.1).bind fun (r31 : Zon × (List Blk)) => (bif (r31.2.length : Int) != (r12.2.length : Int) then some false else C r12 r13 r14 r15 r31 1000 0))) = some true := by
  obtain ⟨so, hso, so0, so1⟩ := pick_range a2 2 t0 t1 (by omega) (by omega)
  obtain ⟨o, ho, o0, o1⟩ := pick_range a3 4 u0 u1 (by omega) (by omega)
  have hll := Z.llen h0
  have e0 : (!((none : Option Int) == none)) = false := rfl
  have e1 : ((none : Option Int) == none) = true := rfl
  have e2 : ((some 5 : Option Int) == none) = false := rfl
  have hne : ((z.s.l.length : Int) != (z.s.l.length : Int)) = false := by simp
  rw [zfree_eq Z (by omega), Option.bind_some, hso, Option.bind_some, ho, Option.bind_some]
  simp only []
  rcases ztake_eq Z h0 hn (so := so) (o := o) (by omega) o0 (by omega) with ⟨_, e⟩ | ⟨r, _, hro, _, _, rm, ok, l, e, hi, hsub, hcov⟩
  · rw [e, Option.bind_some]
    simp only [e2, cond_false]
    rw [zfree_eq Z (by omega), Option.bind_some]
    simp only [hne, cond_false]
    exact cmp_loop (L := z.s.l) (fun n v => hC _ _ _ _ _ _ _) (by omega) z.s.l.length 1000 0 (by omega) (by simp) (by omega)
  · have Z' : ZI n ⟨⟨z.s.n, l⟩, z.n, z.t.set (r.f / 8).toNat so, z.c⟩ := Z.of hi (List.length_set ..)
    have rf := ok.f0
    have ra := ok.al
    have re := ok.en
    have rp := ok.pos
    simp only at rf ra re rp
    have htl := Z.tl
    have hs := shl_pw o0 (by omega : o ≤ 20)
    rw [e, Option.bind_some]
    simp only [e1, cond_true]
    rw [decide_eq_true o0, cond_true, hs, decide_eq_true (show pw o ≠ 0 by omega), cond_true]
    have hm : (r.f.tmod (pw o) != 0) = false := by rw [Int.tmod_eq_emod_of_nonneg rf, ra]; rfl
    rw [hm, cond_false, zisfree_no Z' (by omega) (fun h => ((hcov r.f).mp h).2 ok.self), Option.bind_some]
    simp only [cond_false]
    have hlen : ((z.t.set (r.f / 8).toNat so).length : Int) = (n + 7) / 8 := by rw [List.length_set]; exact htl
    have hg : (z.t.set (r.f / 8).toNat so).getD (r.f / 8).toNat 0 = so := by
      rw [List.getD_eq_getElem?_getD, List.getElem?_set_self (by omega)]; rfl
    rw [grp rf (by omega), zsort_eq (by omega) (by simp only; omega), Option.bind_some]
    simp only [hg]
    have gv : ZGive.f 1000 ⟨⟨z.s.n, l⟩, z.n, z.t.set (r.f / 8).toNat so, z.c⟩ r.f o = some (⟨z.s, z.n, z.t.set (r.f / 8).toNat so, z.c⟩, none) := by
      unfold ZGive.f
      rw [decide_eq_false (show ¬ o > 3 by omega), cond_false]
      rcases give_eq (s := ⟨z.s.n, l⟩) hi Z.sn (by omega) (k := 1000) (by omega) r.f o with ⟨hno, _⟩ | ⟨_, ⟨u, hu, hc⟩, _⟩ | ⟨_, _, l2, e3, hi2, hcov2, _⟩
      · exact absurd ok hno
      · exact absurd hu ((hcov u).mp hc).2
      · have : l2 = z.s.l := uniq hi2 Z.inv fun t => by
          rw [hcov2, hcov]
          constructor
          · rintro (⟨h1, _⟩ | h1)
            · exact h1
            · exact hsub t h1
          · intro h1
            by_cases h2 : In t ⟨r.f, o⟩
            · exact .inr h2
            · exact .inl ⟨h1, h2⟩
        rw [e3, this, Option.bind_some]
    have hns : (so != so) = false := by simp
    have Z2 : ZI n ⟨z.s, z.n, z.t.set (r.f / 8).toNat so, z.c⟩ := Z.of Z.inv (List.length_set ..)
    rw [gv, Option.bind_some]
    simp only [e0, cond_false, hns]
    rw [zfree_eq Z2 (by omega), Option.bind_some]
    simp only [hne, cond_false]
    exact cmp_loop (L := z.s.l) (fun n v => hA _ _ _ _ _ _ _ _ _ _) (by omega) z.s.l.length 1000 0 (by omega) (by simp) (by omega)
theorem back_go {n a0 a2 a3 p : Int} {a1 : List D4} {r3 : Zon × Option Int} (h0 : 0 ≤ n) (hn : n ≤ 100) (t0 : -9223372036854775808 ≤ a2) (t1 : a2 ≤ 9223372036854775807) (u0 : -9223372036854775808 ≤ a3) (u1 : a3 ≤ 9223372036854775807)
    (ha : ∀ x ∈ a1, (-9223372036854775808 ≤ x.s ∧ x.s ≤ 9223372036854775807) ∧ (-9223372036854775808 ≤ x.o ∧ x.o ≤ 9223372036854775807)) :
    ∀ (d m : Nat) (z : Zon) (v : Int), 0 ≤ v → (30 - v).toNat ≤ d → d < m → ZI n z → ZoneBack.l1 1000 a0 a1 a2 a3 true p r3 m z v = some true := by
  intro d
  induction d with
  | zero =>
    intro m z v v0 h1 h2 Z
    obtain ⟨m, rfl⟩ : ∃ q, m = q + 1 := ⟨m - 1, by omega⟩
    unfold ZoneBack.l1
    rw [decide_eq_false (show ¬ v < 30 by omega), cond_false]
    cases decide (v < (a1.length : Int)) with
    | true => exact back_end Z h0 hn t0 t1 u0 u1 (A := ZoneBack.l2 1000 a0 a1 a2 a3 true p r3 z v) (B := ZoneBack.l2 1000 a0 a1 a2 a3 true p r3 z v) (C := ZoneBack.l3 1000 a0 a1 a2 a3 true p r3 z v) (fun _ _ _ _ _ _ _ _ _ _ => rfl) (fun _ _ _ _ _ _ _ => rfl)
    | false => exact back_end Z h0 hn t0 t1 u0 u1 (A := ZoneBack.l4 1000 a0 a1 a2 a3 true p r3 z v) (B := ZoneBack.l4 1000 a0 a1 a2 a3 true p r3 z v) (C := ZoneBack.l5 1000 a0 a1 a2 a3 true p r3 z v) (fun _ _ _ _ _ _ _ _ _ _ => rfl) (fun _ _ _ _ _ _ _ => rfl)
  | succ d ih =>
    intro m z v v0 h1 h2 Z
    obtain ⟨m, rfl⟩ : ∃ q, m = q + 1 := ⟨m - 1, by omega⟩
    unfold ZoneBack.l1
    by_cases hl : v < (a1.length : Int)
    · by_cases h30 : v < 30
      · rw [decide_eq_true hl, decide_eq_true h30, decide_eq_true v0]
        simp only [Bool.and_self, cond_true]
        have hx : (a1.getD v.toNat zD) ∈ a1 := by
          rw [List.getD_eq_getElem?_getD, List.getElem?_eq_getElem (by omega)]
          exact List.getElem_mem _
        obtain ⟨⟨x0, x1⟩, y0, y1⟩ := ha _ hx
        obtain ⟨so, hso, s0, s1⟩ := pick_range (a1.getD v.toNat zD).s 2 x0 x1 (by omega) (by omega)
        obtain ⟨o, ho, o0, o1⟩ := pick_range (a1.getD v.toNat zD).o 4 y0 y1 (by omega) (by omega)
        obtain ⟨z', f, e, ht, Z', _, _⟩ := ztake_inv Z h0 hn (so := so) (o := o) (by omega) o0 (by omega)
        rw [hso, Option.bind_some, ho, Option.bind_some, ht, Option.bind_some, wrap_small (by omega) (by omega)]
        exact ih m z' (v + 1) (by omega) (by omega) (by omega) Z'
      · rw [decide_eq_true hl, decide_eq_false h30]
        simp only [cond_true, cond_false]
        exact back_end Z h0 hn t0 t1 u0 u1 (A := ZoneBack.l2 1000 a0 a1 a2 a3 true p r3 z v) (B := ZoneBack.l2 1000 a0 a1 a2 a3 true p r3 z v) (C := ZoneBack.l3 1000 a0 a1 a2 a3 true p r3 z v) (fun _ _ _ _ _ _ _ _ _ _ => rfl) (fun _ _ _ _ _ _ _ => rfl)
    · rw [decide_eq_false hl, cond_false]
      exact back_end Z h0 hn t0 t1 u0 u1 (A := ZoneBack.l4 1000 a0 a1 a2 a3 true p r3 z v) (B := ZoneBack.l4 1000 a0 a1 a2 a3 true p r3 z v) (C := ZoneBack.l5 1000 a0 a1 a2 a3 true p r3 z v) (fun _ _ _ _ _ _ _ _ _ _ => rfl) (fun _ _ _ _ _ _ _ => rfl)
theorem ZoneBack.plain (a0 : Int) (a1 : List D4) (a2 a3 : Int) (s0 : -9223372036854775808 ≤ a0) (s1 : a0 ≤ 9223372036854775807) (ha : ∀ x ∈ a1, (-9223372036854775808 ≤ x.s ∧ x.s ≤ 9223372036854775807) ∧ (-9223372036854775808 ≤ x.o ∧ x.o ≤ 9223372036854775807)) (t0 : -9223372036854775808 ≤ a2) (t1 : a2 ≤ 9223372036854775807) (u0 : -9223372036854775808 ≤ a3) (u1 : a3 ≤ 9223372036854775807) : ZoneBack.f 1000 a0 a1 a2 a3 = some true := by
  obtain ⟨p, hp, p0, p1⟩ := pick_range a0 70 s0 s1 (by omega) (by omega)
  have hn : IntKind.i64.wrap (1 + p) = 1 + p := wrap_small (by omega) (by omega)
  have hup : up.f 1000 = some true := by kernel_rfl
  obtain ⟨z, hz, Z, _⟩ := znew_eq (n := 1 + p) (by omega) (by omega)
  have e0 : (!((none : Option Int) == none)) = false := rfl
  unfold ZoneBack.f
  rw [hup, Option.bind_some, hp, Option.bind_some, hn, hz, Option.bind_some]
  simp only [e0, cond_false]
  exact back_go (n := 1 + p) (by omega) (by omega) t0 t1 u0 u1 ha 30 1000 z 0 (by omega) (by omega) (by omega) Z
end Go.Proofs.YtmjnenjeckeklaaDoor.V
