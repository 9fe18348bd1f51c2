import Derived.Test.YtmjnenjeckeklaaDoorB3
import Derived.Test.YtmjnenjeckeklaaDoorBuddySet
import Derived.Test.YtmjnenjeckeklaaDoorZoneGate
namespace Go.Proofs.YtmjnenjeckeklaaDoor.V
open Go Go.RowKit Go.Proofs Go.Proofs.YtmjnenjeckeklaaDoor.Q Go.Proofs.YtmjnenjeckeklaaDoorW.PrintWords
set_option linter.unusedVariables false
set_option linter.unusedSimpArgs false
set_option maxRecDepth 100000
structure Gz (n : Int) (z : Zon) (m : ZM) : Prop where
  zi : ZI n z
  mt : m.t = z.t
  mc : m.c = z.c
  len : (m.s.length : Int) = n
  sees : Sees m.s z.s.l
theorem isFreeR_of {s : Sto} {u : Int} {b : Bool} (h : IsFree.f 1000 s u = some (s, b)) : IsFreeR.f 1000 s u = some b := by
  unfold IsFree.f inn.f at h
  unfold IsFreeR.f innR.f
  cases hx : IndexFunc.f 1000 s.l (fun (x0 : Blk) => inL.f x0 u) with
  | none => rw [hx] at h; cases h
  | some i =>
    rw [hx] at h
    simp only [Option.bind_some, Option.some.injEq, Prod.mk.injEq] at h ⊢
    exact h.2
theorem zisfreeR_yes {n : Int} {z : Zon} (Z : ZI n z) (hn : n ≤ 512) {u : Int} (h : Cov z.s.l u) : ZIsFreeR.f 1000 z u = some true := by
  unfold ZIsFreeR.f
  rw [isFreeR_of (isFree_yes Z.inv hn (by omega) h), Option.bind_some]
theorem zisfreeR_no {n : Int} {z : Zon} (Z : ZI n z) (hn : n ≤ 512) {u : Int} (h : ¬ Cov z.s.l u) : ZIsFreeR.f 1000 z u = some false := by
  unfold ZIsFreeR.f
  rw [isFreeR_of (isFree_no Z.inv hn (by omega) h), Option.bind_some]
theorem zfreeR_eq {n : Int} {z : Zon} (Z : ZI n z) (hn : n ≤ 512) : ZFreeR.f 1000 z = some z.s.l := by
  have := Z.inv.len hn
  unfold ZFreeR.f FreeR.f
  rw [clone_eq (by omega)]
  rfl
theorem zsortR_eq {z : Zon} {g : Int} (h0 : 0 ≤ g) (h1 : g < (z.t.length : Int)) : ZSortR.f 1000 z g = some (z.t.getD g.toNat 0, none) := by
  unfold ZSortR.f hasR.f
  rw [decide_eq_true (show g ≥ 0 from h0), decide_eq_true h1, cond_true, Option.bind_some]
  simp only [Bool.not_true, cond_false]
  first | rfl | (rw [decide_eq_true h1]; rfl)
theorem zsortR_no {z : Zon} {g : Int} (h : ¬ (0 ≤ g ∧ g < (z.t.length : Int))) : ZSortR.f 1000 z g = some (0, some 1) := by
  unfold ZSortR.f hasR.f
  by_cases h0 : g ≥ 0
  · rw [decide_eq_true h0, decide_eq_false (show ¬ g < (z.t.length : Int) from fun h1 => h ⟨h0, h1⟩)]; rfl
  · rw [decide_eq_false h0]; rfl
theorem zclosedR_eq {n : Int} {z : Zon} (Z : ZI n z) {g : Int} (h0 : 0 ≤ g) (h1 : g < (z.t.length : Int)) : ZClosedR.f 1000 z g = some (z.c.getD g.toNat false) := by
  have := Z.tl
  have := Z.cl
  unfold ZClosedR.f hasR.f
  rw [decide_eq_true (show g ≥ 0 from h0), decide_eq_true h1, cond_true, Option.bind_some]
  simp only [cond_true]
  rw [decide_eq_true (show g < (z.c.length : Int) by omega)]
  rfl
theorem zclosedR_no {z : Zon} {g : Int} (h : ¬ (0 ≤ g ∧ g < (z.t.length : Int))) : ZClosedR.f 1000 z g = some false := by
  unfold ZClosedR.f hasR.f
  by_cases h0 : g ≥ 0
  · rw [decide_eq_true h0, decide_eq_false (show ¬ g < (z.t.length : Int) from fun h1 => h ⟨h0, h1⟩)]; rfl
  · rw [decide_eq_false h0]; rfl
theorem same_two {n : Int} {z : Zon} {m : ZM} (g : Gz n z m) (hn : n ≤ 512) {r1 r2 : List Blk} {v6 : Int} : ∀ (d k : Nat) (v : Nat), z.t.length - v ≤ d → d < k → v ≤ z.t.length → same.l2 1000 z m r1 r2 v6 k (v : Int) = some true := by
  have Z := g.zi
  have htl := Z.tl
  have hcl := Z.cl
  have hlen := g.len
  have e0 : (!((none : Option Int) == none)) = false := rfl
  have fin : ∀ k : Nat, same.l2 1000 z m r1 r2 v6 (k + 1) (z.t.length : Int) = some true := by
    intro k
    unfold same.l2
    rw [g.mt, decide_eq_false (show ¬ (z.t.length : Int) < (z.t.length : Int) by omega), cond_false, zsortR_no (by omega), Option.bind_some]
    have e1 : ((some 1 : Option Int) == some 1) = true := rfl
    simp only [e1, cond_true]
    rw [zclosedR_no (by omega), Option.bind_some]
    simp only [Bool.not_false, cond_true]
    rw [zisfreeR_no Z hn (fun h => by have := h.lt Z.inv; omega), Option.bind_some]
    rfl
  intro d
  induction d with
  | zero =>
    intro k v h1 h2 h3
    obtain ⟨k, rfl⟩ : ∃ q, k = q + 1 := ⟨k - 1, by omega⟩
    rw [show v = z.t.length by omega]
    exact fin k
  | succ d ih =>
    intro k v h1 h2 h3
    obtain ⟨k, rfl⟩ : ∃ q, k = q + 1 := ⟨k - 1, by omega⟩
    rcases Nat.lt_or_eq_of_le h3 with hv | hv
    · have next := ih k (v + 1) (by omega) (by omega) (by omega)
      have hs := g.sees ((v : Int) * 8)
      have w8 : IntKind.i64.wrap ((v : Int) * 8) = (v : Int) * 8 := wrap_small (by omega) (by omega)
      have w1 : IntKind.i64.wrap ((v : Int) + 1) = ((v + 1 : Nat) : Int) := by rw [wrap_small (by omega) (by omega)]; omega
      have hfree : ZIsFreeR.f 1000 z ((v : Int) * 8) = some (m.s.getD ((v : Int) * 8).toNat false) := by
        cases hb : m.s.getD ((v : Int) * 8).toNat false with
        | true => exact zisfreeR_yes Z hn (hs.mpr ⟨by omega, hb⟩)
        | false => exact zisfreeR_no Z hn (fun h => by have := (hs.mp h).2; rw [hb] at this; cases this)
      unfold same.l2
      rw [g.mt, g.mc, w8, w1, decide_eq_true (show (v : Int) < (z.t.length : Int) by omega), cond_true, zsortR_eq (by omega) (by omega), Option.bind_some]
      simp only [e0, cond_false]
      rw [decide_eq_true (show 0 ≤ (v : Int) by omega), decide_eq_true (show (v : Int) < (z.c.length : Int) by omega), decide_eq_true (show 0 ≤ (v : Int) * 8 by omega), decide_eq_true (show (v : Int) * 8 < (m.s.length : Int) by omega)]
      have hne : (z.t.getD ((v : Int)).toNat 0 != z.t.getD ((v : Int)).toNat 0) = false := by simp
      simp only [Bool.and_self, cond_true, hne, cond_false]
      rw [zclosedR_eq Z (by omega) (by omega), Option.bind_some]
      simp only [beq_self_eq_true, Bool.not_true, cond_false]
      rw [hfree, Option.bind_some]
      simp only [beq_self_eq_true, Bool.not_true, cond_false]
      exact next
    · rw [hv]; exact fin k
theorem same_eq {n : Int} {z : Zon} {m : ZM} (g : Gz n z m) (hn : n ≤ 512) : same.f 1000 z m = some true := by
  have Z := g.zi
  have hlen := g.len
  have hl := Z.inv.len hn
  have htl := Z.tl
  have hi : Inv m.s.length z.s.l := by rw [hlen]; exact Z.inv
  unfold same.f ZGroupsR.f
  rw [zfreeR_eq Z hn, Option.bind_some, rfree_eq (by omega) hi g.sees, Option.bind_some, Option.bind_some, g.mt]
  have h1 : ((z.s.l.length : Int) != (z.s.l.length : Int)) = false := by simp
  have h2 : ((z.t.length : Int) != (z.t.length : Int)) = false := by simp
  rw [h1, h2, cond_false, cond_false]
  have one : ∀ (d k : Nat) (v : Int), 0 ≤ v → z.s.l.length - v.toNat ≤ d → d < k → same.l1 1000 z m z.s.l z.s.l k v = some true := by
    intro d
    induction d with
    | zero =>
      intro k v v0 h1 h2
      obtain ⟨k, rfl⟩ : ∃ q, k = q + 1 := ⟨k - 1, by omega⟩
      unfold same.l1
      rw [decide_eq_false (show ¬ v < (z.s.l.length : Int) by omega), cond_false]
      exact same_two g hn z.t.length 1000 0 (by omega) (by omega) (by omega)
    | succ d ih =>
      intro k v v0 h1 h2
      obtain ⟨k, rfl⟩ : ∃ q, k = q + 1 := ⟨k - 1, by omega⟩
      by_cases hv : v < (z.s.l.length : Int)
      · have := ih k (v + 1) (by omega) (by omega) (by omega)
        unfold same.l1
        rw [decide_eq_true hv, decide_eq_true v0]
        simp only [beq_self_eq_true, Bool.and_self, Bool.not_true, cond_true, cond_false]
        rw [wrap_small (by omega) (by omega)]
        exact this
      · exact ih (k + 1) v v0 (by omega) (by omega)
  exact one z.s.l.length 1000 0 (by omega) (by simp) (by omega)
theorem mnew_go {n : Int} {r1 s : List Bool} (hn : n ≤ 512) : ∀ (d k i : Nat), (n - 8 * i).toNat ≤ d → d < k → (8 * i : Int) ≤ n + 7 → MNew.l1 1000 n r1 k ⟨s, List.replicate i 1, List.replicate i false⟩ (8 * (i : Int)) = some ⟨s, List.replicate ((n + 7) / 8).toNat 1, List.replicate ((n + 7) / 8).toNat false⟩ := by
  intro d
  induction d with
  | zero =>
    intro k i h1 h2 h3
    obtain ⟨k, rfl⟩ : ∃ q, k = q + 1 := ⟨k - 1, by omega⟩
    unfold MNew.l1
    rw [decide_eq_false (show ¬ 8 * (i : Int) < n by omega), cond_false, show ((n + 7) / 8).toNat = i by omega]
  | succ d ih =>
    intro k i h1 h2 h3
    obtain ⟨k, rfl⟩ : ∃ q, k = q + 1 := ⟨k - 1, by omega⟩
    unfold MNew.l1
    by_cases hi : 8 * (i : Int) < n
    · rw [decide_eq_true hi, cond_true]
      change (bif decide ((List.replicate i (1 : Int)).length + ([1] : List Int).length ≤ 1000000) then (bif decide ((List.replicate i false).length + ([false] : List Bool).length ≤ 1000000) then MNew.l1 1000 n r1 k ⟨s, List.replicate i 1 ++ [1], List.replicate i false ++ [false]⟩ (IntKind.i64.wrap (8 * (i : Int) + 8)) else none) else none) = _
      rw [decide_eq_true (show (List.replicate i (1 : Int)).length + ([1] : List Int).length ≤ 1000000 by simp; omega), decide_eq_true (show (List.replicate i false).length + ([false] : List Bool).length ≤ 1000000 by simp; omega), cond_true, cond_true, wrap_small (by omega) (by omega), ← List.replicate_succ', ← List.replicate_succ', show 8 * (i : Int) + 8 = 8 * ((i + 1 : Nat) : Int) by omega]
      exact ih k (i + 1) (by omega) (by omega) (by omega)
    · rw [decide_eq_false hi, cond_false, show ((n + 7) / 8).toNat = i by omega]
theorem mnew_eq {n : Int} (h0 : 1 ≤ n) (hn : n ≤ 512) : MNew.f 1000 n = some ⟨List.replicate n.toNat true, List.replicate ((n + 7) / 8).toNat 1, List.replicate ((n + 7) / 8).toNat false⟩ := by
  unfold MNew.f
  rw [rnew_eq (by omega) hn (by omega), Option.bind_some]
  exact mnew_go hn n.toNat 1000 0 (by omega) (by omega) (by omega)
theorem new_same {n : Int} (h0 : 1 ≤ n) (hn : n ≤ 512) : ∃ z m, ZNew.f 1000 n = some (z, none) ∧ MNew.f 1000 n = some m ∧ Gz n z m := by
  obtain ⟨z, hz, Z, hcov, ht, hc⟩ := znew_eq h0 hn
  refine ⟨z, _, hz, mnew_eq h0 hn, Z, ?_, hc.symm, by simp only [List.length_replicate]; omega, fun u => by rw [hcov u]; exact (fr_new (by omega)).symm⟩
  have htl := Z.tl
  refine List.ext_getElem (by rw [List.length_replicate]; omega) (fun i h1 h2 => ?_)
  rw [List.getElem_replicate]
  have := ht i (by rw [List.length_replicate] at h1; exact h1)
  rw [List.getD_eq_getElem?_getD, List.getElem?_eq_getElem h2] at this
  exact this.symm
end Go.Proofs.YtmjnenjeckeklaaDoor.V
