/- In a buffer that isn't broken no two entries clash, and so on: the plain law of TlbOne. -/
import Derived.Test.YtfbjhioefkimbaaTlbV
namespace Go.Proofs.Ytfbjhioefkimbaa.V
open Go Go.RowKit Go.Proofs Go.Proofs.Ytfbjhioefkimbaa.Q Go.Proofs.Ytfbjhioefkimbaa.TlbLib Go.Proofs.YtfbjhioefkimbaaW.PrintWords Go.Proofs.Ytfbjhioefkimbaa.Bits
set_option linter.unusedVariables false
set_option linter.unusedSimpArgs false
set_option maxRecDepth 100000
theorem mx_comm (a b : Int) : mx a b = mx b a := by unfold mx; split <;> split <;> omega
theorem clash_comm (x y : S30) : clashE x y = clashE y x := by
  unfold clashE
  refine decide_eq_decide.mpr ?_
  rw [mx_comm x.f1 y.f1]
  generalize mx y.f1 x.f1 = p
  constructor
  · rintro ⟨a, b, c, d, e⟩
    have h := d.1
    refine ⟨b, a, ?_, ?_, ?_⟩
    · unfold ofE at *; exact ⟨rfl, d.2.1, d.2.2⟩
    · unfold ofE at *; exact ⟨h.symm, c.2.1, c.2.2⟩
    · rcases e with e | e | e | e
      · exact .inl (Ne.symm e)
      · exact .inr (.inl (Ne.symm e))
      · exact .inr (.inr (.inl (Ne.symm e)))
      · exact .inr (.inr (.inr (Ne.symm e)))
  · rintro ⟨a, b, c, d, e⟩
    have h := d.1
    refine ⟨b, a, ?_, ?_, ?_⟩
    · unfold ofE at *; exact ⟨rfl, d.2.1, d.2.2⟩
    · unfold ofE at *; exact ⟨h.symm, c.2.1, c.2.2⟩
    · rcases e with e | e | e | e
      · exact .inl (Ne.symm e)
      · exact .inr (.inl (Ne.symm e))
      · exact .inr (.inr (.inl (Ne.symm e)))
      · exact .inr (.inr (.inr (Ne.symm e)))
theorem one_tail {L : List S30} {br : Bool} (hg : good L br) (a p : Int) (hp : p ≤ 9223372036854775807) : ((Page.f 1000 ⟨L, br⟩ a p).bind fun (r24 : Buf) => (Find.f 1000 r24 a p).bind fun (r25 : Buf × S30 × Bool) => (bif true then (bif !r25.2.2 then (Broken.f 1000 r25.1).bind fun (r28 : Buf × Bool) => some (r28.2 == br) else some false) else some false)) = some true := by
  rw [page_eq hg a p hp, Option.bind_some]
  have hg2 := filter_good hg (fun x => !decide (ofE x a p))
  have hf : (L.filter (fun x => !decide (ofE x a p))).findIdx? (fun x => decide (ofE x a p)) = none := by
    rw [List.findIdx?_eq_none_iff]
    intro x hx
    have := (List.mem_filter.mp hx).2
    simpa using this
  rw [find_eq hg2 a p hp, hf, Option.bind_some]
  simp [Broken.f]
theorem one_l3 {a0 : List S30} {a p : Int} {r2 v3 v15 B : Buf} {v5 : Int} {L : List S30} {m : Nat} (hm : m < L.length) (hl : L.length ≤ 64) (hw : ∀ x ∈ L, wfE x) (hc : L.Pairwise (fun x y => clashE x y = false)) : ∀ (n i : Nat), i ≤ m → m - i < n → TlbOne.l3 1000 a0 a p true r2 v3 false v5 (B, L) v15 m n v15 i = some (Sum.inl (v15, (m : Int))) := by
  intro n
  induction n with
  | zero => intro i h0 h1; omega
  | succ n ih =>
    intro i h0 h1
    unfold TlbOne.l3
    by_cases c : i < m
    · simp only
      rw [decide_eq_true (show (i : Int) < (m : Int) by omega), decide_eq_true (show 0 ≤ (m : Int) by omega), decide_eq_true (show (m : Int) < (L.length : Int) by omega), decide_eq_true (show 0 ≤ (i : Int) by omega), decide_eq_true (show (i : Int) < (L.length : Int) by omega)]
      simp only [cond_true, Bool.and_self, Int.toNat_natCast]
      rw [getD_at hm, getD_at (show i < L.length by omega), Clash_eq 998 _ _ (hw _ (List.getElem_mem _)) (hw _ (List.getElem_mem _)), Option.bind_some]
      have hcl : clashE L[m] L[i] = false := by
        rw [clash_comm]
        exact List.pairwise_iff_getElem.mp hc i m (by omega) hm c
      rw [hcl, wrap_small (x := (i : Int) + 1) (by omega) (by omega)]
      exact ih (i + 1) (by omega) (by omega)
    · have : i = m := by omega
      subst this
      simp only
      rw [decide_eq_false (show ¬ (i : Int) < (i : Int) by omega)]
      rfl
theorem one_l2 {a0 : List S30} {a p : Int} {r2 v3 : Buf} {v5 : Int} {L : List S30} {br : Bool} (hg : good L br) (hp : p ≤ 9223372036854775807) : ∀ (n i : Nat), i ≤ L.length → L.length - i < n → TlbOne.l2 1000 a0 a p true r2 v3 br v5 (⟨L, br⟩, L) n ⟨L, br⟩ i = some true := by
  intro n
  induction n with
  | zero => intro i h0 h1; omega
  | succ n ih =>
    intro i h0 h1
    have h64 := hg.1
    unfold TlbOne.l2
    simp only
    by_cases c : i < L.length
    · rw [decide_eq_true (show (i : Int) < (L.length : Int) by omega)]
      cases br with
      | true => exact one_tail hg a p hp
      | false =>
        simp only [cond_true, Bool.not_false]
        rw [show TlbOne.l3 1000 a0 a p true r2 v3 false v5 (⟨L, false⟩, L) ⟨L, false⟩ i 1000 ⟨L, false⟩ 0 = some (Sum.inl (⟨L, false⟩, (i : Int))) from one_l3 c h64 (fun x hx => (hg.2.1 x hx).2) (hg.2.2 rfl) 1000 0 (by omega) (by omega), Option.bind_some]
        simp only [Sum.elim_inl]
        rw [wrap_small (x := (i : Int) + 1) (by omega) (by omega)]
        exact ih (i + 1) (by omega) (by omega)
    · rw [decide_eq_false (show ¬ (i : Int) < (L.length : Int) by omega)]
      exact one_tail hg a p hp
theorem one_l5 {a0 : List S30} {a p : Int} {r2 v3 v15 B : Buf} {v5 : Int} {L : List S30} {m : Nat} (hm : m < L.length) (hl : L.length ≤ 64) (hw : ∀ x ∈ L, wfE x) (hc : L.Pairwise (fun x y => clashE x y = false)) : ∀ (n i : Nat), i ≤ m → m - i < n → TlbOne.l5 1000 a0 a p true r2 v3 false v5 (B, L) v15 m n v15 i = some (Sum.inl (v15, (m : Int))) := by
  intro n
  induction n with
  | zero => intro i h0 h1; omega
  | succ n ih =>
    intro i h0 h1
    unfold TlbOne.l5
    by_cases c : i < m
    · simp only
      rw [decide_eq_true (show (i : Int) < (m : Int) by omega), decide_eq_true (show 0 ≤ (m : Int) by omega), decide_eq_true (show (m : Int) < (L.length : Int) by omega), decide_eq_true (show 0 ≤ (i : Int) by omega), decide_eq_true (show (i : Int) < (L.length : Int) by omega)]
      simp only [cond_true, Bool.and_self, Int.toNat_natCast]
      rw [getD_at hm, getD_at (show i < L.length by omega), Clash_eq 998 _ _ (hw _ (List.getElem_mem _)) (hw _ (List.getElem_mem _)), Option.bind_some]
      have hcl : clashE L[m] L[i] = false := by
        rw [clash_comm]
        exact List.pairwise_iff_getElem.mp hc i m (by omega) hm c
      rw [hcl, wrap_small (x := (i : Int) + 1) (by omega) (by omega)]
      exact ih (i + 1) (by omega) (by omega)
    · have : i = m := by omega
      subst this
      simp only
      rw [decide_eq_false (show ¬ (i : Int) < (i : Int) by omega)]
      rfl
theorem one_l4 {a0 : List S30} {a p : Int} {r2 v3 : Buf} {v5 : Int} {L : List S30} {br : Bool} (hg : good L br) (hp : p ≤ 9223372036854775807) : ∀ (n i : Nat), i ≤ L.length → L.length - i < n → TlbOne.l4 1000 a0 a p true r2 v3 br v5 (⟨L, br⟩, L) n ⟨L, br⟩ i = some true := by
  intro n
  induction n with
  | zero => intro i h0 h1; omega
  | succ n ih =>
    intro i h0 h1
    have h64 := hg.1
    unfold TlbOne.l4
    simp only
    by_cases c : i < L.length
    · rw [decide_eq_true (show (i : Int) < (L.length : Int) by omega)]
      cases br with
      | true => exact one_tail hg a p hp
      | false =>
        simp only [cond_true, Bool.not_false]
        rw [show TlbOne.l5 1000 a0 a p true r2 v3 false v5 (⟨L, false⟩, L) ⟨L, false⟩ i 1000 ⟨L, false⟩ 0 = some (Sum.inl (⟨L, false⟩, (i : Int))) from one_l5 c h64 (fun x hx => (hg.2.1 x hx).2) (hg.2.2 rfl) 1000 0 (by omega) (by omega), Option.bind_some]
        simp only [Sum.elim_inl]
        rw [wrap_small (x := (i : Int) + 1) (by omega) (by omega)]
        exact ih (i + 1) (by omega) (by omega)
    · rw [decide_eq_false (show ¬ (i : Int) < (L.length : Int) by omega)]
      exact one_tail hg a p hp
theorem one_l1 {a0 : List S30} {a p : Int} {r2 : Buf} (hw : ∀ x ∈ a0, wfE x) (hp : p ≤ 9223372036854775807) : ∀ (n i : Nat) (L : List S30) (br : Bool), i ≤ 80 → 80 - i < n → good L br → TlbOne.l1 1000 a0 a p true r2 n ⟨L, br⟩ br i = some true := by
  intro n
  induction n with
  | zero => intro i L br h0 h1; omega
  | succ n ih =>
    intro i L br h0 h1 hg
    have h64 := hg.1
    unfold TlbOne.l1
    by_cases c : i < a0.length
    · rw [decide_eq_true (show (i : Int) < (a0.length : Int) by omega)]
      by_cases c2 : i < 80
      · rw [decide_eq_true (show (i : Int) < 80 by omega), decide_eq_true (show 0 ≤ (i : Int) by omega)]
        simp only [cond_true, Bool.and_self, Int.toNat_natCast]
        have he := hw _ (List.getElem_mem c)
        rw [getD_at c, fill_eq h64 he (fun x hx => (hg.2.1 x hx).2), Option.bind_some, wrap_small (x := (i : Int) + 1) (by omega) (by omega)]
        have hn := ih (i + 1) _ _ (by omega) (by omega) (fill_good hg he)
        cases br with
        | true =>
          simp only [cond_true, Broken.f, Option.bind_some]
          rw [fill_broken] at hn ⊢
          exact hn
        | false =>
          simp only [cond_false, Broken.f, Option.bind_some]
          exact hn
      · rw [decide_eq_false (show ¬ (i : Int) < 80 by omega)]
        simp only [cond_true, cond_false]
        rw [entries_eq hg, Option.bind_some]
        exact one_l2 hg hp 1000 0 (by omega) (by omega)
    · rw [decide_eq_false (show ¬ (i : Int) < (a0.length : Int) by omega)]
      simp only [cond_false]
      rw [entries_eq hg, Option.bind_some]
      exact one_l4 hg hp 1000 0 (by omega) (by omega)
theorem one (a0 : List S30) (a p : Int) (hw : ∀ x ∈ a0, wfE x) (hp : p ≤ 9223372036854775807) : TlbOne.f 1000 a0 a p = some true := by
  unfold TlbOne.f
  rw [up_true, Option.bind_some]
  simp only [New.f, Option.bind_some]
  exact one_l1 hw hp 1000 0 [] false (by omega) (by omega) good_nil
end Go.Proofs.Ytfbjhioefkimbaa.V
