/- What a buffer told stays: the plain law of TlbStays. -/
import Derived.Test.YtfbjhioefkimbaaTlbV
namespace Go.Proofs.Ytfbjhioefkimbaa.V
open Go Go.RowKit Go.Proofs Go.Proofs.Ytfbjhioefkimbaa.Q Go.Proofs.Ytfbjhioefkimbaa.TlbLib Go.Proofs.YtfbjhioefkimbaaW.PrintWords Go.Proofs.Ytfbjhioefkimbaa.Bits
set_option linter.unusedVariables false
set_option linter.unusedSimpArgs false
set_option maxRecDepth 100000
theorem stays_l3 {a0 : List S30} {r2 v3 v9 r14 B : Buf} {v4 v11 : Int} {r8 : Buf × List S30} {v10 L : List S30} (hs : ∀ x ∈ L, okE x) (hl : L.length ≤ 64) : ∀ (n i : Nat), i ≤ L.length → L.length - i < n → TlbStays.l3 1000 a0 true r2 v3 v4 r8 v9 v10 v11 (B, L) r14 n i = some true := by
  intro n
  induction n with
  | zero => intro i h0 h1; omega
  | succ n ih =>
    intro i h0 h1
    unfold TlbStays.l3
    by_cases c : i < L.length
    · simp only
      rw [decide_eq_true (show (i : Int) < (L.length : Int) by omega), decide_eq_true (show 0 ≤ (i : Int) by omega)]
      simp only [cond_true, Bool.and_self, Int.toNat_natCast]
      rw [getD_at c, refMay 999 _ (hs _ (List.getElem_mem c)), Option.bind_some, wrap_small (x := (i : Int) + 1) (by omega) (by omega)]
      exact ih (i + 1) (by omega) (by omega)
    · simp only
      rw [decide_eq_false (show ¬ (i : Int) < (L.length : Int) by omega)]
      rfl
theorem stays_l2 {a0 : List S30} {r2 v3 : Buf} {v4 : Int} {L : List S30} {br : Bool} (hg : good L br) : ∀ (n i : Nat) (l : List S30), i ≤ L.length → L.length - i < n → l.length = L.length → TlbStays.l2 1000 a0 true r2 v3 v4 (⟨L, br⟩, L) n ⟨L, br⟩ l i = some true := by
  intro n
  induction n with
  | zero => intro i l h0 h1; omega
  | succ n ih =>
    intro i l h0 h1 hl
    have h64 := hg.1
    unfold TlbStays.l2
    by_cases c : i < l.length
    · rw [decide_eq_true (show (i : Int) < (l.length : Int) by omega), decide_eq_true (show 0 ≤ (i : Int) by omega)]
      simp only [cond_true, Bool.and_self, Int.toNat_natCast]
      rw [wrap_small (x := (i : Int) + 1) (by omega) (by omega)]
      exact ih (i + 1) _ (by omega) (by omega) (by simpa using hl)
    · rw [decide_eq_false (show ¬ (i : Int) < (l.length : Int) by omega)]
      simp only [cond_false]
      rw [entries_eq hg, Option.bind_some]
      simp only
      rw [space_eq hg, Option.bind_some]
      simp only [bne_self_eq_false, cond_false]
      exact stays_l3 (fun x hx => (hg.2.1 x hx).1) h64 1000 0 (by omega) (by omega)
theorem stays_l5 {a0 : List S30} {r2 v3 v9 r14 B : Buf} {v4 v11 : Int} {r8 : Buf × List S30} {v10 L : List S30} (hs : ∀ x ∈ L, okE x) (hl : L.length ≤ 64) : ∀ (n i : Nat), i ≤ L.length → L.length - i < n → TlbStays.l5 1000 a0 true r2 v3 v4 r8 v9 v10 v11 (B, L) r14 n i = some true := by
  intro n
  induction n with
  | zero => intro i h0 h1; omega
  | succ n ih =>
    intro i h0 h1
    unfold TlbStays.l5
    by_cases c : i < L.length
    · simp only
      rw [decide_eq_true (show (i : Int) < (L.length : Int) by omega), decide_eq_true (show 0 ≤ (i : Int) by omega)]
      simp only [cond_true, Bool.and_self, Int.toNat_natCast]
      rw [getD_at c, refMay 999 _ (hs _ (List.getElem_mem c)), Option.bind_some, wrap_small (x := (i : Int) + 1) (by omega) (by omega)]
      exact ih (i + 1) (by omega) (by omega)
    · simp only
      rw [decide_eq_false (show ¬ (i : Int) < (L.length : Int) by omega)]
      rfl
theorem stays_l4 {a0 : List S30} {r2 v3 : Buf} {v4 : Int} {L : List S30} {br : Bool} (hg : good L br) : ∀ (n i : Nat) (l : List S30), i ≤ L.length → L.length - i < n → l.length = L.length → TlbStays.l4 1000 a0 true r2 v3 v4 (⟨L, br⟩, L) n ⟨L, br⟩ l i = some true := by
  intro n
  induction n with
  | zero => intro i l h0 h1; omega
  | succ n ih =>
    intro i l h0 h1 hl
    have h64 := hg.1
    unfold TlbStays.l4
    by_cases c : i < l.length
    · rw [decide_eq_true (show (i : Int) < (l.length : Int) by omega), decide_eq_true (show 0 ≤ (i : Int) by omega)]
      simp only [cond_true, Bool.and_self, Int.toNat_natCast]
      rw [wrap_small (x := (i : Int) + 1) (by omega) (by omega)]
      exact ih (i + 1) _ (by omega) (by omega) (by simpa using hl)
    · rw [decide_eq_false (show ¬ (i : Int) < (l.length : Int) by omega)]
      simp only [cond_false]
      rw [entries_eq hg, Option.bind_some]
      simp only
      rw [space_eq hg, Option.bind_some]
      simp only [bne_self_eq_false, cond_false]
      exact stays_l5 (fun x hx => (hg.2.1 x hx).1) h64 1000 0 (by omega) (by omega)
theorem stays_l1 {a0 : List S30} {r2 : Buf} (hw : ∀ x ∈ a0, wfE x) : ∀ (n i : Nat) (L : List S30) (br : Bool), i ≤ 80 → 80 - i < n → good L br → TlbStays.l1 1000 a0 true r2 n ⟨L, br⟩ i = some true := by
  intro n
  induction n with
  | zero => intro i L br h0 h1; omega
  | succ n ih =>
    intro i L br h0 h1 hg
    have h64 := hg.1
    unfold TlbStays.l1
    by_cases c : i < a0.length
    · rw [decide_eq_true (show (i : Int) < (a0.length : Int) by omega)]
      by_cases c2 : i < 80
      · rw [decide_eq_true (show (i : Int) < 80 by omega), decide_eq_true (show 0 ≤ (i : Int) by omega)]
        simp only [cond_true, Bool.and_self, Int.toNat_natCast]
        have he := hw _ (List.getElem_mem c)
        rw [getD_at c, fill_eq h64 he (fun x hx => (hg.2.1 x hx).2), Option.bind_some, wrap_small (x := (i : Int) + 1) (by omega) (by omega)]
        exact ih (i + 1) _ _ (by omega) (by omega) (fill_good hg he)
      · rw [decide_eq_false (show ¬ (i : Int) < 80 by omega)]
        simp only [cond_true, cond_false]
        rw [entries_eq hg, Option.bind_some]
        exact stays_l2 hg 1000 0 L (by omega) (by omega) rfl
    · rw [decide_eq_false (show ¬ (i : Int) < (a0.length : Int) by omega)]
      simp only [cond_false]
      rw [entries_eq hg, Option.bind_some]
      exact stays_l4 hg 1000 0 L (by omega) (by omega) rfl
theorem stays (a0 : List S30) (hw : ∀ x ∈ a0, wfE x) : TlbStays.f 1000 a0 = some true := by
  unfold TlbStays.f
  rw [up_true, Option.bind_some]
  simp only [New.f, Option.bind_some]
  exact stays_l1 hw 1000 0 [] false (by omega) (by omega) good_nil
end Go.Proofs.Ytfbjhioefkimbaa.V
