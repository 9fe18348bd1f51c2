/- Layer 1: what Cut tells: the runs, one behind the other. -/
import Derived.Test.YtobbcfpkmmafnaaDoorWordLib
namespace Go.Proofs.YtobbcfpkmmafnaaDoor.WordLib
open Go.RowKit Go.Proofs.YtobbcfpkmmafnaaDoorW.PrintWords Go.Proofs.YtobbcfpkmmafnaaDoorW.PrintLast Go.Proofs.YtobbcfpkmmafnaaDoorW.PrintMore Go.Proofs.YtobbcfpkmmafnaaDoor.Bits Go.Proofs.YtobbcfpkmmafnaaDoor.Q
set_option linter.unusedVariables false
set_option linter.unusedSimpArgs false

/-- the runs of the numbers from a to b -/
inductive IsCut : Nat → Nat → List S39 → Prop where
  | nil {a b : Nat} : b ≤ a → IsCut a b []
  | cons {a b o : Nat} {l : List S39} : a < b → IsOrd a b o → IsCut (a + 2 ^ o) b l → IsCut a b (⟨(a : Int), (o : Int)⟩ :: l)
theorem isCut_ex (b : Nat) : ∀ (d a : Nat), b - a ≤ d → ∃ l, IsCut a b l ∧ l.length ≤ d := by
  intro d
  induction d with
  | zero => intro a h; exact ⟨[], .nil (by omega), by simp⟩
  | succ d ih =>
    intro a h
    by_cases hab : a < b
    · obtain ⟨o, ho⟩ := isOrd_ex a b hab
      have hp := Nat.two_pow_pos o
      obtain ⟨l, hl, hlen⟩ := ih (a + 2 ^ o) (by omega)
      exact ⟨_, .cons hab ho hl, by simp; omega⟩
    · exact ⟨[], .nil (by omega), by simp⟩

theorem pow20 {o : Nat} (h : o ≤ 20) : 2 ^ o ≤ 1048576 := Nat.pow_le_pow_right (by decide) h
theorem shl_pow (o : Nat) (ho : o ≤ 62) : shl .i64 1 (o : Int) = ((2 ^ o : Nat) : Int) := by
  unfold shl
  have hm : min ((o : Int)).toNat IntKind.i64.bits = o := by
    have : IntKind.i64.bits = 64 := rfl
    rw [this]; omega
  rw [hm, Int.one_mul, show (2 : Int) ^ o = ((2 ^ o : Nat) : Int) by rw [Int.natCast_pow]; rfl, IntKind.wrap_i64]
  have h1 : 2 ^ o ≤ 2 ^ 62 := Nat.pow_le_pow_right (by decide) ho
  have h2 : (2 : Nat) ^ 62 = 4611686018427387904 := by decide
  rw [h2] at h1
  generalize 2 ^ o = z at h1 ⊢
  omega

theorem cut_loop (b : Nat) (hb : b ≤ 1048576) : ∀ (d a : Nat) (l out : List S39), b - a ≤ d → IsCut a b l → out.length + d ≤ 4000000 →
    Ev (fun k => word_Cut.l0 k (a : Int) (b : Int) out) (out ++ l, none) := by
  intro d
  induction d with
  | zero =>
    intro a l out hd hc ho
    cases hc with
    | nil h =>
      refine ev_succ ?_
      simp only [word_Cut.l0]
      rw [List.append_nil]
      exact ev_now (fun k => by rw [if_neg (by omega)])
    | cons h _ _ => omega
  | succ d ih =>
    intro a l out hd hc ho
    cases hc with
    | nil h =>
      refine ev_succ ?_
      simp only [word_Cut.l0]
      rw [List.append_nil]
      exact ev_now (fun k => by rw [if_neg (by omega)])
    | @cons _ _ o l' hab hor hrest =>
      obtain ⟨t, ln, ht, hln, o', ho', hor'⟩ := ord_of a b hab hb
      have e := isOrd_unique hor hor'
      subst e
      have hp := Nat.two_pow_pos o
      have hp20 := pow20 hor.1
      have h3 := hor.2.2.1
      have h1 := ih (a + 2 ^ o) l' (out ++ [⟨(a : Int), (o : Int)⟩]) (by omega) hrest (by simp; omega)
      rw [List.append_assoc, List.singleton_append] at h1
      refine ev_succ (Ev.congr (fun k => ?_) h1)
      simp only [word_Cut.l0]
      have hs := shl_pow o (by have := hor.1; omega)
      rw [if_pos (by omega), ht, hln]
      simp only [Option.bind_some]
      rw [if_pos (by omega), ho', if_pos (by omega), hs, wrap64_of (by omega) (by omega), Int.natCast_add]

theorem cut_ok (a b : Nat) (hab : a ≤ b) (hb : b ≤ 1048576) (l : List S39) (hl : IsCut a b l) : Ev (fun k => word_Cut.f k (a : Int) (b : Int)) (l, none) := by
  have h := cut_loop b hb (b - a) a l [] (Nat.le_refl _) hl (by simp; omega)
  unfold word_Cut.f
  simp only [if_neg (show ¬ (a : Int) < 0 by omega), if_neg (show ¬ (b : Int) < (a : Int) by omega)]
  refine ev_succ (Ev.congr (fun k => ?_) h)
  simp only [word_Cut.j0]
  rw [if_neg (by simp; omega)]
theorem cut_no (a b : Int) (h : a < 0 ∨ b < a ∨ 1048576 < b) : Ev (fun k => word_Cut.f k a b) ([], some 1) := by
  refine ev_succ (ev_now (fun k => ?_))
  unfold word_Cut.f
  by_cases h1 : a < 0
  · rw [if_pos h1]; simp [word_Cut.j0]
  rw [if_neg h1]
  by_cases h2 : b < a
  · rw [if_pos h2]; simp [word_Cut.j0]
  rw [if_neg h2, show decide (b > 1048576) = true by simp; omega]
  simp [word_Cut.j0]

theorem isCut_unique {a b : Nat} {l : List S39} (h : IsCut a b l) : ∀ m, IsCut a b m → l = m := by
  induction h with
  | nil h =>
    intro m hm
    cases hm with
    | nil _ => rfl
    | cons h2 _ _ => omega
  | cons h1 h2 h3 ih =>
    intro m hm
    cases hm with
    | nil h => omega
    | cons h4 h5 h6 =>
      have e := isOrd_unique h2 h5
      subst e
      rw [ih _ h6]

end Go.Proofs.YtobbcfpkmmafnaaDoor.WordLib
