import Derived.Test.YtmjnenjeckeklaaDoorB0
namespace Go.Proofs.YtmjnenjeckeklaaDoor.V
open Go Go.RowKit Go.Proofs
set_option linter.unusedVariables false
set_option linter.unusedSimpArgs false
def pw (o : Int) : Int := 2 ^ o.toNat
theorem pw_cases {o : Int} (h0 : 0 ≤ o) (h5 : o ≤ 5) : (o = 0 ∧ pw o = 1) ∨ (o = 1 ∧ pw o = 2) ∨ (o = 2 ∧ pw o = 4) ∨ (o = 3 ∧ pw o = 8) ∨ (o = 4 ∧ pw o = 16) ∨ (o = 5 ∧ pw o = 32) := by
  have : o = 0 ∨ o = 1 ∨ o = 2 ∨ o = 3 ∨ o = 4 ∨ o = 5 := by omega
  rcases this with rfl | rfl | rfl | rfl | rfl | rfl <;> decide
structure Ok (n : Int) (x : Blk) : Prop where
  o0 : 0 ≤ x.o
  o5 : x.o ≤ 5
  f0 : 0 ≤ x.f
  al : x.f % pw x.o = 0
  en : x.f + pw x.o ≤ n
def In (t : Int) (x : Blk) : Prop := x.f ≤ t ∧ t < x.f + pw x.o
def Cov (L : List Blk) (t : Int) : Prop := ∃ x ∈ L, In t x
def Bud (x y : Blk) : Prop := x.o = y.o ∧ x.o < 5 ∧ y.f = x.f + pw x.o ∧ x.f % (2 * pw x.o) = 0
def Bef (x y : Blk) : Prop := x.f + pw x.o ≤ y.f
structure Inv (n : Int) (L : List Blk) : Prop where
  ok : ∀ x ∈ L, Ok n x
  srt : L.Pairwise Bef
  nb : ∀ x ∈ L, ∀ y ∈ L, ¬ Bud x y
theorem Ok.pos {n : Int} {x : Blk} (h : Ok n x) : 0 < pw x.o := by
  rcases pw_cases h.o0 h.o5 with h | h | h | h | h | h <;> omega
theorem Ok.self {n : Int} {x : Blk} (h : Ok n x) : In x.f x := ⟨Int.le_refl _, by have := h.pos; omega⟩
theorem Blk.ext' {x y : Blk} (h1 : x.f = y.f) (h2 : x.o = y.o) : x = y := by cases x; cases y; simp_all
theorem nest {n m : Int} {x y : Blk} {t : Int} (hx : Ok n x) (hy : Ok m y) (h1 : In t x) (h2 : In t y) (ho : x.o ≤ y.o) : y.f ≤ x.f ∧ x.f + pw x.o ≤ y.f + pw y.o := by
  obtain ⟨a0, a5, af, aa, _⟩ := hx
  obtain ⟨b0, b5, bf, ba, _⟩ := hy
  unfold In at h1 h2
  rcases pw_cases a0 a5 with ⟨e1, p1⟩ | ⟨e1, p1⟩ | ⟨e1, p1⟩ | ⟨e1, p1⟩ | ⟨e1, p1⟩ | ⟨e1, p1⟩ <;> rw [p1] at aa h1 ⊢ <;>
  rcases pw_cases b0 b5 with ⟨e2, p2⟩ | ⟨e2, p2⟩ | ⟨e2, p2⟩ | ⟨e2, p2⟩ | ⟨e2, p2⟩ | ⟨e2, p2⟩ <;> rw [p2] at ba h2 ⊢ <;> omega
theorem same_of {n m : Int} {x y : Blk} {t : Int} (hx : Ok n x) (hy : Ok m y) (h1 : In t x) (h2 : In t y) (ho : x.o = y.o) : x = y := by
  have a := nest hx hy h1 h2 (by omega)
  have b := nest hy hx h2 h1 (by omega)
  exact Blk.ext' (by omega) ho
theorem pairwise_all {α : Type} {R : α → α → Prop} {L : List α} (h : L.Pairwise R) : ∀ x ∈ L, ∀ y ∈ L, x = y ∨ R x y ∨ R y x := by
  induction h with
  | nil => intro x hx; cases hx
  | @cons a l h1 h2 ih =>
    intro x hx y hy
    rcases List.mem_cons.mp hx with e1 | e1 <;> rcases List.mem_cons.mp hy with e2 | e2
    · exact .inl (e1.trans e2.symm)
    · subst e1; exact .inr (.inl (h1 y e2))
    · subst e2; exact .inr (.inr (h1 x e1))
    · exact ih x e1 y e2
theorem Inv.one {n : Int} {L : List Blk} (h : Inv n L) {x y : Blk} {t : Int} (hx : x ∈ L) (hy : y ∈ L) (h1 : In t x) (h2 : In t y) : x = y := by
  rcases pairwise_all h.srt x hx y hy with e | e | e
  · exact e
  · unfold Bef at e; unfold In at h1 h2; omega
  · unfold Bef at e; unfold In at h1 h2; omega
def other (x : Blk) : Blk := if x.f % (2 * pw x.o) = 0 then ⟨x.f + pw x.o, x.o⟩ else ⟨x.f - pw x.o, x.o⟩
theorem other_o (x : Blk) : (other x).o = x.o := by unfold other; split <;> rfl
theorem other_ok {n : Int} {x y : Blk} (hx : Ok n x) (hy : Ok n y) (h : In x.f y) (ho : x.o < y.o) : Ok n (other x) ∧ In (other x).f y := by
  obtain ⟨a0, a5, af, aa, ae⟩ := hx
  obtain ⟨b0, b5, bf, ba, be⟩ := hy
  unfold In at h ⊢
  have key : 0 ≤ (other x).f ∧ (other x).f % pw x.o = 0 ∧ (other x).f + pw x.o ≤ n ∧ y.f ≤ (other x).f ∧ (other x).f < y.f + pw y.o := by
    unfold other
    rcases pw_cases a0 a5 with ⟨e1, p1⟩ | ⟨e1, p1⟩ | ⟨e1, p1⟩ | ⟨e1, p1⟩ | ⟨e1, p1⟩ | ⟨e1, p1⟩ <;> rw [p1] at aa ae ⊢ <;>
    rcases pw_cases b0 b5 with ⟨e2, p2⟩ | ⟨e2, p2⟩ | ⟨e2, p2⟩ | ⟨e2, p2⟩ | ⟨e2, p2⟩ | ⟨e2, p2⟩ <;> rw [p2] at ba h be ⊢ <;> split <;> simp only [] <;> omega
  exact ⟨⟨by rw [other_o]; exact a0, by rw [other_o]; exact a5, key.1, by rw [other_o]; exact key.2.1, by rw [other_o]; exact key.2.2.1⟩, key.2.2.2⟩
theorem other_bud {n : Int} {x : Blk} (hx : Ok n x) (h5 : x.o < 5) : Bud x (other x) ∨ Bud (other x) x := by
  obtain ⟨a0, a5, af, aa, ae⟩ := hx
  unfold other
  split
  · rename_i h; exact .inl ⟨rfl, h5, rfl, h⟩
  · rename_i h
    refine .inr ⟨rfl, h5, by simp, ?_⟩
    simp only
    rcases pw_cases a0 a5 with ⟨e1, p1⟩ | ⟨e1, p1⟩ | ⟨e1, p1⟩ | ⟨e1, p1⟩ | ⟨e1, p1⟩ | ⟨e1, p1⟩ <;> rw [p1] at aa h ⊢ <;> omega
theorem other_up {n : Int} {x w : Blk} (hx : Ok n x) (hw : Ok n w) (h : In (other x).f w) (ho : x.o < w.o) : In x.f w := by
  obtain ⟨a0, a5, af, aa, ae⟩ := hx
  obtain ⟨b0, b5, bf, ba, be⟩ := hw
  unfold In at h ⊢
  unfold other at h
  rcases pw_cases a0 a5 with ⟨e1, p1⟩ | ⟨e1, p1⟩ | ⟨e1, p1⟩ | ⟨e1, p1⟩ | ⟨e1, p1⟩ | ⟨e1, p1⟩ <;> rw [p1] at aa h <;>
  rcases pw_cases b0 b5 with ⟨e2, p2⟩ | ⟨e2, p2⟩ | ⟨e2, p2⟩ | ⟨e2, p2⟩ | ⟨e2, p2⟩ | ⟨e2, p2⟩ <;> rw [p2] at ba h ⊢ <;> split at h <;> simp only [] at h <;> omega
theorem exists_min {L : List Blk} {p : Blk → Prop} (h0 : ∀ x ∈ L, 0 ≤ x.o) : ∀ (k : Nat) {x : Blk}, x ∈ L → p x → x.o.toNat ≤ k → ∃ z ∈ L, p z ∧ z.o ≤ x.o ∧ ∀ y ∈ L, p y → z.o ≤ y.o := by
  intro k
  induction k with
  | zero => intro x hx hp hk; exact ⟨x, hx, hp, Int.le_refl _, fun y hy _ => by have := h0 y hy; have := h0 x hx; omega⟩
  | succ k ih =>
    intro x hx hp hk
    by_cases h : ∃ y ∈ L, p y ∧ y.o < x.o
    · obtain ⟨y, hy, hpy, hlt⟩ := h
      obtain ⟨z, h1, h2, h3, h4⟩ := ih hy hpy (by have := h0 y hy; omega)
      exact ⟨z, h1, h2, by omega, h4⟩
    · refine ⟨x, hx, hp, Int.le_refl _, fun y hy hpy => ?_⟩
      rcases Int.lt_or_le y.o x.o with h' | h'
      · exact absurd ⟨y, hy, hpy, h'⟩ h
      · exact h'
theorem no_less {n : Int} {L : List Blk} (h : Inv n L) {x y : Blk} (hy : Ok n y) (hc : ∀ t, In t y → Cov L t) (hx : x ∈ L) (hxy : In x.f y) (ho : x.o < y.o) : False := by
  obtain ⟨z, hz, hzy, hzo, hmin⟩ := exists_min (p := fun z => In z.f y) (fun x hx => (h.ok x hx).o0) x.o.toNat hx hxy (Nat.le_refl _)
  have okz := h.ok z hz
  have zlt : z.o < y.o := by omega
  obtain ⟨oko, ino⟩ := other_ok okz hy hzy zlt
  obtain ⟨w, hw, inw⟩ := hc _ ino
  have okw := h.ok w hw
  have hwy : w.o < y.o := by
    rcases Int.lt_or_le w.o y.o with h' | h'
    · exact h'
    · exfalso
      have nn := nest hy okw ino inw h'
      have : In z.f w := by unfold In at hzy ⊢; omega
      have e := h.one hz hw okz.self this
      rw [← e] at h'
      omega
  have nn := nest okw hy inw ino (by omega)
  have hwin : In w.f y := by unfold In; have := okw.pos; omega
  have hzw := hmin w hw hwin
  rcases Int.lt_or_eq_of_le hzw with hlt | heq
  · have := other_up okz okw inw hlt
    have e := h.one hz hw okz.self this
    rw [e] at hlt
    omega
  · have e : other z = w := same_of oko okw oko.self inw (by rw [other_o]; exact heq)
    rcases other_bud okz (by have := hy.o5; omega) with hb | hb
    · rw [e] at hb; exact h.nb z hz w hw hb
    · rw [e] at hb; exact h.nb w hw z hz hb
theorem Cov.lt {n : Int} {L : List Blk} (h : Inv n L) {t : Int} (hc : Cov L t) : 0 ≤ t ∧ t < n := by
  obtain ⟨x, hx, h1⟩ := hc
  have := h.ok x hx
  have h2 := this.f0
  have h3 := this.en
  unfold In at h1
  omega
theorem sub_of {n : Int} {L M : List Blk} (hL : Inv n L) (hM : Inv n M) (h : ∀ t, Cov L t ↔ Cov M t) {x : Blk} (hx : x ∈ L) : x ∈ M := by
  have okx := hL.ok x hx
  obtain ⟨y, hy, iny⟩ := (h x.f).mp ⟨x, hx, okx.self⟩
  have oky := hM.ok y hy
  rcases Int.lt_trichotomy x.o y.o with ho | ho | ho
  · exact (no_less hL oky (fun t ht => (h t).mpr ⟨y, hy, ht⟩) hx iny ho).elim
  · rw [same_of okx oky okx.self iny ho]; exact hy
  · have nn := nest oky okx iny okx.self (by omega)
    refine (no_less hM okx (fun t ht => (h t).mp ⟨x, hx, ht⟩) hy ?_ ho).elim
    unfold In
    have := oky.pos
    omega
theorem sorted_ext {L M : List Blk} (hL : L.Pairwise fun x y => x.f < y.f) (hM : M.Pairwise fun x y => x.f < y.f) (h : ∀ x, x ∈ L ↔ x ∈ M) : L = M := by
  induction L generalizing M with
  | nil => cases M with
    | nil => rfl
    | cons b M => exact absurd ((h b).mpr List.mem_cons_self) (by simp)
  | cons a L ih =>
    cases M with
    | nil => exact absurd ((h a).mp List.mem_cons_self) (by simp)
    | cons b M =>
      obtain ⟨a1, a2⟩ := List.pairwise_cons.mp hL
      obtain ⟨b1, b2⟩ := List.pairwise_cons.mp hM
      have hab : a = b := by
        rcases List.mem_cons.mp ((h a).mp List.mem_cons_self) with e | e
        · exact e
        · rcases List.mem_cons.mp ((h b).mpr List.mem_cons_self) with e' | e'
          · exact e'.symm
          · have := b1 a e; have := a1 b e'; omega
      subst hab
      refine congrArg (a :: ·) (ih a2 b2 (fun x => ⟨fun hx => ?_, fun hx => ?_⟩))
      · rcases List.mem_cons.mp ((h x).mp (List.mem_cons_of_mem _ hx)) with e | e
        · subst e; have := a1 x hx; omega
        · exact e
      · rcases List.mem_cons.mp ((h x).mpr (List.mem_cons_of_mem _ hx)) with e | e
        · subst e; have := b1 x hx; omega
        · exact e
theorem Inv.lt {n : Int} {L : List Blk} (h : Inv n L) : L.Pairwise fun x y => x.f < y.f := by
  have : ∀ M : List Blk, (∀ x ∈ M, Ok n x) → M.Pairwise Bef → M.Pairwise fun x y => x.f < y.f := by
    intro M hM hp
    induction hp with
    | nil => exact .nil
    | @cons a l h1 h2 ih =>
      refine .cons (fun y hy => ?_) (ih fun x hx => hM x (List.mem_cons_of_mem _ hx))
      have := h1 y hy
      have := (hM a List.mem_cons_self).pos
      unfold Bef at *
      omega
  exact this L h.ok h.srt
theorem uniq {n : Int} {L M : List Blk} (hL : Inv n L) (hM : Inv n M) (h : ∀ t, Cov L t ↔ Cov M t) : L = M :=
  sorted_ext hL.lt hM.lt (fun x => ⟨sub_of hL hM h, sub_of hM hL (fun t => (h t).symm)⟩)
end Go.Proofs.YtmjnenjeckeklaaDoor.V
