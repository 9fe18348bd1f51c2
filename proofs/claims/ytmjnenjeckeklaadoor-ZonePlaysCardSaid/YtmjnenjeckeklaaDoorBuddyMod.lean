import Derived.Test.YtmjnenjeckeklaaDoorB2
import Derived.Test.YtmjnenjeckeklaaDoorBuddyPow
namespace Go.Proofs.YtmjnenjeckeklaaDoor.V
open Go Go.RowKit Go.Proofs Go.Proofs.YtmjnenjeckeklaaDoor.Q Go.Proofs.YtmjnenjeckeklaaDoorW.PrintWords
set_option linter.unusedVariables false
set_option linter.unusedSimpArgs false
set_option maxRecDepth 100000
def fr (m : List Bool) (u : Int) : Prop := 0 ≤ u ∧ m.getD u.toNat false = true
def Sees (m : List Bool) (L : List Blk) : Prop := ∀ t, Cov L t ↔ fr m t
theorem fr_lt {m : List Bool} {u : Int} (h : fr m u) : u < m.length := by
  rcases Int.lt_or_le u m.length with h' | h'
  · exact h'
  · have := h.2
    have e : m.getD u.toNat false = false := by rw [List.getD_eq_getElem?_getD, List.getElem?_eq_none (by omega)]; rfl
    rw [e] at this
    cases this
theorem power_at {k : Nat} {o : Int} (hk : k = 1000) (h0 : 0 ≤ o) (h5 : o ≤ 5) : paviorref01_Power.f k o = some (pw o) := by subst hk; exact power_eq h0 h5
theorem new_go {n : Int} {k : Nat} (hn : n ≤ 512) : ∀ (d m : Nat) (v : Int), 0 ≤ v → v ≤ n → (n - v).toNat ≤ d → d < m → RNew.l1 k n m (List.replicate v.toNat true) v = some (List.replicate n.toNat true) := by
  intro d
  induction d with
  | zero =>
    intro m v h0 h1 h2 h3
    obtain ⟨m, rfl⟩ : ∃ q, m = q + 1 := ⟨m - 1, by omega⟩
    unfold RNew.l1
    rw [decide_eq_false (show ¬ v < n by omega), cond_false, show v = n by omega]
  | succ d ih =>
    intro m v h0 h1 h2 h3
    obtain ⟨m, rfl⟩ : ∃ q, m = q + 1 := ⟨m - 1, by omega⟩
    unfold RNew.l1
    by_cases hv : v < n
    · rw [decide_eq_true hv, cond_true, decide_eq_true (show (List.replicate v.toNat true).length + ([true] : List Bool).length ≤ 1000000 by simp; omega), cond_true, wrap_small (by omega) (by omega)]
      have e : List.replicate v.toNat true ++ [true] = List.replicate (v + 1).toNat true := by
        rw [show (v + 1).toNat = v.toNat + 1 by omega, List.replicate_succ']
      rw [e]
      exact ih m (v + 1) (by omega) (by omega) (by omega) (by omega)
    · rw [decide_eq_false hv, cond_false, show v = n by omega]
theorem rnew_eq {n : Int} {k : Nat} (h0 : 0 ≤ n) (hn : n ≤ 512) (hk : 1000 ≤ k) : RNew.f k n = some (List.replicate n.toNat true) := by
  unfold RNew.f
  exact new_go hn n.toNat k 0 (by omega) h0 (by omega) (by omega)
theorem fr_new {n u : Int} (h0 : 0 ≤ n) : fr (List.replicate n.toNat true) u ↔ 0 ≤ u ∧ u < n := by
  constructor
  · intro h
    have := fr_lt h
    rw [List.length_replicate] at this
    exact ⟨h.1, by omega⟩
  · rintro ⟨h1, h2⟩
    refine ⟨h1, ?_⟩
    rw [List.getD_eq_getElem?_getD, List.getElem?_replicate, if_pos (by omega)]
    rfl
theorem rblock_eq {m : List Bool} {f o : Int} (hm : m.length ≤ 512) : (Ok m.length ⟨f, o⟩ ∧ RBlock.f 1000 m f o = some true) ∨ (¬ Ok m.length ⟨f, o⟩ ∧ RBlock.f 1000 m f o = some false) := by
  unfold RBlock.f
  by_cases h1 : o ≥ 0
  · by_cases h2 : o ≤ 5
    · by_cases h3 : f ≥ 0
      · by_cases h4 : f < (m.length : Int)
        · rw [decide_eq_true h1, decide_eq_true h2, decide_eq_true h3, decide_eq_true h4]
          simp only [cond_true]
          have hp := pw_le h1 h2
          rw [power_eq h1 h2, Option.bind_some, decide_eq_true (show pw o ≠ 0 by omega), cond_true, Int.tmod_eq_emod_of_nonneg h3, Option.bind_some, wrap_small (by omega) (by omega)]
          by_cases h5 : f % pw o = 0
          · rw [h5]
            simp only [beq_self_eq_true, cond_true]
            by_cases h6 : f + pw o ≤ (m.length : Int)
            · exact .inl ⟨⟨h1, h2, h3, h5, h6⟩, by rw [decide_eq_true h6]⟩
            · exact .inr ⟨fun h => h6 h.en, by rw [decide_eq_false h6]⟩
          · rw [beq_eq_false_iff_ne.mpr h5]
            exact .inr ⟨fun h => h5 h.al, rfl⟩
        · rw [decide_eq_true h1, decide_eq_true h2, decide_eq_true h3, decide_eq_false h4]
          refine .inr ⟨fun h => ?_, rfl⟩
          have := h.en
          have := h.pos
          simp only at *
          omega
      · rw [decide_eq_true h1, decide_eq_true h2, decide_eq_false h3]
        exact .inr ⟨fun h => h3 h.f0, rfl⟩
    · rw [decide_eq_true h1, decide_eq_false h2]
      exact .inr ⟨fun h => h2 h.o5, rfl⟩
  · rw [decide_eq_false h1]
    exact .inr ⟨fun h => h1 h.o0, rfl⟩
theorem rall_go {m : List Bool} {f o : Int} {b : Bool} (hm : m.length ≤ 512) (h : Ok m.length ⟨f, o⟩) : ∀ (d n : Nat) (v : Int), 0 ≤ v → v ≤ pw o → (pw o - v).toNat ≤ d → d < n →
    ((∀ u, f + v ≤ u → u < f + pw o → m.getD u.toNat false = b) ∧ RAll.l1 1000 m f o b n v = some true) ∨ ((∃ u, f + v ≤ u ∧ u < f + pw o ∧ ¬ m.getD u.toNat false = b) ∧ RAll.l1 1000 m f o b n v = some false) := by
  have h0 := h.f0
  have h1 := h.en
  have hp := pw_le h.o0 h.o5
  have hP := power_eq h.o0 h.o5
  simp only at h0 h1 hp hP
  intro d
  induction d with
  | zero =>
    intro n v v0 v1 v2 v3
    obtain ⟨n, rfl⟩ : ∃ q, n = q + 1 := ⟨n - 1, by omega⟩
    unfold RAll.l1
    rw [hP, Option.bind_some, decide_eq_false (show ¬ v < pw o by omega), cond_false]
    exact .inl ⟨fun u _ _ => by omega, rfl⟩
  | succ d ih =>
    intro n v v0 v1 v2 v3
    by_cases hv : v < pw o
    · obtain ⟨n, rfl⟩ : ∃ q, n = q + 1 := ⟨n - 1, by omega⟩
      unfold RAll.l1
      rw [hP, Option.bind_some, decide_eq_true hv, cond_true, wrap_small (x := f + v) (by omega) (by omega), decide_eq_true (show 0 ≤ f + v by omega), decide_eq_true (show f + v < (m.length : Int) by omega)]
      simp only [Bool.and_self, cond_true]
      by_cases hb : m.getD (f + v).toNat false = b
      · rw [hb]
        simp only [beq_self_eq_true, Bool.not_true, cond_false]
        rw [wrap_small (by omega) (by omega)]
        rcases ih n (v + 1) (by omega) (by omega) (by omega) (by omega) with ⟨e1, e2⟩ | ⟨⟨u, e1, e2, e3⟩, e4⟩
        · refine .inl ⟨fun u u0 u1 => ?_, e2⟩
          rcases Int.lt_or_eq_of_le u0 with h' | h'
          · exact e1 u (by omega) u1
          · rw [← h']; exact hb
        · exact .inr ⟨⟨u, by omega, e2, e3⟩, e4⟩
      · rw [beq_eq_false_iff_ne.mpr hb]
        exact .inr ⟨⟨f + v, by omega, by omega, hb⟩, rfl⟩
    · exact ih n v v0 v1 (by omega) (by omega)
theorem rall_eq {m : List Bool} {f o : Int} {b : Bool} (hm : m.length ≤ 512) (h : Ok m.length ⟨f, o⟩) :
    ((∀ u, In u ⟨f, o⟩ → m.getD u.toNat false = b) ∧ RAll.f 1000 m f o b = some true) ∨ ((∃ u, In u ⟨f, o⟩ ∧ ¬ m.getD u.toNat false = b) ∧ RAll.f 1000 m f o b = some false) := by
  have hp := pw_le h.o0 h.o5
  simp only at hp
  unfold RAll.f
  rcases rall_go (b := b) hm h 32 1000 0 (by omega) (by omega) (by omega) (by omega) with ⟨e1, e2⟩ | ⟨⟨u, e1, e2, e3⟩, e4⟩
  · exact .inl ⟨fun u hu => e1 u (by have := hu.1; simp only at this; omega) hu.2, e2⟩
  · exact .inr ⟨⟨u, ⟨by simp only; omega, e2⟩, e3⟩, e4⟩
def Mx (m : List Bool) (x : Blk) : Prop := x.o < 5 → ¬ (Ok m.length ⟨x.f, x.o + 1⟩ ∧ ∀ u, In u ⟨x.f, x.o + 1⟩ → fr m u)
theorem pw_succ {o : Int} (h : 0 ≤ o) (h5 : o < 5) : pw (o + 1) = 2 * pw o := by
  rcases pw_cases h (by omega : o ≤ 5) with ⟨rfl, e⟩ | ⟨rfl, e⟩ | ⟨rfl, e⟩ | ⟨rfl, e⟩ | ⟨rfl, e⟩ | ⟨rfl, e⟩
  all_goals first | (exfalso; omega) | (rw [e]; rfl)
theorem free_up {m : List Bool} {p : Int} {v1 : List Blk} (hm : m.length ≤ 512) (hp : 0 ≤ p) : ∀ (d n : Nat) (v4 : List Blk) (q : Int), (5 - q).toNat ≤ d → d < n → Ok m.length ⟨p, q⟩ → (∀ u, In u ⟨p, q⟩ → fr m u) →
    ∃ q', RFree.l2 1000 m v1 p n v4 q = some (v4, q') ∧ Ok m.length ⟨p, q'⟩ ∧ (∀ u, In u ⟨p, q'⟩ → fr m u) ∧ Mx m ⟨p, q'⟩ := by
  intro d
  induction d with
  | zero =>
    intro n v4 q h1 h2 ok al
    obtain ⟨n, rfl⟩ : ∃ r, n = r + 1 := ⟨n - 1, by omega⟩
    have := ok.o5
    simp only at this
    refine ⟨q, ?_, ok, al, fun h => by simp only at h; omega⟩
    unfold RFree.l2
    rw [decide_eq_false (show ¬ q < 5 by omega), cond_false]
  | succ d ih =>
    intro n v4 q h1 h2 ok al
    obtain ⟨n, rfl⟩ : ∃ r, n = r + 1 := ⟨n - 1, by omega⟩
    have o0 := ok.o0
    have o5 := ok.o5
    simp only at o0 o5
    unfold RFree.l2
    by_cases hq : q < 5
    · rw [decide_eq_true hq, cond_true, wrap_small (by omega) (by omega)]
      rcases rblock_eq (f := p) (o := q + 1) hm with ⟨ok2, e⟩ | ⟨nok, e⟩
      · rw [e, Option.bind_some, cond_true]
        rcases rall_eq (b := true) hm ok2 with ⟨al2, e2⟩ | ⟨⟨u, hu, hno⟩, e2⟩
        · rw [e2, Option.bind_some, cond_true]
          exact ih n v4 (q + 1) (by omega) (by omega) ok2 (fun u hu => ⟨by have := hu.1; simp only at this; omega, al2 u hu⟩)
        · rw [e2, Option.bind_some, cond_false]
          exact ⟨q, rfl, ok, al, fun _ h => hno (h.2 u hu).2⟩
      · rw [e, Option.bind_some, cond_false]
        exact ⟨q, rfl, ok, al, fun _ h => nok h.1⟩
    · rw [decide_eq_false hq, cond_false]
      exact ⟨q, rfl, ok, al, fun h => (hq h).elim⟩
structure FreeI (m : List Bool) (l : List Blk) (p : Int) : Prop where
  ok : ∀ x ∈ l, Ok m.length x
  srt : l.Pairwise Bef
  beh : ∀ x ∈ l, x.f + pw x.o ≤ p
  cov : ∀ u, Cov l u ↔ u < p ∧ fr m u
  mx : ∀ x ∈ l, Mx m x
  len : (l.length : Int) ≤ p
theorem FreeI.inv {m : List Bool} {l : List Blk} {p : Int} (h : FreeI m l p) : Inv m.length l := by
  refine ⟨h.ok, h.srt, fun x hx y hy hb => ?_⟩
  obtain ⟨b1, b2, b3, b4⟩ := hb
  have okx := h.ok x hx
  have oky := h.ok y hy
  have e := pw_succ okx.o0 b2
  refine h.mx x hx b2 ⟨⟨by have := okx.o0; simp only; omega, by simp only; omega, okx.f0, by simp only; rw [e]; exact b4, ?_⟩, fun u hu => ?_⟩
  · have := oky.en
    rw [← b1] at this
    simp only
    rw [e]
    omega
  · obtain ⟨u0, u1⟩ := hu
    simp only at u0 u1
    rw [e] at u1
    by_cases hlt : u < x.f + pw x.o
    · exact ((h.cov u).mp ⟨x, hx, u0, hlt⟩).2
    · exact ((h.cov u).mp ⟨y, hy, by omega, by rw [← b1]; omega⟩).2
theorem free_go {m : List Bool} (hm : m.length ≤ 512) : ∀ (d n : Nat) (l : List Blk) (p : Int), (m.length - p).toNat ≤ d → d < n → 0 ≤ p → p ≤ m.length → FreeI m l p → ∃ l', RFree.l1 1000 m n l p = some l' ∧ FreeI m l' m.length := by
  intro d
  induction d with
  | zero =>
    intro n l p h1 h2 h3 h4 H
    obtain ⟨n, rfl⟩ : ∃ r, n = r + 1 := ⟨n - 1, by omega⟩
    unfold RFree.l1
    rw [decide_eq_false (show ¬ p < (m.length : Int) by omega), cond_false]
    exact ⟨l, rfl, by rw [show (m.length : Int) = p by omega]; exact H⟩
  | succ d ih =>
    intro n l p h1 h2 h3 h4 H
    by_cases hp : p < (m.length : Int)
    · obtain ⟨n, rfl⟩ : ∃ r, n = r + 1 := ⟨n - 1, by omega⟩
      unfold RFree.l1
      rw [decide_eq_true hp, decide_eq_true h3]
      simp only [Bool.and_self, cond_true]
      cases hb : m.getD p.toNat false with
      | false =>
        simp only [Bool.not_false, cond_true]
        rw [wrap_small (by omega) (by omega)]
        refine ih n l (p + 1) (by omega) (by omega) (by omega) (by omega) ⟨H.ok, H.srt, fun x hx => by have := H.beh x hx; omega, fun u => ?_, H.mx, by have := H.len; omega⟩
        rw [H.cov]
        constructor
        · rintro ⟨a, b⟩; exact ⟨by omega, b⟩
        · rintro ⟨a, b⟩
          refine ⟨?_, b⟩
          rcases Int.lt_or_eq_of_le (show u ≤ p by omega) with h' | h'
          · exact h'
          · rw [h'] at b; have := b.2; rw [hb] at this; cases this
      | true =>
        simp only [Bool.not_true, cond_false]
        have ok0 : Ok m.length ⟨p, 0⟩ := ⟨by simp, by simp, h3, by have : pw 0 = 1 := rfl; simp only; rw [this]; omega, by have : pw 0 = 1 := rfl; simp only; rw [this]; omega⟩
        obtain ⟨q, e, ok, al, mx⟩ := free_up (v1 := l) hm h3 5 1000 l 0 (by omega) (by omega) ok0 (fun u hu => by
          obtain ⟨u0, u1⟩ := hu
          have : pw 0 = 1 := rfl
          simp only at u0 u1
          rw [this] at u1
          rw [show u = p by omega]
          exact ⟨h3, hb⟩)
        have q0 := ok.o0
        have q5 := ok.o5
        have en := ok.en
        simp only at q0 q5 en
        have hpw := pw_le q0 q5
        have hl := H.len
        rw [e, Option.bind_some]
        simp only []
        rw [decide_eq_true (show l.length + ([(⟨p, q⟩ : Blk)] : List Blk).length ≤ 1000000 by simp only [List.length_cons, List.length_nil]; omega), cond_true, power_eq q0 q5, Option.bind_some, wrap_small (by omega) (by omega)]
        refine ih n (l ++ [⟨p, q⟩]) (p + pw q) (by omega) (by omega) (by omega) en ⟨fun x hx => ?_, ?_, fun x hx => ?_, fun u => ?_, fun x hx => ?_, by rw [List.length_append]; simp only [List.length_cons, List.length_nil]; omega⟩
        · rcases List.mem_append.mp hx with hx | hx
          · exact H.ok x hx
          · rw [List.mem_singleton.mp hx]; exact ok
        · refine List.pairwise_append.mpr ⟨H.srt, List.pairwise_singleton _ _, fun a ha b hb' => ?_⟩
          rw [List.mem_singleton.mp hb']
          exact H.beh a ha
        · rcases List.mem_append.mp hx with hx | hx
          · have := H.beh x hx; omega
          · rw [List.mem_singleton.mp hx]; simp only; omega
        · constructor
          · rintro ⟨x, hx, hin⟩
            rcases List.mem_append.mp hx with hx | hx
            · have := (H.cov u).mp ⟨x, hx, hin⟩; exact ⟨by omega, this.2⟩
            · rw [List.mem_singleton.mp hx] at hin; exact ⟨hin.2, al u hin⟩
          · rintro ⟨a, b⟩
            by_cases hu : u < p
            · obtain ⟨x, hx, hin⟩ := (H.cov u).mpr ⟨hu, b⟩; exact ⟨x, List.mem_append_left _ hx, hin⟩
            · exact ⟨⟨p, q⟩, List.mem_append_right _ (List.mem_singleton.mpr rfl), by simp only; omega, a⟩
        · rcases List.mem_append.mp hx with hx | hx
          · exact H.mx x hx
          · rw [List.mem_singleton.mp hx]; exact mx
    · exact ih n l p (by omega) (by omega) h3 h4 H
theorem rfree_ex {m : List Bool} (hm : m.length ≤ 512) : ∃ l, RFree.f 1000 m = some l ∧ Inv m.length l ∧ Sees m l := by
  unfold RFree.f
  obtain ⟨l, e, H⟩ := free_go hm m.length 1000 [] 0 (by omega) (by omega) (by omega) (by omega) ⟨by simp, .nil, by simp, fun u => ⟨fun ⟨x, hx, _⟩ => (by cases hx), fun ⟨h1, h2⟩ => (by have := h2.1; omega)⟩, by simp, by simp⟩
  refine ⟨l, e, H.inv, fun u => ?_⟩
  rw [H.cov]
  exact ⟨fun h => h.2, fun h => ⟨fr_lt h, h⟩⟩
theorem rfree_eq {m : List Bool} {L : List Blk} (hm : m.length ≤ 512) (h : Inv m.length L) (hs : Sees m L) : RFree.f 1000 m = some L := by
  obtain ⟨l, e, hi, hc⟩ := rfree_ex hm
  rw [e, uniq hi h fun t => (hc t).trans (hs t).symm]
end Go.Proofs.YtmjnenjeckeklaaDoor.V
