import Derived.Test.YtmjnenjeckeklaaDoorBuddyGive
namespace Go.Proofs.YtmjnenjeckeklaaDoor.V
open Go Go.RowKit Go.Proofs Go.Proofs.YtmjnenjeckeklaaDoor.Q
set_option linter.unusedVariables false
set_option linter.unusedSimpArgs false
set_option maxRecDepth 100000
def tzOk (v : Nat) : Bool := match bits_TrailingZeros.f (v : Int) with
  | some t => Nat.beq v 0 && t == 64 || (decide (0 ≤ t) && decide (t ≤ 9) && Nat.beq (v % 2 ^ t.toNat) 0 && !Nat.beq (v % 2 ^ (t.toNat + 1)) 0)
  | none => false
theorem tz_all : ((List.range 513).all tzOk) = true := by kernel_rfl
def lenOk (d : Nat) : Bool := match bits_Len.f (d : Int) with
  | some r => decide (1 ≤ r) && decide (r ≤ 10) && Nat.ble (2 ^ (r.toNat - 1)) d && Nat.ble (d + 1) (2 ^ r.toNat)
  | none => false
theorem len_all : ((List.range 512).all fun d => lenOk (d + 1)) = true := by kernel_rfl
theorem ord_ex {v d : Nat} (hv : v < 513) (h1 : 1 ≤ d) (h2 : d ≤ 512) : ∃ (t r : Int) (q : Nat), bits_TrailingZeros.f (v : Int) = some t ∧ bits_Len.f (d : Int) = some r ∧ 1 ≤ r ∧ r ≤ 10 ∧ 0 ≤ t ∧ t ≤ 64 ∧ (if r - 1 < t then r - 1 else t) = (q : Int) ∧ q ≤ 9 ∧ v % 2 ^ q = 0 ∧ 2 ^ q ≤ d ∧ ¬ (v % 2 ^ (q + 1) = 0 ∧ 2 ^ (q + 1) ≤ d) := by
  have a1 := List.all_eq_true.mp tz_all v (List.mem_range.mpr hv)
  have a2 := List.all_eq_true.mp len_all (d - 1) (List.mem_range.mpr (by omega))
  rw [show d - 1 + 1 = d by omega] at a2
  unfold tzOk at a1
  unfold lenOk at a2
  split at a2
  · rename_i r hr
    split at a1
    · rename_i t ht
      simp only [Bool.and_eq_true, decide_eq_true_eq] at a2
      obtain ⟨⟨⟨b1, b2⟩, b3⟩, b4⟩ := a2
      have b3 := Nat.le_of_ble_eq_true b3
      have b4 := Nat.le_of_ble_eq_true b4
      simp only [Bool.or_eq_true, Bool.and_eq_true, decide_eq_true_eq, beq_iff_eq, Bool.not_eq_true'] at a1
      rcases a1 with ⟨c1, rfl⟩ | ⟨⟨⟨c1, c2⟩, c3⟩, c4⟩
      · have c1 := Nat.eq_of_beq_eq_true c1
        subst c1
        refine ⟨64, r, (r - 1).toNat, ht, hr, b1, b2, by omega, by omega, by rw [if_pos (by omega)]; omega, by omega, Nat.zero_mod _, ?_, fun h => ?_⟩
        · rw [show (r - 1).toNat = r.toNat - 1 by omega]; exact b3
        · rw [show (r - 1).toNat + 1 = r.toNat by omega] at h; omega
      · have c3 := Nat.eq_of_beq_eq_true c3
        have c4 : ¬ v % 2 ^ (t.toNat + 1) = 0 := fun h => by rw [h] at c4; cases c4
        by_cases hlt : r - 1 < t
        · refine ⟨t, r, (r - 1).toNat, ht, hr, b1, b2, by omega, by omega, by rw [if_pos hlt]; omega, by omega, ?_, ?_, fun h => ?_⟩
          · exact Nat.mod_eq_zero_of_dvd (Nat.dvd_trans (Nat.pow_dvd_pow 2 (show (r - 1).toNat ≤ t.toNat by omega)) (Nat.dvd_of_mod_eq_zero c3))
          · rw [show (r - 1).toNat = r.toNat - 1 by omega]; exact b3
          · rw [show (r - 1).toNat + 1 = r.toNat by omega] at h; omega
        · refine ⟨t, r, t.toNat, ht, hr, b1, b2, by omega, by omega, by rw [if_neg hlt]; omega, by omega, c3, ?_, fun h => c4 h.1⟩
          exact Nat.le_trans (Nat.pow_le_pow_right (by omega) (show t.toNat ≤ r.toNat - 1 by omega)) b3
    · cases a1
  · cases a2
theorem pw_nat (q : Nat) : pw (q : Int) = ((2 ^ q : Nat) : Int) := by unfold pw; simp
inductive Cuts (tt : Int) : Int → List Pr → Prop
  | nil : Cuts tt tt []
  | cons {a q : Int} {P : List Pr} (q0 : 0 ≤ q) (q9 : q ≤ 9) (al : a % pw q = 0) (fit : a + pw q ≤ tt) (mx : ¬ (a % (2 * pw q) = 0 ∧ a + 2 * pw q ≤ tt)) (t : Cuts tt (a + pw q) P) : Cuts tt a (⟨a, q⟩ :: P)
theorem pw_pos {q : Int} (h : 0 ≤ q) : 0 < pw q := by
  unfold pw; exact Int.pow_pos (by omega)
theorem Cuts.len {tt a : Int} {P : List Pr} (h : Cuts tt a P) : a ≤ tt ∧ (P.length : Int) ≤ tt - a := by
  induction h with
  | nil => simp
  | @cons a q P q0 q9 al fit mx t ih =>
    have := pw_pos q0
    simp only [List.length_cons]
    omega
theorem wrapU {x : Int} (h0 : 0 ≤ x) (h1 : x < 1000000) : IntKind.u64.wrap x = x := by
  simp only [IntKind.wrap, IntKind.bits, IntKind.signed]
  simp
  omega
theorem pw9 {q : Int} (h0 : 0 ≤ q) (h9 : q ≤ 9) : (q = 0 ∧ pw q = 1) ∨ (q = 1 ∧ pw q = 2) ∨ (q = 2 ∧ pw q = 4) ∨ (q = 3 ∧ pw q = 8) ∨ (q = 4 ∧ pw q = 16) ∨ (q = 5 ∧ pw q = 32) ∨ (q = 6 ∧ pw q = 64) ∨ (q = 7 ∧ pw q = 128) ∨ (q = 8 ∧ pw q = 256) ∨ (q = 9 ∧ pw q = 512) := by
  have : q = 0 ∨ q = 1 ∨ q = 2 ∨ q = 3 ∨ q = 4 ∨ q = 5 ∨ q = 6 ∨ q = 7 ∨ q = 8 ∨ q = 9 := by omega
  rcases this with rfl | rfl | rfl | rfl | rfl | rfl | rfl | rfl | rfl | rfl <;> decide
theorem cut_go {k : Nat} {a0 tt : Int} (hto : tt ≤ 512) : ∀ (d m : Nat) (a : Int) (acc : List Pr), (tt - a).toNat ≤ d → d < m → 0 ≤ a → a ≤ tt → acc.length + (tt - a).toNat ≤ 1000 → ∃ P, Cuts tt a P ∧ Cut.l1 k a0 tt m a acc = some (acc ++ P, none) := by
  intro d
  induction d with
  | zero =>
    intro m a acc h1 h2 h3 h4 h5
    obtain ⟨m, rfl⟩ : ∃ q, m = q + 1 := ⟨m - 1, by omega⟩
    obtain rfl : a = tt := by omega
    unfold Cut.l1
    rw [decide_eq_false (Int.lt_irrefl _), cond_false]
    exact ⟨[], .nil, by simp⟩
  | succ d ih =>
    intro m a acc h1 h2 h3 h4 h5
    by_cases ha : a < tt
    · obtain ⟨m, rfl⟩ : ∃ q, m = q + 1 := ⟨m - 1, by omega⟩
      obtain ⟨t, r, q, e1, e2, r1, r2, t1, t2, e3, q9, m1, m2, m3⟩ := ord_ex (v := a.toNat) (d := (tt - a).toNat) (by omega) (by omega) (by omega)
      rw [show ((a.toNat : Nat) : Int) = a by omega] at e1
      rw [show (((tt - a).toNat : Nat) : Int) = tt - a by omega] at e2
      have w1 : IntKind.i64.wrap (tt - a) = tt - a := wrap_small (by omega) (by omega)
      have w2 : IntKind.u64.wrap (tt - a) = tt - a := wrapU (by omega) (by omega)
      have w3 : IntKind.u64.wrap a = a := wrapU (by omega) (by omega)
      have w4 : IntKind.i64.wrap (r - 1) = r - 1 := wrap_small (by omega) (by omega)
      have hq : (if (20 : Int) < (if r - 1 < t then r - 1 else t) then 20 else (if r - 1 < t then r - 1 else t)) = (q : Int) := by rw [e3, if_neg (by omega)]
      have hp := pw_nat q
      have hpos := pw_pos (show 0 ≤ (q : Int) by omega)
      have ple : pw (q : Int) ≤ tt - a := by rw [hp]; omega
      unfold Cut.l1
      rw [decide_eq_true ha, cond_true, w3, w1, w2, e1, Option.bind_some, e2, Option.bind_some, w4, hq, decide_eq_true (show acc.length + [(⟨a, (q : Int)⟩ : Pr)].length ≤ 1000000 by simp; omega), cond_true, decide_eq_true (show 0 ≤ (q : Int) by omega), cond_true, shl_pw (by omega) (by omega), wrap_small (by omega) (by omega)]
      obtain ⟨P, c1, c2⟩ := ih m (a + pw (q : Int)) (acc ++ [⟨a, (q : Int)⟩]) (by omega) (by omega) (by omega) (by omega) (by simp only [List.length_append, List.length_singleton]; omega)
      refine ⟨⟨a, (q : Int)⟩ :: P, .cons (by omega) (by omega) ?_ (by omega) ?_ c1, by rw [c2, List.append_assoc]; rfl⟩
      · rw [hp]
        have : ((a.toNat % 2 ^ q : Nat) : Int) = a % ((2 ^ q : Nat) : Int) := by rw [Int.natCast_emod, show ((a.toNat : Nat) : Int) = a by omega]
        omega
      · rintro ⟨z1, z2⟩
        have ee : ((2 ^ (q + 1) : Nat) : Int) = 2 * pw (q : Int) := by rw [hp, Nat.pow_succ]; omega
        refine m3 ⟨?_, by omega⟩
        have : ((a.toNat % 2 ^ (q + 1) : Nat) : Int) = a % ((2 ^ (q + 1) : Nat) : Int) := by rw [Int.natCast_emod, show ((a.toNat : Nat) : Int) = a by omega]
        rw [ee, z1] at this
        omega
    · exact ih m a acc (by omega) (by omega) h3 h4 h5
theorem cut_eq {k : Nat} {a tt : Int} (h0 : 0 ≤ a) (h1 : a ≤ tt) (h2 : tt ≤ 512) (hk : 1000 ≤ k) : ∃ P, Cuts tt a P ∧ Cut.f k a tt = some (P, none) := by
  unfold Cut.f
  rw [decide_eq_false (show ¬ a < 0 by omega), cond_false, decide_eq_false (show ¬ tt < a by omega), cond_false, decide_eq_false (show ¬ tt > 1048576 by omega), cond_false]
  obtain ⟨P, c1, c2⟩ := cut_go (k := k) (a0 := a) h2 512 k a [] (by omega) (by omega) h0 h1 (by simp; omega)
  exact ⟨P, c1, c2⟩
structure AddI (n : Int) (L0 : List Blk) (from_ tt : Int) (l : List Blk) (p : Int) : Prop where
  inv : Inv n l
  cov : ∀ u, Cov l u ↔ Cov L0 u ∨ (from_ ≤ u ∧ u < p)
  mem : ∀ y ∈ l, y ∈ L0 ∨ (from_ ≤ y.f ∧ y.f + pw y.o ≤ p ∧ (y.o < 5 → ¬ (y.f % (2 * pw y.o) = 0 ∧ y.f + 2 * pw y.o ≤ tt)))
  tot : tot l = V.tot L0 + (p - from_)
structure AddH (n : Int) (L0 : List Blk) (from_ tt : Int) : Prop where
  inv : Inv n L0
  n5 : n ≤ 512
  f0 : 0 ≤ from_
  ft : from_ ≤ tt
  tn : tt ≤ n
  dis : ∀ u, from_ ≤ u → u < tt → ¬ Cov L0 u
  nb : ∀ y ∈ L0, ∀ x, Ok n x → from_ ≤ x.f → x.f + pw x.o ≤ tt → ¬ Bud x y ∧ ¬ Bud y x
theorem add_in {n : Int} {L0 : List Blk} {from_ tt : Int} {k : Nat} {a0 v2 : Sto} {a1 a2 v3 : Int} {r1 : List Pr × Option Int} {a q : Int} (H : AddH n L0 from_ tt) (hk : 1000 ≤ k) (e : r1.1.getD (v3.toNat) zP = ⟨a, q⟩) (q0 : 0 ≤ q) (q9 : q ≤ 9) (al : a % pw q = 0) (fit : a + pw q ≤ tt) (mx : ¬ (a % (2 * pw q) = 0 ∧ a + 2 * pw q ≤ tt)) (fa : from_ ≤ a) :
    ∀ (d m : Nat) (t : Sto) (p : Int), (a + pw q - p).toNat ≤ d → d < m → a ≤ p → p ≤ a + pw q → (p - a) % pw (if 5 < q then 5 else q) = 0 → AddI n L0 from_ tt t.l p → ∃ l, add.l2 k a0 a1 a2 r1 v2 v3 m t p = some (⟨t.n, l⟩, a + pw q) ∧ AddI n L0 from_ tt l (a + pw q) := by
  have n5 := H.n5
  have f0 := H.f0
  have tn := H.tn
  have hpq := pw_pos q0
  have ho : 0 ≤ (if 5 < q then 5 else q) ∧ (if 5 < q then 5 else q) ≤ 5 ∧ ((if 5 < q then 5 else q) < 5 → (if 5 < q then 5 else q) = q) := by split <;> omega
  generalize hoo : (if 5 < q then 5 else q) = o at ho
  obtain ⟨o0, o5, oq⟩ := ho
  have hpo := pw_le o0 o5
  have hrel : ∀ p, a ≤ p → p < a + pw q → (p - a) % pw o = 0 → p % pw o = 0 ∧ p + pw o ≤ a + pw q ∧ (p + pw o - a) % pw o = 0 ∧ (o < 5 → p = a) := by
    intro p h1 h2 h3
    rcases pw9 q0 q9 with ⟨e1, p1⟩ | ⟨e1, p1⟩ | ⟨e1, p1⟩ | ⟨e1, p1⟩ | ⟨e1, p1⟩ | ⟨e1, p1⟩ | ⟨e1, p1⟩ | ⟨e1, p1⟩ | ⟨e1, p1⟩ | ⟨e1, p1⟩ <;> rw [p1] at h2 al ⊢ <;>
    rcases pw_cases o0 o5 with ⟨e2, p2⟩ | ⟨e2, p2⟩ | ⟨e2, p2⟩ | ⟨e2, p2⟩ | ⟨e2, p2⟩ | ⟨e2, p2⟩ <;> rw [p2] at h3 ⊢ <;> first | omega | (exfalso; rw [e1, e2] at hoo; revert hoo; decide)
  intro d
  induction d with
  | zero =>
    intro m t p h1 h2 h3 h4 h5 h6
    obtain ⟨m, rfl⟩ : ∃ q, m = q + 1 := ⟨m - 1, by omega⟩
    obtain rfl : p = a + pw q := by omega
    unfold add.l2
    rw [e]
    simp only
    rw [decide_eq_true q0, cond_true, shl_pw q0 (by omega), wrap_small (by omega) (by omega), decide_eq_false (Int.lt_irrefl _), cond_false]
    exact ⟨t.l, rfl, h6⟩
  | succ d ih =>
    intro m t p h1 h2 h3 h4 h5 h6
    by_cases hp : p < a + pw q
    · obtain ⟨m, rfl⟩ : ∃ q, m = q + 1 := ⟨m - 1, by omega⟩
      obtain ⟨g1, g2, g3, g4⟩ := hrel p h3 hp h5
      unfold add.l2
      rw [e]
      simp only
      rw [decide_eq_true q0, cond_true, shl_pw q0 (by omega), wrap_small (x := a + pw q) (by omega) (by omega), decide_eq_true hp, cond_true, hoo]
      have okx : Ok n ⟨p, o⟩ := ⟨o0, o5, by show 0 ≤ p; omega, g1, by show p + pw o ≤ n; omega⟩
      obtain ⟨l, e1, i1, c1, m1, t1⟩ := putb_all (k := k) (s := t) (x := ⟨p, o⟩) h6.inv n5 okx (fun u hu hc => by
        have u1 := hu.1
        have u2 := hu.2
        simp only at u1 u2
        rcases (h6.cov u).mp hc with hc | hc
        · exact H.dis u (by omega) (by omega) hc
        · omega) (fun y hy => by
        rcases h6.mem y hy with hy | ⟨y1, y2, y3⟩
        · exact H.nb y hy ⟨p, o⟩ okx (by show from_ ≤ p; omega) (by show p + pw o ≤ tt; omega)
        · have py := (h6.inv.ok y hy).pos
          refine ⟨fun hb => ?_, fun hb => ?_⟩
          · have := hb.2.2.1
            simp only at this
            omega
          · obtain ⟨b1, b2, b3, b4⟩ := hb
            simp only at b1 b3
            refine y3 b2 ⟨b4, ?_⟩
            rw [b1] at b3 ⊢
            omega) hk
      rw [e1, Option.bind_some, decide_eq_true o0, cond_true, shl_pw o0 (by omega), wrap_small (by omega) (by omega)]
      refine ih m ⟨t.n, l⟩ (p + pw o) (by omega) (by omega) (by omega) (by omega) g3 ⟨i1, fun u => ?_, fun y hy => ?_, ?_⟩
      · rw [c1 u, h6.cov u]
        unfold In
        simp only
        constructor
        · rintro ((h | h) | h)
          · exact .inl h
          · exact .inr (by omega)
          · exact .inr (by omega)
        · rintro (h | h)
          · exact .inl (.inl h)
          · rcases Int.lt_or_le u p with h' | h'
            · exact .inl (.inr (by omega))
            · exact .inr (by omega)
      · rcases (m1 y).mp hy with rfl | hy
        · refine .inr ⟨by show from_ ≤ p; omega, by show p + pw o ≤ p + pw o; omega, fun h5' hm => ?_⟩
          simp only at h5' hm
          have e1 := oq h5'
          have e2 := g4 h5'
          rw [e1, e2] at hm
          exact mx hm
        · rcases h6.mem y hy with hy | ⟨y1, y2, y3⟩
          · exact .inl hy
          · exact .inr ⟨y1, by omega, y3⟩
      · rw [t1, h6.tot]; simp only; omega
    · exact ih m t p (by omega) (by omega) h3 h4 h5 h6
theorem add_go {n : Int} {L0 : List Blk} {from_ tt : Int} {k : Nat} {a0 : Sto} {a1 a2 : Int} {r1 : List Pr × Option Int} (H : AddH n L0 from_ tt) (hk : 1000 ≤ k) (hr : r1.1.length ≤ 900) : ∀ (P : List Pr) (m i : Nat) (t : Sto) (p : Int), r1.1.drop i = P → i + P.length = r1.1.length → P.length < m → Cuts tt p P → from_ ≤ p → AddI n L0 from_ tt t.l p →
    ∃ l, add.l1 k a0 a1 a2 r1 m t (i : Int) = some ⟨t.n, l⟩ ∧ AddI n L0 from_ tt l tt := by
  have n5 := H.n5
  have f0 := H.f0
  have tn := H.tn
  intro P
  induction P with
  | nil =>
    intro m i t p h1 h2 h3 h4 h5 h6
    obtain ⟨m, rfl⟩ : ∃ q, m = q + 1 := ⟨m - 1, by simp at h3; omega⟩
    cases h4
    unfold add.l1
    rw [decide_eq_false (show ¬ (i : Int) < (r1.1.length : Int) by simp at h2; omega), cond_false]
    exact ⟨t.l, rfl, h6⟩
  | cons c P ih =>
    intro m i t p h1 h2 h3 h4 h5 h6
    obtain ⟨m, rfl⟩ : ∃ q, m = q + 1 := ⟨m - 1, by simp at h3; omega⟩
    cases h4 with
    | @cons a q _ q0 q9 al fit mx tl =>
      have hi : i < r1.1.length := by simp at h2; omega
      have e : r1.1.getD ((i : Int)).toNat zP = ⟨p, q⟩ := by
        rw [Int.toNat_natCast, List.getD_eq_getElem?_getD, List.getElem?_eq_getElem hi]
        rw [List.drop_eq_getElem_cons hi] at h1
        exact (List.cons.inj h1).1
      have hpq := pw_pos q0
      have hp9 : pw q ≤ 512 := by rcases pw9 q0 q9 with h | h | h | h | h | h | h | h | h | h <;> omega
      obtain ⟨l, e1, i1⟩ := add_in (k := k) (a0 := a0) (v2 := t) (a1 := a1) (a2 := a2) (v3 := (i : Int)) (r1 := r1) H hk e q0 q9 al fit mx h5 512 k t p (by omega) (by omega) (Int.le_refl _) (by omega) (by rw [Int.sub_self]; exact Int.zero_emod _) h6
      unfold add.l1
      rw [decide_eq_true (show (i : Int) < (r1.1.length : Int) by omega), decide_eq_true (show 0 ≤ (i : Int) by omega), e]
      simp only [Bool.and_self, cond_true]
      rw [e1, Option.bind_some, wrap_small (by omega) (by omega)]
      have := ih m (i + 1) ⟨t.n, l⟩ (p + pw q) (by rw [List.drop_eq_getElem_cons hi] at h1; exact (List.cons.inj h1).2) (by simp at h2; omega) (by simp at h3; omega) tl (by omega) i1
      exact this
theorem add_eq {n : Int} {s : Sto} {from_ tt : Int} {k : Nat} (H : AddH n s.l from_ tt) (hk : 1000 ≤ k) : ∃ l, add.f k s from_ tt = some ⟨s.n, l⟩ ∧ AddI n s.l from_ tt l tt := by
  have n5 := H.n5
  have f0 := H.f0
  have ft := H.ft
  have tn := H.tn
  obtain ⟨P, c1, c2⟩ := cut_eq (k := k) f0 ft (show tt ≤ 512 by omega) hk
  have hl := c1.len
  unfold add.f
  rw [c2, Option.bind_some]
  obtain ⟨l, e1, i1⟩ := add_go (k := k) (a0 := s) (a1 := from_) (a2 := tt) (r1 := (P, none)) H hk (by simp only; omega) P k 0 s from_ rfl (by simp) (by omega) c1 (Int.le_refl _) ⟨H.inv, fun u => ⟨.inl, fun h => h.resolve_right (by omega)⟩, fun y hy => .inl hy, by omega⟩
  exact ⟨l, e1, i1⟩
theorem new_eq {n : Int} {k : Nat} (h0 : 1 ≤ n) (h5 : n ≤ 512) (hk : 1000 ≤ k) : ∃ l, New.f k n = some (⟨n, l⟩, none) ∧ Inv n l ∧ (∀ u, Cov l u ↔ 0 ≤ u ∧ u < n) ∧ tot l = n := by
  have I0 : Inv n ([] : List Blk) := ⟨fun _ h => (List.not_mem_nil h).elim, List.Pairwise.nil, fun _ h => (List.not_mem_nil h).elim⟩
  have C0 : ∀ u, ¬ Cov ([] : List Blk) u := fun u ⟨_, h, _⟩ => (List.not_mem_nil h).elim
  have H : AddH n ([] : List Blk) 0 n := ⟨I0, h5, by omega, by omega, Int.le_refl _, fun u _ _ => C0 u, fun _ h => (List.not_mem_nil h).elim⟩
  obtain ⟨l, e1, i1⟩ := add_eq (s := ⟨n, []⟩) H hk
  unfold New.f
  rw [decide_eq_false (show ¬ n < 1 by omega), cond_false, decide_eq_false (show ¬ n > 512 by omega), cond_false, e1]
  refine ⟨l, rfl, i1.inv, fun u => ?_, ?_⟩
  · rw [i1.cov u]
    exact ⟨fun h => h.resolve_left (C0 u), .inr⟩
  · rw [i1.tot]; simp [tot]
end Go.Proofs.YtmjnenjeckeklaaDoor.V
