/- Layer 5: what the reference's functions compute, and what the law's own do. -/
import Derived.Test.YtfbjhioefkimbaaTlbV
import Derived.Test.YtfbjhioefkimbaaB2
namespace Go.Proofs.Ytfbjhioefkimbaa.V
open Go Go.RowKit Go.Proofs Go.Proofs.Ytfbjhioefkimbaa.Q Go.Proofs.Ytfbjhioefkimbaa.TlbLib Go.Proofs.YtfbjhioefkimbaaW.PrintWords Go.Proofs.Ytfbjhioefkimbaa.Bits
set_option linter.unusedVariables false
set_option linter.unusedSimpArgs false
set_option maxRecDepth 100000
theorem refMayAll (k : Nat) (x : S30) : paviorref05_May.f (k + 1) x.f0 x.f1 x.f2 x.f3 x.f4 x.f5 = some (decide (okE x)) := by
  by_cases ok : okE x
  · rw [refMay k x ok, decide_eq_true ok]
  rw [decide_eq_false ok]
  have bad : paviorref05_May.j0 (k + 1) true x.f0 x.f1 x.f2 x.f3 x.f4 x.f5 = some false := by rw [paviorref05_May.j0, if_pos rfl]
  unfold paviorref05_May.f
  by_cases c1 : x.f0 < 0
  · rw [if_pos c1]; exact bad
  rw [if_neg c1]
  by_cases c2 : x.f0 > 255
  · rw [if_pos c2]; exact bad
  rw [if_neg c2]
  by_cases c3 : x.f1 < 0
  · rw [if_pos c3]; exact bad
  rw [if_neg c3]
  by_cases c4 : x.f1 > 4095
  · rw [if_pos c4]; exact bad
  rw [if_neg c4]
  by_cases c5 : x.f3 < 0
  · rw [decide_eq_true c5]; exact bad
  rw [decide_eq_false c5, paviorref05_May.j0, if_neg Bool.false_ne_true]
  have key : (x.f2 = 0 ∨ x.f2 = 2 ∨ x.f2 = 3) → (Int.tmod x.f1 (pwE x.f2) == 0) = false := by
    intro h6
    rw [beq_eq_false_iff_ne, Int.tmod_eq_emod_of_nonneg (by omega)]
    intro h7
    exact ok ⟨by omega, by omega, by omega, by omega, by omega, h6, h7⟩
  have hb := (pwE_le x.f2).2
  by_cases d0 : x.f2 = 0
  · rw [if_pos d0, refpower, Option.bind_some, if_neg (by omega), key (.inl d0)]
  rw [if_neg d0]
  by_cases d2 : x.f2 = 2
  · rw [if_pos d2, refpower, Option.bind_some, if_neg (by omega), key (.inr (.inl d2))]
  rw [if_neg d2]
  by_cases d3 : x.f2 = 3
  · rw [if_pos d3, refpower, Option.bind_some, if_neg (by omega), key (.inr (.inr d3))]
  · rw [if_neg d3]
theorem clash_cmp {x1 x3 y1 y3 i : Int} (h1 : 0 ≤ x1) (h2 : x1 < 4096) (h3 : 0 ≤ y1) (h4 : y1 < 4096) (h5 : 0 ≤ x3) (h6 : x3 ≤ 9223372036854775807) (h7 : 0 ≤ y3) (h8 : y3 ≤ 9223372036854775807) (h9 : 0 ≤ i) (h10 : i < 8) :
    (wrap64 (x3 + i) = wrap64 (wrap64 (y3 + (x1 + i)) - y1)) ↔ x3 - x1 = y3 - y1 := by
  unfold wrap64
  omega
def diffE (x y : S30) : Prop := x.f2 ≠ y.f2 ∨ x.f4 ≠ y.f4 ∨ x.f5 ≠ y.f5 ∨ x.f3 - x.f1 ≠ y.f3 - y.f1
theorem refClash_go (x y : S30) (hx : okE x) (hy : okE y) (wx : wfE x) (wy : wfE y) : ∀ (n : Nat) (i : Int), 0 ≤ i → i ≤ pwE x.f2 → (pwE x.f2 - i).toNat < n →
    ∃ r, paviorref05_Clash.l0 n i x.f0 x.f1 x.f2 x.f3 x.f4 x.f5 y.f0 y.f1 y.f2 y.f3 y.f4 y.f5 = some r ∧ (r = true ↔ (∃ j, i ≤ j ∧ j < pwE x.f2 ∧ ofE y x.f0 (x.f1 + j)) ∧ diffE x y) := by
  intro n
  induction n with
  | zero => intro i h0 h1 h2; omega
  | succ n ih =>
    intro i h0 h1 h2
    obtain ⟨a1, a2, a3, a4, a5, a6, a7⟩ := id hx
    obtain ⟨b1, b2, b3, b4, b5, b6, b7⟩ := id hy
    have hp := pwE_le x.f2
    unfold paviorref05_Clash.l0
    rw [refpower, Option.bind_some]
    by_cases c : i < pwE x.f2
    · rw [if_pos c, wrap64_of (n := x.f1 + i) (by omega) (by omega), refIs y x.f0 (x.f1 + i) hy, Option.bind_some]
      by_cases d : ofE y x.f0 (x.f1 + i)
      · rw [if_pos (decide_eq_true d)]
        have hc := clash_cmp (i := i) a3 a4 b3 b4 a5 wx.1 b5 wy.1 h0 (by omega)
        have hex : ∃ j, i ≤ j ∧ j < pwE x.f2 ∧ ofE y x.f0 (x.f1 + j) := ⟨i, by omega, c, d⟩
        by_cases e1 : x.f3 - x.f1 = y.f3 - y.f1
        · rw [if_pos (hc.mpr e1)]
          by_cases e2 : x.f2 = y.f2
          · rw [if_pos e2]
            by_cases e3 : x.f4 = y.f4
            · rw [if_neg (by simpa using e3)]
              refine ⟨_, rfl, ?_⟩
              rw [bne_iff_ne]
              unfold diffE
              constructor
              · intro h; exact ⟨hex, .inr (.inr (.inl h))⟩
              · rintro ⟨_, h | h | h | h⟩
                · exact (h e2).elim
                · exact (h e3).elim
                · exact h
                · exact (h e1).elim
            · rw [if_pos (by simpa using e3)]
              exact ⟨_, rfl, fun _ => ⟨hex, .inr (.inl e3)⟩, fun _ => rfl⟩
          · rw [if_neg e2]
            exact ⟨_, rfl, fun _ => ⟨hex, .inl e2⟩, fun _ => rfl⟩
        · rw [if_neg (fun h => e1 (hc.mp h))]
          exact ⟨_, rfl, fun _ => ⟨hex, .inr (.inr (.inr e1))⟩, fun _ => rfl⟩
      · rw [if_neg (by simpa using d), wrap64_of (n := i + 1) (by omega) (by omega)]
        obtain ⟨r, g1, g2⟩ := ih (i + 1) (by omega) (by omega) (by omega)
        refine ⟨r, g1, g2.trans ?_⟩
        constructor
        · rintro ⟨⟨j, q1, q2, q3⟩, q4⟩; exact ⟨⟨j, by omega, q2, q3⟩, q4⟩
        · rintro ⟨⟨j, q1, q2, q3⟩, q4⟩
          have : j ≠ i := by rintro rfl; exact d q3
          exact ⟨⟨j, by omega, q2, q3⟩, q4⟩
    · rw [if_neg c]
      exact ⟨_, rfl, fun h => (by cases h), fun ⟨⟨j, q1, q2, q3⟩, _⟩ => by omega⟩
theorem refClash (x y : S30) (hx : okE x) (hy : okE y) (wx : wfE x) (wy : wfE y) : paviorref05_Clash.f 1000 x.f0 x.f1 x.f2 x.f3 x.f4 x.f5 y.f0 y.f1 y.f2 y.f3 y.f4 y.f5 = some (clashE x y) := by
  have hp := pwE_le x.f2
  obtain ⟨r, h1, h2⟩ := refClash_go x y hx hy wx wy 1000 0 (by omega) (by omega) (by omega)
  unfold paviorref05_Clash.f
  rw [h1]
  refine congrArg some ?_
  rw [Bool.eq_iff_iff, h2]
  unfold clashE
  rw [decide_eq_true_iff]
  have e : (∃ j, 0 ≤ j ∧ j < pwE x.f2 ∧ ofE y x.f0 (x.f1 + j)) ↔ (ofE x x.f0 (mx x.f1 y.f1) ∧ ofE y x.f0 (mx x.f1 y.f1)) := by
    have hm : mx x.f1 y.f1 = x.f1 ∧ y.f1 ≤ x.f1 ∨ mx x.f1 y.f1 = y.f1 ∧ x.f1 ≤ y.f1 := by unfold mx; split <;> omega
    generalize mx x.f1 y.f1 = m at hm
    unfold ofE
    have hq := pwE_le y.f2
    constructor
    · rintro ⟨j, q1, q2, q3, q4, q5⟩
      exact ⟨⟨rfl, by omega, by omega⟩, q3, by omega, by omega⟩
    · rintro ⟨⟨_, q1, q2⟩, q3, q4, q5⟩
      exact ⟨m - x.f1, by omega, by omega, q3, by omega, by omega⟩
  rw [e]
  unfold diffE
  constructor
  · rintro ⟨⟨q1, q2⟩, q3⟩; exact ⟨hx, hy, q1, q2, q3⟩
  · rintro ⟨_, _, q1, q2, q3⟩; exact ⟨⟨q1, q2⟩, q3⟩
theorem rfill_l2 {a0 v1 : Buf} {v2 : Int} {e : S30} {l : List S30} (he : okE e) (we : wfE e) (hl : ∀ x ∈ l, okE x ∧ wfE x) (hn : l.length ≤ 64) : ∀ (n i : Nat) (b : Bool), i ≤ l.length → l.length - i < n →
    RFill.l2 1000 a0 e v1 v2 n ⟨l, b⟩ i = some ⟨l ++ [e], b || (l.drop i).any (clashE · e)⟩ := by
  intro n
  induction n with
  | zero => intro i b h0 h1; omega
  | succ n ih =>
    intro i b h0 h1
    unfold RFill.l2
    by_cases c : i < l.length
    · simp only
      rw [decide_eq_true (show (i : Int) < (l.length : Int) by omega), decide_eq_true (show 0 ≤ (i : Int) by omega)]
      simp only [cond_true, Bool.and_self, Int.toNat_natCast]
      have hm := hl _ (List.getElem_mem c)
      rw [getD_at c, refClash _ _ hm.1 he hm.2 we, Option.bind_some, wrap_small (x := (i : Int) + 1) (by omega) (by omega), ← List.getElem_cons_drop c, List.any_cons]
      have h3 := fun b => ih (i + 1) b (by omega) (by omega)
      rw [show ((i + 1 : Nat) : Int) = (i : Int) + 1 by omega] at h3
      cases b with
      | true => simp only [cond_true]; rw [h3]; simp
      | false => simp only [cond_false]; rw [h3]; simp
    · simp only
      rw [decide_eq_false (show ¬ (i : Int) < (l.length : Int) by omega), List.drop_eq_nil_of_le (by omega), decide_eq_true (show ([] : List S30).length + l.length ≤ 1000000 by simp; omega), decide_eq_true (show (([] : List S30) ++ l).length + [e].length ≤ 1000000 by simp; omega)]
      simp
theorem rfill_l3 {a0 v1 : Buf} {v2 : Int} {e : S30} {l : List S30} (he : okE e) (we : wfE e) (hl : ∀ x ∈ l, okE x ∧ wfE x) (hn : l.length ≤ 64) : ∀ (n i : Nat) (b : Bool), i ≤ l.length → l.length - i < n →
    RFill.l3 1000 a0 e v1 v2 n ⟨l, b⟩ i = some ⟨l ++ [e], b || (l.drop i).any (clashE · e)⟩ := by
  intro n
  induction n with
  | zero => intro i b h0 h1; omega
  | succ n ih =>
    intro i b h0 h1
    unfold RFill.l3
    by_cases c : i < l.length
    · simp only
      rw [decide_eq_true (show (i : Int) < (l.length : Int) by omega), decide_eq_true (show 0 ≤ (i : Int) by omega)]
      simp only [cond_true, Bool.and_self, Int.toNat_natCast]
      have hm := hl _ (List.getElem_mem c)
      rw [getD_at c, refClash _ _ hm.1 he hm.2 we, Option.bind_some, wrap_small (x := (i : Int) + 1) (by omega) (by omega), ← List.getElem_cons_drop c, List.any_cons]
      have h3 := fun b => ih (i + 1) b (by omega) (by omega)
      rw [show ((i + 1 : Nat) : Int) = (i : Int) + 1 by omega] at h3
      cases b with
      | true => simp only [cond_true]; rw [h3]; simp
      | false => simp only [cond_false]; rw [h3]; simp
    · simp only
      rw [decide_eq_false (show ¬ (i : Int) < (l.length : Int) by omega), List.drop_eq_nil_of_le (by omega), decide_eq_true (show ([] : List S30).length + l.length ≤ 1000000 by simp; omega), decide_eq_true (show (([] : List S30) ++ l).length + [e].length ≤ 1000000 by simp; omega)]
      simp
theorem rfill_l1 {a0 : Buf} {e : S30} {l : List S30} {br : Bool} (he : okE e) (we : wfE e) (hl : ∀ x ∈ l, okE x ∧ wfE x) (hn : l.length ≤ 64) : ∀ (n i : Nat), i ≤ l.length → l.length - i < n → e ∉ l.take i →
    RFill.l1 1000 a0 e n ⟨l, br⟩ i = some ⟨(fillE l br e).2.1, (fillE l br e).2.2⟩ := by
  intro n
  induction n with
  | zero => intro i h0 h1; omega
  | succ n ih =>
    intro i h0 h1 h2
    unfold RFill.l1
    by_cases c : i < l.length
    · simp only
      rw [decide_eq_true (show (i : Int) < (l.length : Int) by omega), decide_eq_true (show 0 ≤ (i : Int) by omega)]
      simp only [cond_true, Bool.and_self, Int.toNat_natCast]
      rw [getD_at c, eqB l[i] e]
      by_cases d : l[i] = e
      · have hm : e ∈ l := d ▸ List.getElem_mem c
        rw [decide_eq_true d]
        have hf : fillE l br e = (none, l, br) := by unfold fillE; rw [if_pos he, if_pos hm]
        rw [hf]
        simp only [cond_true]
      · rw [decide_eq_false d, wrap_small (x := (i : Int) + 1) (by omega) (by omega)]
        have h3 := ih (i + 1) (by omega) (by omega) (by
          rw [List.take_add_one, List.getElem?_eq_getElem c]
          intro h
          rcases List.mem_append.mp h with h | h
          · exact h2 h
          · simp at h; exact d h.symm)
        rw [show ((i + 1 : Nat) : Int) = (i : Int) + 1 by omega] at h3
        exact h3
    · have hi : i = l.length := by omega
      subst hi
      rw [List.take_length] at h2
      simp only
      rw [decide_eq_false (show ¬ ((l.length : Nat) : Int) < (l.length : Int) by omega)]
      simp only [cond_false]
      have hf : fillE l br e = (none, cutE l ++ [e], br || (cutE l).any (clashE · e)) := by unfold fillE; rw [if_pos he, if_neg h2]
      rw [hf]
      by_cases h64 : l.length = 64
      · have e1 : ((l.length : Int) == 64) = true := by rw [h64]; rfl
        have e2 : (l.drop 1).take ((l.map eE).length - 1) = cutE l := by
          unfold cutE
          rw [if_pos h64, List.take_of_length_le (by rw [List.length_drop, List.length_map]; omega)]
        rw [e1, decide_eq_true (show 1 ≤ l.length by omega), e2]
        simp only [cond_true]
        have := rfill_l2 (a0 := a0) (v1 := ⟨l, br⟩) (v2 := (l.length : Int)) he we (fun x hx => hl x (cut_mem hx)) (Nat.le_trans (cut_len l) hn) 1000 0 br (by omega) (by have := cut_len l; omega)
        rw [List.drop_zero, show ((0 : Nat) : Int) = 0 from rfl] at this
        rw [this]
      · have e1 : ((l.length : Int) == 64) = false := by rw [beq_eq_false_iff_ne]; omega
        have e2 : cutE l = l := if_neg h64
        rw [e1, e2]
        simp only [cond_false]
        have := rfill_l3 (a0 := a0) (v1 := ⟨l, br⟩) (v2 := (l.length : Int)) he we hl hn 1000 0 br (by omega) (by omega)
        rw [List.drop_zero, show ((0 : Nat) : Int) = 0 from rfl] at this
        rw [this]
theorem rfill_eq {e : S30} {l : List S30} {br : Bool} (he : okE e) (we : wfE e) (h : good l br) : RFill.f 1000 ⟨l, br⟩ e = some ⟨(fillE l br e).2.1, (fillE l br e).2.2⟩ := by
  have := h.1
  exact rfill_l1 he we h.2.1 h.1 1000 0 (by omega) (by omega) (by simp)
def keepE (a p : Int) (x : S30) : Bool := !decide (ofE x a p) && !(decide (p < 0) && (x.f0 == a))
theorem rdrop_l1 {a0 : Buf} {l : List S30} {br : Bool} {a p : Int} (hl : ∀ x ∈ l, okE x) (hn : l.length ≤ 64) : ∀ (n i : Nat) (out : List S30), i ≤ l.length → l.length - i < n → out.length ≤ i →
    RDrop.l1 1000 a0 a p n ⟨l, br⟩ out i = some ⟨out ++ (l.drop i).filter (keepE a p), br⟩ := by
  intro n
  induction n with
  | zero => intro i out h0 h1; omega
  | succ n ih =>
    intro i out h0 h1 h2
    unfold RDrop.l1
    by_cases c : i < l.length
    · simp only
      have g1 : decide ((i : Int) < (l.length : Int)) = true := decide_eq_true (by omega)
      have g2 : decide (0 ≤ (i : Int)) = true := decide_eq_true (by omega)
      rw [g1, g2]
      simp only [cond_true, Bool.and_self, Int.toNat_natCast]
      have hm := hl _ (List.getElem_mem c)
      have g3 : decide (out.length + [l[i]].length ≤ 1000000) = true := decide_eq_true (by simp; omega)
      rw [getD_at c, refIs _ a p hm, Option.bind_some, wrap_small (x := (i : Int) + 1) (by omega) (by omega), g3, ← List.getElem_cons_drop c, List.filter_cons]
      simp only [cond_true]
      have h3 := fun out (h : out.length ≤ i + 1) => ih (i + 1) out (by omega) (by omega) h
      rw [show ((i + 1 : Nat) : Int) = (i : Int) + 1 by omega] at h3
      by_cases d : ofE l[i] a p
      · have hk : keepE a p l[i] = false := by unfold keepE; rw [decide_eq_true d]; rfl
        rw [decide_eq_true d, hk]
        simp only [Bool.not_true, cond_false, Bool.false_eq_true, if_false]
        exact h3 out (by omega)
      · rw [decide_eq_false d]
        simp only [Bool.not_false, cond_true]
        by_cases d2 : p < 0
        · rw [decide_eq_true d2]
          simp only [cond_true]
          by_cases d3 : l[i].f0 = a
          · have hk : keepE a p l[i] = false := by unfold keepE; rw [decide_eq_true d2, d3]; simp
            rw [hk, show (l[i].f0 == a) = true by simpa using d3]
            simp only [Bool.not_true, cond_false, Bool.false_eq_true, if_false]
            exact h3 out (by omega)
          · have hk : keepE a p l[i] = true := by unfold keepE; rw [decide_eq_false d]; simp [d3]
            rw [hk, show (l[i].f0 == a) = false by simpa using d3]
            simp only [Bool.not_false, cond_true, if_true]
            rw [h3 (out ++ [l[i]]) (by simp; omega), List.append_assoc]
            rfl
        · have hk : keepE a p l[i] = true := by unfold keepE; rw [decide_eq_false d, decide_eq_false d2]; rfl
          rw [decide_eq_false d2, hk]
          simp only [cond_false, if_true]
          rw [h3 (out ++ [l[i]]) (by simp; omega), List.append_assoc]
          rfl
    · simp only
      rw [decide_eq_false (show ¬ (i : Int) < (l.length : Int) by omega), List.drop_eq_nil_of_le (by omega)]
      simp
theorem rdrop_eq {l : List S30} {br : Bool} (h : good l br) (a p : Int) : RDrop.f 1000 ⟨l, br⟩ a p = some ⟨l.filter (keepE a p), br⟩ := by
  have h1 := h.1
  have := rdrop_l1 (a0 := ⟨l, br⟩) (br := br) (a := a) (p := p) (fun x hx => (h.2.1 x hx).1) h.1 1000 0 [] (by omega) (by omega) (by simp)
  rw [List.drop_zero, List.nil_append] at this
  exact this
theorem rdrop_page {l : List S30} {br : Bool} (h : good l br) (a p : Int) (hp : 0 ≤ p) : RDrop.f 1000 ⟨l, br⟩ a p = some ⟨l.filter (fun x => !decide (ofE x a p)), br⟩ := by
  rw [rdrop_eq h]
  congr 3
  funext x
  unfold keepE
  rw [decide_eq_false (show ¬ p < 0 by omega)]
  simp
theorem rdrop_space {l : List S30} {br : Bool} (h : good l br) (a : Int) : RDrop.f 1000 ⟨l, br⟩ a (-1) = some ⟨l.filter (fun x => !(x.f0 == a)), br⟩ := by
  rw [rdrop_eq h]
  have : l.filter (keepE a (-1)) = l.filter (fun x => !(x.f0 == a)) := by
    refine List.filter_congr (fun x hx => ?_)
    have hx := (h.2.1 x hx).1
    have hno : ¬ ofE x a (-1) := fun g => by have := hx.2.2.1; have := g.2.1; omega
    unfold keepE
    rw [decide_eq_false hno]
    simp
  rw [this]
theorem rfind_l1 {a0 : Buf} {l : List S30} {br : Bool} {a p : Int} (hl : ∀ x ∈ l, okE x) (hn : l.length ≤ 64) : ∀ (n i : Nat), i ≤ l.length → l.length - i < n →
    RFind.l1 1000 a0 a p n ⟨l, br⟩ i = some (match (l.drop i).findIdx? (fun x => decide (ofE x a p)) with | some j => (⟨l, br⟩, l.getD (i + j) z30, true) | none => (⟨l, br⟩, z30, false)) := by
  intro n
  induction n with
  | zero => intro i h0 h1; omega
  | succ n ih =>
    intro i h0 h1
    unfold RFind.l1
    by_cases c : i < l.length
    · simp only
      rw [decide_eq_true (show (i : Int) < (l.length : Int) by omega), decide_eq_true (show 0 ≤ (i : Int) by omega)]
      simp only [cond_true, Bool.and_self, Int.toNat_natCast]
      rw [getD_at c, refIs _ a p (hl _ (List.getElem_mem c)), Option.bind_some, ← List.getElem_cons_drop c, List.findIdx?_cons, wrap_small (x := (i : Int) + 1) (by omega) (by omega)]
      by_cases d : ofE l[i] a p
      · rw [decide_eq_true d]
        simp only [cond_true, if_true, Nat.add_zero]
        rw [getD_at c]
      · rw [decide_eq_false d]
        simp only [cond_false, Bool.false_eq_true, if_false]
        have h3 := ih (i + 1) (by omega) (by omega)
        rw [show ((i + 1 : Nat) : Int) = (i : Int) + 1 by omega] at h3
        rw [h3]
        cases (l.drop (i + 1)).findIdx? (fun x => decide (ofE x a p)) with
        | none => rfl
        | some j =>
          show some ((⟨l, br⟩ : Buf), l.getD (i + 1 + j) z30, true) = some ((⟨l, br⟩ : Buf), l.getD (i + (j + 1)) z30, true)
          rw [Nat.add_assoc, Nat.add_comm 1 j]
    · simp only
      rw [decide_eq_false (show ¬ (i : Int) < (l.length : Int) by omega), List.drop_eq_nil_of_le (by omega)]
      rfl
theorem rfind_eq {l : List S30} {br : Bool} (h : good l br) (a p : Int) : RFind.f 1000 ⟨l, br⟩ a p = some (match l.findIdx? (fun x => decide (ofE x a p)) with | some i => (⟨l, br⟩, l.getD i z30, true) | none => (⟨l, br⟩, z30, false)) := by
  have h1 := h.1
  have := rfind_l1 (a0 := ⟨l, br⟩) (br := br) (a := a) (p := p) (fun x hx => (h.2.1 x hx).1) h.1 1000 0 (by omega) (by omega)
  rw [List.drop_zero] at this
  refine Eq.trans (show RFind.f 1000 ⟨l, br⟩ a p = RFind.l1 1000 ⟨l, br⟩ a p 1000 ⟨l, br⟩ (0 : Nat) from rfl) (this.trans ?_)
  cases l.findIdx? (fun x => decide (ofE x a p)) with
  | none => rfl
  | some i => simp only [Nat.zero_add]
theorem same_l1 {a0 a1 : Buf} {l : List S30} {br : Bool} (hn : l.length ≤ 64) : ∀ (n i : Nat), i ≤ l.length → l.length - i < n →
    same.l1 1000 a0 a1 (⟨l, br⟩, l) n ⟨l, br⟩ ⟨l, br⟩ i = some (⟨l, br⟩, ⟨l, br⟩, true) := by
  intro n
  induction n with
  | zero => intro i h0 h1; omega
  | succ n ih =>
    intro i h0 h1
    unfold same.l1
    by_cases c : i < l.length
    · simp only
      rw [decide_eq_true (show (i : Int) < (l.length : Int) by omega), decide_eq_true (show 0 ≤ (i : Int) by omega)]
      simp only [cond_true, Bool.and_self, Int.toNat_natCast]
      rw [eqB, decide_eq_true rfl, wrap_small (x := (i : Int) + 1) (by omega) (by omega)]
      have h3 := ih (i + 1) (by omega) (by omega)
      rw [show ((i + 1 : Nat) : Int) = (i : Int) + 1 by omega] at h3
      exact h3
    · simp only
      rw [decide_eq_false (show ¬ (i : Int) < (l.length : Int) by omega)]
      rfl
theorem same_eq {l : List S30} {br : Bool} (h : good l br) : same.f 1000 ⟨l, br⟩ ⟨l, br⟩ = some (⟨l, br⟩, ⟨l, br⟩, true) := by
  have h1 := h.1
  unfold same.f
  rw [entries_eq h, Option.bind_some]
  have e : ((l.length : Int) != (l.length : Int)) = false := by simp
  simp only [e, cond_false]
  have hb : Broken.f 1000 ⟨l, br⟩ = some (⟨l, br⟩, br) := rfl
  rw [hb, Option.bind_some]
  simp only [beq_self_eq_true, Bool.not_true, cond_false]
  exact same_l1 h.1 1000 0 (by omega) (by omega)
theorem del_eq {A B : List S30} {x : S30} (k : Nat) (hl : A.length + B.length < 1000) : Delete.f k (A ++ x :: B) (A.length : Int) ((A.length : Int) + 1) = some (A ++ B) := by
  have e1 : ((A.length : Int) + 1).toNat = A.length + 1 := by omega
  have e2 : (((A ++ x :: B).length : Nat) : Int).toNat = A.length + (B.length + 1) := by simp; omega
  have hL : (A ++ x :: B).length = A.length + (B.length + 1) := by simp
  have b2 : ((A.length : Int) == (A.length : Int) + 1) = false := by simp; omega
  unfold Delete.f
  simp only [Int.toNat_natCast, e1, e2, b2, cond_false, Nat.zero_add, Nat.sub_zero, List.length_map]
  have t1 : List.take A.length (A ++ x :: B) = A := by simp
  have d1 : List.drop (A.length + 1) (A ++ x :: B) = B := by rw [List.drop_append]; simp
  have tB : List.take ((A ++ x :: B).length - (A.length + 1)) B = B := List.take_of_length_le (by rw [hL]; omega)
  rw [t1, d1, tB]
  generalize hD : List.drop (A.length + B.length) (A ++ x :: B) = D
  have hDl : D.length = 1 := by rw [← hD, List.length_drop, hL]; omega
  have hg : (A ++ (B ++ D)).length = A.length + (B.length + 1) := by simp [hDl]
  have t2 : List.take (A.length + B.length) (A ++ (B ++ D)) = A ++ B := by rw [← List.append_assoc, List.take_append_of_le_length (by simp)]; exact List.take_of_length_le (by simp)
  rw [t2, List.take_append_of_le_length (by simp), List.take_of_length_le (by simp), hg, hL]
  simp only [decide_eq_true (show 0 ≤ (A.length : Int) by omega), decide_eq_true (show 0 ≤ (A.length : Int) + 1 by omega), decide_eq_true (show (0 : Int) ≤ ((A.length + (B.length + 1) : Nat) : Int) by omega), decide_eq_true (show A.length ≤ A.length + 1 by omega), decide_eq_true (show A.length + 1 ≤ A.length + (B.length + 1) by omega), decide_eq_true (Nat.le_refl (A.length + (B.length + 1))), decide_eq_true (show A.length ≤ A.length + (B.length + 1) by omega), decide_eq_true (show A.length + B.length ≤ A.length + (B.length + 1) by omega), decide_eq_true (show (0 : Int) ≤ ((A.length + B.length : Nat) : Int) by omega), Bool.and_self, cond_true]
def outE (l : List S30) (n : Int) : List S30 := if 0 ≤ n ∧ n < (l.length : Int) then l.take n.toNat ++ l.drop (n.toNat + 1) else l
theorem evict_eq {l : List S30} {br : Bool} (h : good l br) (n : Int) : Evict.f 1000 ⟨l, br⟩ n = some (⟨outE l n, br⟩, if 0 ≤ n ∧ n < (l.length : Int) then none else some 3) := by
  have h1 := h.1
  unfold Evict.f outE
  by_cases c : n < 0
  · rw [decide_eq_true c, if_neg (by omega), if_neg (by omega)]; rfl
  rw [decide_eq_false c]
  simp only [cond_false]
  by_cases d : n ≥ (l.length : Int)
  · rw [decide_eq_true d, if_neg (by omega), if_neg (by omega)]; rfl
  rw [decide_eq_false d, if_pos (by omega), if_pos (by omega), clone_eq (by omega), Option.bind_some, wrap_small (by omega) (by omega)]
  obtain ⟨m, rfl⟩ : ∃ m : Nat, n = m := ⟨n.toNat, by omega⟩
  have hm : m < l.length := by omega
  have hs : l = l.take m ++ l[m] :: l.drop (m + 1) := by rw [List.getElem_cons_drop hm, List.take_append_drop]
  have hA : (l.take m).length = m := by rw [List.length_take]; omega
  have := del_eq (A := l.take m) (B := l.drop (m + 1)) (x := l[m]) 1000 (by rw [hA, List.length_drop]; omega)
  rw [← hs, hA] at this
  simp only [cond_false, Int.toNat_natCast]
  rw [this]
  rfl
theorem outE_sub (l : List S30) (n : Int) : (outE l n).Sublist l := by
  unfold outE
  split
  · have := (List.Sublist.refl (l.take n.toNat)).append (List.drop_sublist_drop_left l (show n.toNat ≤ n.toNat + 1 by omega))
    rw [List.take_append_drop] at this
    exact this
  · exact List.Sublist.refl l
theorem sub_good {l l2 : List S30} {br : Bool} (h : good l br) (hs : l2.Sublist l) : good l2 br :=
  ⟨Nat.le_trans hs.length_le h.1, fun x hx => h.2.1 x (hs.subset hx), fun hb => (h.2.2 hb).sublist hs⟩
theorem pick_eq (n m : Int) (h0 : -9223372036854775808 ≤ n) (h1 : n ≤ 9223372036854775807) (hm : 0 < m) : ∃ q, paviorlaw05_pick.f n m = some q ∧ 0 ≤ q ∧ q < m := by
  unfold paviorlaw05_pick.f
  by_cases c : n < 0
  · rw [if_pos c, if_neg (by omega), wrap64_of (n := n + 1) (by omega) (by omega), wrap64_of (by omega) (by omega)]
    exact ⟨_, rfl, Int.tmod_nonneg _ (by omega), Int.tmod_lt_of_pos _ hm⟩
  · rw [if_neg c, if_neg (by omega)]
    exact ⟨_, rfl, Int.tmod_nonneg _ (by omega), Int.tmod_lt_of_pos _ hm⟩
end Go.Proofs.Ytfbjhioefkimbaa.V
