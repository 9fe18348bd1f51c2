/- A buffer holds, finds and lets go what the document says: the plain law of TlbPlays. -/
import Derived.Test.YtfbjhioefkimbaaTlbRef
namespace Go.Proofs.Ytfbjhioefkimbaa.V
open Go Go.RowKit Go.Proofs Go.Proofs.Ytfbjhioefkimbaa.Q Go.Proofs.Ytfbjhioefkimbaa.TlbLib Go.Proofs.YtfbjhioefkimbaaW.PrintWords Go.Proofs.Ytfbjhioefkimbaa.Bits
set_option linter.unusedVariables false
set_option linter.unusedSimpArgs false
set_option maxRecDepth 100000
def wfD (d : D9) : Prop := (-9223372036854775808 ≤ d.w ∧ d.w ≤ 9223372036854775807) ∧ wfE d.e ∧ (-9223372036854775808 ≤ d.n ∧ d.n ≤ 9223372036854775807) ∧ d.p ≤ 9223372036854775807
theorem plays_j2 {a0 : List D9} {r1 : Bool} {r2 v3 v4 : Buf} {v5 q : Int} (h0 : 0 ≤ q) : TlbPlays.j2 1000 a0 r1 r2 v3 v4 v5 q = some (decide (q < 4)) := by
  unfold TlbPlays.j2
  by_cases c0 : q = 0
  · subst c0; rfl
  by_cases c1 : q = 1
  · subst c1; rfl
  by_cases c2 : q = 2
  · subst c2; rfl
  rw [beq_eq_false_iff_ne.mpr c0, beq_eq_false_iff_ne.mpr c1, beq_eq_false_iff_ne.mpr c2]
  simp only [cond_false]
  by_cases c3 : q = 3
  · subst c3; rfl
  · rw [beq_eq_false_iff_ne.mpr c3, decide_eq_false (by omega)]
theorem fillE_ok {l : List S30} {br : Bool} {e : S30} (h : okE e) : (fillE l br e).1 = none := by
  unfold fillE
  rw [if_pos h]
  split <;> rfl
theorem fillE_no {l : List S30} {br : Bool} {e : S30} (h : ¬ okE e) : fillE l br e = (some 1, l, br) := by
  unfold fillE
  rw [if_neg h]
theorem plays_j4 {a0 : List D9} {r1 : Bool} {r2 v3 : Buf} {i q : Int} {y : Bool} {r : Buf × Option Int} {l : List S30} {br : Bool} {n : Int} (hn : (a0.getD i.toNat zD).n = n) (h : good l br) (h0 : 0 ≤ n) : TlbPlays.j4 1000 a0 r1 r2 v3 ⟨l, br⟩ i q y r = some ⟨outE l n, br⟩ := by
  have h1 := h.1
  unfold TlbPlays.j4
  rw [hn]
  simp only
  by_cases c : n < (l.length : Int)
  · obtain ⟨m, rfl⟩ : ∃ m : Nat, n = m := ⟨n.toNat, by omega⟩
    have hm : m < l.length := by omega
    rw [decide_eq_true c, wrap_small (x := (m : Int) + 1) (by omega) (by omega)]
    have e1 : ((m : Int) + 1).toNat = m + 1 := by omega
    simp only [cond_true, Int.toNat_natCast, e1, List.length_map, Nat.add_zero, Nat.sub_zero, List.drop_zero, Nat.zero_add]
    rw [decide_eq_true h0, decide_eq_true (show m ≤ l.length by omega), decide_eq_true (show (l.take m).length ≤ 1000000 by rw [List.length_take]; omega), decide_eq_true (show 0 ≤ (m : Int) + 1 by omega), decide_eq_true (show m + 1 ≤ l.length by omega), decide_eq_true (show (l.take m).length + ((l.drop (m + 1)).take (l.length - (m + 1))).length ≤ 1000000 by rw [List.length_take, List.length_take, List.length_drop]; omega)]
    simp only [cond_true, Bool.and_self]
    rw [List.take_of_length_le (show (l.drop (m + 1)).length ≤ l.length - (m + 1) by rw [List.length_drop]; omega)]
    unfold outE
    rw [if_pos ⟨h0, c⟩]
    simp
  · rw [decide_eq_false c]
    unfold outE
    rw [if_neg (fun h => c h.2)]
    rfl
theorem plays_j1 {a0 : List D9} {r1 : Bool} {r2 : Buf} {i : Int} {l : List S30} {br : Bool} (h : good l br) (hd : wfD (a0.getD i.toNat zD)) :
    ∃ l2 br2, good l2 br2 ∧ TlbPlays.j1 1000 a0 r1 r2 ⟨l, br⟩ ⟨l, br⟩ i = some (Sum.inl (⟨l2, br2⟩, ⟨l2, br2⟩)) := by
  have hlen := h.1
  unfold TlbPlays.j1
  generalize hdd : a0.getD i.toNat zD = d at hd
  obtain ⟨⟨w1, w2⟩, we, ⟨n1, n2⟩, p1⟩ := hd
  obtain ⟨q, hq, q0, q1⟩ := pick_eq d.w 8 w1 w2 (by omega)
  rw [hq, Option.bind_some, plays_j2 q0, Option.bind_some]
  by_cases c : q < 4
  · rw [decide_eq_true c]
    simp only [cond_true]
    rw [fill_eq hlen we (fun x hx => (h.2.1 x hx).2), Option.bind_some, refMayAll 999 d.e, Option.bind_some]
    by_cases ok : okE d.e
    · rw [decide_eq_true ok]
      have hj3 : TlbPlays.j3 1000 a0 r1 r2 ⟨l, br⟩ ⟨l, br⟩ i q true (⟨(fillE l br d.e).2.1, (fillE l br d.e).2.2⟩, (fillE l br d.e).1) true = some ⟨(fillE l br d.e).2.1, (fillE l br d.e).2.2⟩ := by
        unfold TlbPlays.j3
        rw [hdd]
        simp only [cond_true]
        rw [rfill_eq ok we h]
        rfl
      rw [hj3, Option.bind_some]
      simp only [fillE_ok ok]
      exact ⟨_, _, fill_good h we, rfl⟩
    · rw [decide_eq_false ok, fillE_no ok]
      exact ⟨l, br, h, rfl⟩
  rw [decide_eq_false c]
  simp only [cond_false]
  by_cases c4 : q = 4
  · rw [beq_iff_eq.mpr c4]
    simp only [cond_true]
    rw [evict_eq h, Option.bind_some]
    by_cases g : d.n ≥ 0
    · rw [decide_eq_true g]
      simp only [cond_true]
      rw [plays_j4 (n := d.n) (by rw [hdd]) h g, Option.bind_some]
      by_cases g2 : d.n < (l.length : Int)
      · rw [if_pos ⟨g, g2⟩, decide_eq_true g2]
        exact ⟨_, _, sub_good h (outE_sub l d.n), rfl⟩
      · rw [if_neg (fun x => g2 x.2), decide_eq_false g2]
        exact ⟨_, _, sub_good h (outE_sub l d.n), rfl⟩
    · rw [decide_eq_false g, if_neg (fun x => g x.1)]
      have e : outE l d.n = l := by unfold outE; rw [if_neg (fun x => g x.1)]
      rw [e]
      exact ⟨l, br, h, rfl⟩
  rw [beq_eq_false_iff_ne.mpr c4]
  simp only [cond_false]
  by_cases c5 : q = 5
  · rw [beq_iff_eq.mpr c5]
    simp only [cond_true]
    rw [page_eq h d.n d.p p1, Option.bind_some]
    by_cases g : d.p ≥ 0
    · rw [decide_eq_true g]
      simp only [cond_true]
      rw [rdrop_page h d.n d.p g, Option.bind_some]
      exact ⟨_, _, filter_good h _, rfl⟩
    · rw [decide_eq_false g]
      have e : l.filter (fun x => !decide (ofE x d.n d.p)) = l := by
        rw [List.filter_eq_self]
        intro x hx
        have h2 := (h.2.1 x hx).1.2.2.1
        rw [decide_eq_false (fun g2 => by have := g2.2.1; omega)]
        rfl
      rw [e]
      exact ⟨l, br, h, rfl⟩
  rw [beq_eq_false_iff_ne.mpr c5]
  simp only [cond_false]
  by_cases c6 : q = 6
  · rw [beq_iff_eq.mpr c6]
    simp only [cond_true]
    rw [space_eq h d.n, Option.bind_some, rdrop_space h d.n, Option.bind_some]
    exact ⟨_, _, filter_good h _, rfl⟩
  rw [beq_eq_false_iff_ne.mpr c6]
  simp only [cond_false]
  obtain ⟨q2, hq2, _, _⟩ := pick_eq d.n 8 n1 n2 (by omega)
  rw [hq2, Option.bind_some]
  cases hz : (q2 == 0) with
  | false => exact ⟨l, br, h, rfl⟩
  | true => exact ⟨[], br, sub_good h (List.nil_sublist l), rfl⟩
theorem plays_find {l : List S30} {br : Bool} (h : good l br) (a p : Int) (hp : p ≤ 9223372036854775807) : ∃ e b, Find.f 1000 ⟨l, br⟩ a p = some (⟨l, br⟩, e, b) ∧ RFind.f 1000 ⟨l, br⟩ a p = some (⟨l, br⟩, e, b) := by
  rw [find_eq h a p hp, rfind_eq h a p]
  cases l.findIdx? (fun x => decide (ofE x a p)) with
  | none => exact ⟨_, _, rfl, rfl⟩
  | some i => exact ⟨_, _, rfl, rfl⟩
theorem plays_go {a0 : List D9} {r2 : Buf} (hw : ∀ d ∈ a0, wfD d) : ∀ (n i : Nat) (l : List S30) (br : Bool), good l br → i ≤ 120 → 120 - i < n → TlbPlays.l1 1000 a0 true r2 n ⟨l, br⟩ ⟨l, br⟩ i = some true := by
  intro n
  induction n with
  | zero => intro i l br h h0 h1; omega
  | succ n ih =>
    intro i l br h h0 h1
    unfold TlbPlays.l1
    by_cases c : i < a0.length
    · rw [decide_eq_true (show (i : Int) < (a0.length : Int) by omega)]
      simp only [cond_true]
      by_cases c2 : i < 120
      · have hd : wfD (a0.getD (i : Int).toNat zD) := by
          rw [Int.toNat_natCast, List.getD_eq_getElem?_getD, List.getElem?_eq_getElem c]
          exact hw _ (List.getElem_mem c)
        obtain ⟨l2, br2, hg, hj⟩ := plays_j1 (a0 := a0) (r1 := true) (r2 := r2) (i := (i : Int)) h hd
        obtain ⟨e, b, f1, f2⟩ := plays_find hg (a0.getD (i : Int).toNat zD).n (a0.getD (i : Int).toNat zD).p hd.2.2.2
        rw [decide_eq_true (show (i : Int) < 120 by omega), decide_eq_true (show 0 ≤ (i : Int) by omega), hj, Option.bind_some]
        simp only [cond_true, Bool.and_self, Sum.elim_inl]
        rw [f1, Option.bind_some, f2, Option.bind_some]
        simp only [beq_self_eq_true, Bool.not_true, cond_false, Bool.and_self]
        rw [same_eq hg, Option.bind_some, wrap_small (x := (i : Int) + 1) (by omega) (by omega)]
        have h3 := ih (i + 1) l2 br2 hg (by omega) (by omega)
        rw [show ((i + 1 : Nat) : Int) = (i : Int) + 1 by omega] at h3
        simp only [Bool.not_true, cond_false]
        exact h3
      · rw [decide_eq_false (show ¬ (i : Int) < 120 by omega)]
        rfl
    · rw [decide_eq_false (show ¬ (i : Int) < (a0.length : Int) by omega)]
      rfl
theorem TlbPlays.plain (a0 : List D9) (hw : ∀ d ∈ a0, wfD d) : TlbPlays.f 1000 a0 = some true := by
  unfold TlbPlays.f
  rw [up_true, Option.bind_some]
  have hn : New.f = some ⟨[], false⟩ := rfl
  rw [hn, Option.bind_some]
  exact plays_go hw 1000 0 [] false good_nil (by omega) (by omega)
end Go.Proofs.Ytfbjhioefkimbaa.V
