/- Layer 5: what a buffer's functions compute (their forms as vgen prints them). -/
import Derived.Test.YtfbjhioefkimbaaB0
import Derived.Test.YtfbjhioefkimbaaTlbPart
namespace Go.Proofs.Ytfbjhioefkimbaa.V
open Go Go.RowKit Go.Proofs Go.Proofs.Ytfbjhioefkimbaa.Q Go.Proofs.Ytfbjhioefkimbaa.TlbLib Go.Proofs.YtfbjhioefkimbaaW.PrintWords Go.Proofs.Ytfbjhioefkimbaa.Bits
set_option linter.unusedVariables false
set_option linter.unusedSimpArgs false
set_option maxRecDepth 100000
instance : DecidableEq S30 := fun x y => decidable_of_iff (x.f0 = y.f0 ∧ x.f1 = y.f1 ∧ x.f2 = y.f2 ∧ x.f3 = y.f3 ∧ x.f4 = y.f4 ∧ x.f5 = y.f5) (by cases x; cases y; simp)
theorem eqB (x y : S30) : (x.f0 == y.f0 && (x.f1 == y.f1 && (x.f2 == y.f2 && (x.f3 == y.f3 && (x.f4 == y.f4 && (x.f5 == y.f5)))))) = decide (x = y) := by
  cases x; cases y
  rw [Bool.eq_iff_iff]
  simp
def cutE (l : List S30) : List S30 := if l.length = 64 then l.drop 1 else l
def fillE (l : List S30) (br : Bool) (e : S30) : Option Int × List S30 × Bool :=
  if okE e then (if e ∈ l then (none, l, br) else (none, cutE l ++ [e], br || (cutE l).any (clashE · e))) else (some 1, l, br)
theorem cut_mem {l : List S30} {x : S30} (h : x ∈ cutE l) : x ∈ l := by
  unfold cutE at h
  split at h
  · exact List.mem_of_mem_drop h
  · exact h
theorem cut_len (l : List S30) : (cutE l).length ≤ l.length := by
  unfold cutE
  split
  · rw [List.length_drop]; omega
  · exact Nat.le_refl _
theorem fillE_len (l : List S30) (br : Bool) (e : S30) (h : l.length ≤ 64) : (fillE l br e).2.1.length ≤ 64 := by
  unfold fillE
  split
  · split
    · exact h
    · simp only [List.length_append, List.length_singleton]
      unfold cutE
      split
      · rw [List.length_drop]; omega
      · omega
  · exact h
def good (l : List S30) (br : Bool) : Prop := l.length ≤ 64 ∧ (∀ x ∈ l, okE x ∧ wfE x) ∧ (br = false → l.Pairwise (fun x y => clashE x y = false))
theorem good_nil : good [] false := ⟨by decide, by simp, fun _ => List.Pairwise.nil⟩
theorem cut_sub (l : List S30) : (cutE l).Sublist l := by
  unfold cutE
  split
  · exact List.drop_sublist 1 l
  · exact List.Sublist.refl l
theorem fill_good {l : List S30} {br : Bool} {e : S30} (h : good l br) (he : wfE e) : good (fillE l br e).2.1 (fillE l br e).2.2 := by
  obtain ⟨h1, h2, h3⟩ := h
  refine ⟨fillE_len l br e h1, ?_, ?_⟩
  · unfold fillE
    split
    · rename_i ok
      split
      · exact h2
      · intro x hx
        rcases List.mem_append.mp hx with h | h
        · exact h2 x (cut_mem h)
        · rw [List.mem_singleton] at h; rw [h]; exact ⟨ok, he⟩
    · exact h2
  · unfold fillE
    split
    · split
      · exact h3
      · intro hb
        simp only [Bool.or_eq_false_iff] at hb
        obtain ⟨hb, ha⟩ := hb
        rw [List.pairwise_append]
        refine ⟨(h3 hb).sublist (cut_sub l), List.pairwise_singleton _ _, ?_⟩
        intro x hx y hy
        rw [List.mem_singleton] at hy
        rw [hy]
        have := List.any_eq_false.mp ha x hx
        simpa using this
    · exact h3
theorem filter_good {l : List S30} {br : Bool} (h : good l br) (q : S30 → Bool) : good (l.filter q) br :=
  ⟨Nat.le_trans (List.length_filter_le q l) h.1, fun x hx => h.2.1 x ((List.mem_filter.mp hx).1), fun hb => (h.2.2 hb).sublist List.filter_sublist⟩
theorem dels.stay (l l1 : List (S30)) (φ : S30 → Bool) (i j : Nat) (x : S30) (hx : l[j]? = some x) (hq : φ x = true) (h2 : l1.take i = (l.take j).filter (fun x => !φ x)) (h3 : l1.drop j = l.drop j) : l1.take i = (l.take (j + 1)).filter (fun x => !φ x) ∧ l1.drop (j + 1) = l.drop (j + 1) := by
  refine ⟨?_, ?_⟩
  · rw [List.take_add_one, hx, List.filter_append, h2]
    simp [hq]
  · have := congrArg (List.drop 1) h3
    rwa [List.drop_drop, List.drop_drop] at this
theorem dels.move (l l1 : List (S30)) (φ : S30 → Bool) (i j : Nat) (x : S30) (hi : i < j) (hj : j < l1.length) (hx : l[j]? = some x) (hq : φ x = false) (h2 : l1.take i = (l.take j).filter (fun x => !φ x)) (h3 : l1.drop j = l.drop j) : (l1.set i x).take (i + 1) = (l.take (j + 1)).filter (fun x => !φ x) ∧ (l1.set i x).drop (j + 1) = l.drop (j + 1) := by
  refine ⟨?_, ?_⟩
  · rw [List.take_add_one (l := l), hx, List.filter_append, ← h2, List.take_add_one, List.take_set_of_le (Nat.le_refl i), List.getElem?_set_self (by omega)]
    simp [hq]
  · rw [List.drop_set_of_lt (by omega)]
    have := congrArg (List.drop 1) h3
    rwa [List.drop_drop, List.drop_drop] at this
theorem dels.first (l : List (S30)) (φ : S30 → Bool) (i : Nat) (h : l.findIdx? φ = some i) : i < l.length ∧ l.take i = (l.take (i + 1)).filter (fun x => !φ x) := by
  obtain ⟨hi, hp, hb⟩ := List.findIdx?_eq_some_iff_getElem.mp h
  refine ⟨hi, ?_⟩
  rw [List.take_add_one, List.getElem?_eq_getElem hi, List.filter_append]
  have : (l.take i).filter (fun x => !φ x) = l.take i := by
    rw [List.filter_eq_self]
    intro a ha
    obtain ⟨j, hj, rfl⟩ := List.getElem_of_mem ha
    rw [List.getElem_take]
    have hj' : j < i := by rw [List.length_take] at hj; omega
    simpa using hb j hj'
  rw [this]
  simp [hp]
theorem dels.all (l : List (S30)) (φ : S30 → Bool) (h : l.findIdx? φ = none) : l.filter (fun x => !φ x) = l := by
  rw [List.findIdx?_eq_none_iff] at h
  rw [List.filter_eq_self]
  intro a ha
  simp [h a ha]
theorem wrap_small {x : Int} (h0 : 0 ≤ x) (h1 : x < 1000000) : IntKind.i64.wrap x = x := by
  simp only [IntKind.wrap, IntKind.bits, IntKind.signed]
  simp
  omega
theorem getD_at {l : List S30} {i : Nat} (h : i < l.length) : l.getD i z30 = l[i] := by rw [List.getD_eq_getElem?_getD, List.getElem?_eq_getElem h]; rfl
theorem clone_eq {k : Nat} {l : List S30} (h : l.length ≤ 1000) : Clone.f k l = some l := by
  unfold Clone.f
  rw [decide_eq_true (by simp; omega)]
  rfl
def idxI (o : Option Nat) : Int := match o with | some i => i | none => -1
theorem index_go {k : Nat} {l : List S30} {φ : S30 → Option Bool} {ψ : S30 → Bool} (hs : ∀ x ∈ l, φ x = some (ψ x)) (hl : l.length < 1000) : ∀ (n i : Nat), i ≤ l.length → l.length - i < n → IndexFunc.l1 k l φ n i = some (match (l.drop i).findIdx? ψ with | some j => ((i + j : Nat) : Int) | none => -1) := by
  intro n
  induction n with
  | zero => intro i h0 h1; omega
  | succ n ih =>
    intro i h0 h1
    unfold IndexFunc.l1
    by_cases c : i < l.length
    · rw [decide_eq_true (show (i : Int) < (l.length : Int) by omega), decide_eq_true (show 0 ≤ (i : Int) by omega)]
      simp only [cond_true, Bool.and_self, Int.toNat_natCast]
      rw [getD_at c, hs _ (List.getElem_mem c), Option.bind_some, ← List.getElem_cons_drop c, List.findIdx?_cons]
      cases h : ψ l[i] with
      | true => simp
      | false =>
        simp only [cond_false, Bool.false_eq_true, if_false]
        rw [wrap_small (x := (i : Int) + 1) (by omega) (by omega)]
        have := ih (i + 1) (by omega) (by omega)
        rw [show ((i + 1 : Nat) : Int) = (i : Int) + 1 by omega] at this
        rw [this]
        cases (l.drop (i + 1)).findIdx? ψ with
        | none => rfl
        | some j =>
          show some (((i + 1 + j : Nat) : Int)) = some (((i + (j + 1) : Nat) : Int))
          rw [Nat.add_assoc, Nat.add_comm 1 j]
    · rw [decide_eq_false (show ¬ (i : Int) < (l.length : Int) by omega), List.drop_eq_nil_of_le (by omega)]
      rfl
theorem index_eqK {k : Nat} {l : List S30} {φ : S30 → Option Bool} {ψ : S30 → Bool} (hk : l.length < k) (hs : ∀ x ∈ l, φ x = some (ψ x)) (hl : l.length < 1000) : IndexFunc.f k l φ = some (idxI (l.findIdx? ψ)) := by
  have := index_go (k := k) hs hl k 0 (by omega) (by omega)
  rw [List.drop_zero] at this
  refine Eq.trans (show IndexFunc.f k l φ = IndexFunc.l1 k l φ k (0 : Nat) from rfl) (this.trans ?_)
  cases l.findIdx? ψ <;> simp [idxI]
theorem index_eq {l : List S30} {φ : S30 → Option Bool} {ψ : S30 → Bool} (hs : ∀ x ∈ l, φ x = some (ψ x)) (hl : l.length < 1000) : IndexFunc.f 1000 l φ = some (idxI (l.findIdx? ψ)) := index_eqK hl hs hl
theorem containsf_eq {l : List S30} {φ : S30 → Option Bool} {ψ : S30 → Bool} (hs : ∀ x ∈ l, φ x = some (ψ x)) (hl : l.length < 1000) : ContainsFunc.f 1000 l φ = some (l.any ψ) := by
  unfold ContainsFunc.f
  rw [index_eq hs hl, Option.bind_some]
  refine congrArg some ?_
  cases h : l.findIdx? ψ with
  | none =>
    rw [List.findIdx?_eq_none_iff] at h
    rw [show l.any ψ = false from List.any_eq_false.mpr (fun x hx => by simp [h x hx])]
    rfl
  | some i =>
    obtain ⟨hi, hp, _⟩ := List.findIdx?_eq_some_iff_getElem.mp h
    rw [show l.any ψ = true from List.any_eq_true.mpr ⟨_, List.getElem_mem hi, hp⟩]
    exact decide_eq_true (show (i : Int) ≥ 0 by omega)
theorem index1_go {k : Nat} {l : List S30} {e : S30} (hl : l.length < 1000) : ∀ (n i : Nat), i ≤ l.length → l.length - i < n → ∃ r : Int, Index.l1 k l e n i = some r ∧ (0 ≤ r ↔ e ∈ l.drop i) := by
  intro n
  induction n with
  | zero => intro i h0 h1; omega
  | succ n ih =>
    intro i h0 h1
    unfold Index.l1
    by_cases c : i < l.length
    · rw [decide_eq_true (show (i : Int) < (l.length : Int) by omega), decide_eq_true (show 0 ≤ (i : Int) by omega)]
      simp only [cond_true, Bool.and_self, Int.toNat_natCast]
      rw [getD_at c, eqB e l[i], ← List.getElem_cons_drop c]
      by_cases h : e = l[i]
      · rw [decide_eq_true h]
        exact ⟨i, rfl, by simp [← h]⟩
      · rw [decide_eq_false h, wrap_small (x := (i : Int) + 1) (by omega) (by omega)]
        obtain ⟨r, h2, h3⟩ := ih (i + 1) (by omega) (by omega)
        refine ⟨r, h2, ?_⟩
        rw [List.mem_cons, h3]
        simp [h]
    · rw [decide_eq_false (show ¬ (i : Int) < (l.length : Int) by omega), List.drop_eq_nil_of_le (by omega)]
      exact ⟨-1, rfl, by simp⟩
theorem contains_eq {l : List S30} {e : S30} (hl : l.length < 1000) : Contains.f 1000 l e = some (decide (e ∈ l)) := by
  obtain ⟨r, h1, h2⟩ := index1_go (k := 1000) (l := l) (e := e) hl 1000 0 (by omega) (by omega)
  have h3 : Index.f 1000 l e = some r := h1
  unfold Contains.f
  rw [h3, Option.bind_some]
  rw [List.drop_zero] at h2
  exact congrArg some (decide_eq_decide.mpr h2)
theorem delete_go {k : Nat} {l : List S30} {φ : S30 → Option Bool} {ψ : S30 → Bool} {r1 : Int} (hs : ∀ x ∈ l, φ x = some (ψ x)) (hl : l.length < 1000) : ∀ (n i j : Nat) (l1 : List S30), i < j → j ≤ l.length → l.length - j < n → l1.length = l.length → l1.take i = (l.take j).filter (fun x => !ψ x) → l1.drop j = l.drop j →
    DeleteFunc.l1 k l φ r1 n l1 i j = some (l.filter (fun x => !ψ x)) := by
  intro n
  induction n with
  | zero => intro i j l1 h0 h1 h2; omega
  | succ n ih =>
    intro i j l1 h0 h1 h2 h3 h4 h5
    unfold DeleteFunc.l1
    by_cases c : j < l.length
    · have hx : l[j]? = some l[j] := List.getElem?_eq_getElem c
      have hx1 : l1[j]? = some l[j] := by
        have := congrArg (fun q => q[0]?) h5
        simpa [List.getElem?_drop, hx] using this
      have hg : l1.getD j z30 = l[j] := by rw [List.getD_eq_getElem?_getD, hx1]; rfl
      rw [decide_eq_true (show (j : Int) < (l1.length : Int) by omega), decide_eq_true (show 0 ≤ (j : Int) by omega)]
      simp only [cond_true, Bool.and_self, Int.toNat_natCast]
      rw [hg, hs _ (List.getElem_mem c), Option.bind_some, wrap_small (x := (j : Int) + 1) (by omega) (by omega)]
      cases hq : ψ l[j] with
      | true =>
        obtain ⟨g1, g2⟩ := dels.stay l l1 ψ i j l[j] hx hq h4 h5
        exact ih i (j + 1) l1 (by omega) (by omega) (by omega) h3 g1 g2
      | false =>
        obtain ⟨g1, g2⟩ := dels.move l l1 ψ i j l[j] h0 (by omega) hx hq h4 h5
        rw [decide_eq_true (show 0 ≤ (i : Int) by omega), decide_eq_true (show (i : Int) < (l1.length : Int) by omega), wrap_small (x := (i : Int) + 1) (by omega) (by omega)]
        exact ih (i + 1) (j + 1) (l1.set i l[j]) (by omega) (by omega) (by omega) (by rw [List.length_set]; exact h3) g1 g2
    · have hj : j = l.length := by omega
      subst hj
      rw [List.take_length] at h4
      rw [decide_eq_false (show ¬ ((l.length : Nat) : Int) < (l1.length : Int) by omega), decide_eq_true (show 0 ≤ (i : Int) by omega)]
      simp only [cond_false, Int.toNat_natCast, Bool.true_and, Nat.zero_add, List.length_map]
      rw [decide_eq_true (show i ≤ l1.length by omega)]
      simp only [cond_true]
      rw [decide_eq_true (show i ≤ (l1.take i ++ (List.replicate (l1.length - i) z30 ++ l1.drop (i + (l1.length - i)))).length by simp; omega)]
      simp only [cond_true, Nat.sub_zero]
      rw [List.take_append_of_le_length (by rw [List.length_take]; omega), List.take_take, Nat.min_self, h4]
theorem delete_eqK {k : Nat} {l : List S30} {φ : S30 → Option Bool} {ψ : S30 → Bool} (hk : l.length < k) (hs : ∀ x ∈ l, φ x = some (ψ x)) (hl : l.length < 1000) : DeleteFunc.f k l φ = some (l.filter (fun x => !ψ x)) := by
  unfold DeleteFunc.f
  rw [index_eqK hk hs hl, Option.bind_some]
  cases h : l.findIdx? ψ with
  | none => rw [dels.all l ψ h]; rfl
  | some i =>
    obtain ⟨hi, hf⟩ := dels.first l ψ i h
    have h1 : (idxI (some i) == (-1)) = false := by simp only [idxI, beq_eq_false_iff_ne, ne_eq]; omega
    rw [h1, show idxI (some i) = (i : Int) from rfl]
    simp only [cond_false]
    rw [wrap_small (x := (i : Int) + 1) (by omega) (by omega)]
    have h2 := delete_go (k := k) (r1 := (i : Int)) hs hl k i (i + 1) l (by omega) (by omega) (by omega) rfl hf rfl
    rw [show ((i + 1 : Nat) : Int) = (i : Int) + 1 by omega] at h2
    exact h2
theorem delete_eq {l : List S30} {φ : S30 → Option Bool} {ψ : S30 → Bool} (hs : ∀ x ∈ l, φ x = some (ψ x)) (hl : l.length < 1000) : DeleteFunc.f 1000 l φ = some (l.filter (fun x => !ψ x)) := delete_eqK hl hs hl
theorem fill_eq {l : List S30} {br : Bool} {e : S30} (hl : l.length ≤ 64) (he : wfE e) (hw : ∀ x ∈ l, wfE x) : Fill.f 1000 ⟨l, br⟩ e = some (⟨(fillE l br e).2.1, (fillE l br e).2.2⟩, (fillE l br e).1) := by
  unfold Fill.f fillE
  rw [may_eq 998, Option.bind_some]
  by_cases c : okE e
  · rw [decide_eq_true c, if_pos c]
    simp only [Bool.not_true, cond_false]
    rw [contains_eq (by omega), Option.bind_some]
    by_cases d : e ∈ l
    · rw [decide_eq_true d, if_pos d]; rfl
    · rw [decide_eq_false d, if_neg d]
      simp only [cond_false]
      have hc : ∀ x ∈ cutE l, FillL.f 1000 x e = some (clashE x e) := fun x hx => by
        unfold FillL.f
        rw [Clash_eq 998 x e (hw x (cut_mem hx)) he]
        rfl
      have hcl := cut_len l
      by_cases h64 : l.length = 64
      · have e1 : ((l.length : Int) == 64) = true := by rw [h64]; rfl
        have e2 : (l.drop (0 + 1)).take ((l.map eE).length - 1) = cutE l := by
          unfold cutE
          rw [if_pos h64, Nat.zero_add, List.take_of_length_le (by rw [List.length_drop, List.length_map]; omega)]
        rw [e1, decide_eq_true (show 1 ≤ l.length by omega), e2]
        simp only [cond_true]
        rw [clone_eq (by omega), Option.bind_some, decide_eq_true (show (cutE l).length + [e].length ≤ 1000000 by simp; omega)]
        cases br with
        | true => rfl
        | false =>
          simp only [cond_false, cond_true, Bool.false_or]
          rw [containsf_eq hc (by omega)]
          rfl
      · have e1 : ((l.length : Int) == 64) = false := by rw [beq_eq_false_iff_ne]; omega
        have e2 : cutE l = l := if_neg h64
        rw [e2] at hc ⊢
        rw [e1, decide_eq_true (show l.length + [e].length ≤ 1000000 by simp; omega)]
        simp only [cond_false]
        cases br with
        | true => rfl
        | false =>
          simp only [cond_false, cond_true, Bool.false_or]
          rw [containsf_eq hc (by omega)]
          rfl
  · rw [decide_eq_false c, if_neg c]; rfl
theorem entries_eq {l : List S30} {br : Bool} (h : good l br) : Entries.f 1000 ⟨l, br⟩ = some (⟨l, br⟩, l) := by
  unfold Entries.f
  rw [clone_eq (by have := h.1; simp only; omega)]
  rfl
theorem drop_eq {l : List S30} {br : Bool} {φ : S30 → Option Bool} {ψ : S30 → Bool} (h : good l br) (hs : ∀ x ∈ l, φ x = some (ψ x)) : drop.f 1000 ⟨l, br⟩ φ = some ⟨l.filter (fun x => !ψ x), br⟩ := by
  unfold drop.f
  have := h.1
  rw [clone_eq (by simp only; omega), Option.bind_some]
  simp only
  rw [delete_eq hs (by omega)]
  rfl
theorem space_eq {l : List S30} {br : Bool} (h : good l br) (a : Int) : Space.f 1000 ⟨l, br⟩ a = some ⟨l.filter (fun x => !(x.f0 == a)), br⟩ := by
  unfold Space.f
  rw [drop_eq (φ := fun x => SpaceL.f x a) (ψ := fun x => x.f0 == a) h (fun x _ => rfl)]
  rfl
theorem page_eq {l : List S30} {br : Bool} (h : good l br) (a p : Int) (hp : p ≤ 9223372036854775807) : Page.f 1000 ⟨l, br⟩ a p = some ⟨l.filter (fun x => !decide (ofE x a p)), br⟩ := by
  unfold Page.f
  rw [drop_eq (φ := fun x => PageL.f x a p) (ψ := fun x => decide (ofE x a p)) h (fun x hx => by unfold PageL.f; rw [of_eq x a p (h.2.1 x hx).1 hp]; rfl)]
  rfl
theorem find_eq {l : List S30} {br : Bool} (h : good l br) (a p : Int) (hp : p ≤ 9223372036854775807) : Find.f 1000 ⟨l, br⟩ a p = some (match l.findIdx? (fun x => decide (ofE x a p)) with | some i => (⟨l, br⟩, l.getD i z30, true) | none => (⟨l, br⟩, z30, false)) := by
  unfold Find.f
  have hl := h.1
  rw [index_eq (φ := fun x => FindL.f x a p) (ψ := fun x => decide (ofE x a p)) (fun x hx => by unfold FindL.f; rw [of_eq x a p (h.2.1 x hx).1 hp]; rfl) (by simp only; omega), Option.bind_some]
  cases hf : l.findIdx? (fun x => decide (ofE x a p)) with
  | none => rfl
  | some i =>
    obtain ⟨hi, _, _⟩ := List.findIdx?_eq_some_iff_getElem.mp hf
    rw [show idxI (some i) = (i : Int) from rfl]
    rw [decide_eq_false (show ¬ (i : Int) < 0 by omega), decide_eq_true (show 0 ≤ (i : Int) by omega), decide_eq_true (show (i : Int) < (l.length : Int) by omega)]
    rfl
theorem up_true : up.f 1000 = some true := by kernel_rfl
end Go.Proofs.Ytfbjhioefkimbaa.V
