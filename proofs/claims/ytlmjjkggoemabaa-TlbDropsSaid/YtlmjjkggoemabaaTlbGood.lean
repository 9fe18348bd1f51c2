/- Layer 5: what a buffer is that was filled; what Entries, Space and Page leave. -/
import Derived.Test.YtlmjjkggoemabaaTlbLib
import Derived.Test.YtlmjjkggoemabaaQtx9
import Derived.Test.YtlmjjkggoemabaaQtx11
namespace Go.Proofs.Ytlmjjkggoemabaa.TlbLib
open Go.RowKit Go.Proofs.YtlmjjkggoemabaaW.PrintWords Go.Proofs.YtlmjjkggoemabaaW.PrintLast Go.Proofs.YtlmjjkggoemabaaW.PrintMore Go.Proofs.Ytlmjjkggoemabaa.Bits Go.Proofs.Ytlmjjkggoemabaa.Qt
set_option linter.unusedVariables false
set_option linter.unusedSimpArgs false

def good (l : List S48) (br : Bool) : Prop := l.length ≤ 64 ∧ (∀ x ∈ l, okE x ∧ wfE x) ∧ (br = false → l.Pairwise (fun x y => clashE x y = false))
theorem good_nil : good [] false := ⟨by decide, by simp, fun _ => List.Pairwise.nil⟩
theorem cut_sub (l : List S48) : (cutE l).Sublist l := by
  unfold cutE
  split
  · exact List.drop_sublist 1 l
  · exact List.Sublist.refl l
theorem fill_good {l : List S48} {br : Bool} {e : S48} (h : good l br) (he : wfE e) : good (fillE l br e).2.1 (fillE l br e).2.2 := by
  obtain ⟨h1, h2, h3⟩ := h
  refine ⟨fillE_len l br e h1, ?_, ?_⟩
  · unfold fillE
    split
    · rename_i ok
      split
      · exact h2
      · intro x hx
        rcases List.mem_append.mp hx with h | h
        · exact h2 x (cut_mem h)
        · rw [List.mem_singleton] at h; rw [h]; exact ⟨ok, he⟩
    · exact h2
  · unfold fillE
    split
    · split
      · exact h3
      · intro hb
        simp only [Bool.or_eq_false_iff] at hb
        obtain ⟨hb, ha⟩ := hb
        rw [List.pairwise_append]
        refine ⟨(h3 hb).sublist (cut_sub l), List.pairwise_singleton _ _, ?_⟩
        intro x hx y hy
        rw [List.mem_singleton] at hy
        rw [hy]
        have := List.any_eq_false.mp ha x hx
        simpa using this
    · exact h3
theorem fill_broken {l : List S48} {e : S48} : (fillE l true e).2.2 = true := by
  unfold fillE
  split
  · split <;> simp
  · rfl
/-- one Fill of a good buffer -/
theorem fill_go {l : List S48} {br : Bool} {e : S48} (h : good l br) (he : wfE e) : Ev (fun k => tlb_Buffer_Fill.f k l br e.f0 e.f1 e.f2 e.f3 e.f4 e.f5) (fillE l br e) := fill_ev l br e (by have := h.1; omega) he (fun x hx => (h.2.1 x hx).2)
theorem entries_eq {l : List S48} {br : Bool} (h : good l br) : tlb_Buffer_Entries.f l br = some (l, l, br) := if_pos (by have := h.1; omega)
theorem space_eq {l : List S48} {br : Bool} (h : good l br) (a : Int) : tlb_Buffer_Space.f l br a = some (l.filter (fun x => !(x.f0 == a)), br) := if_pos (by have := h.1; omega)
theorem ofB_at {x : S48} {a p : Int} (h : okE x) (hp : p ≤ 9223372036854775807) : tlb_Buffer_Page.ofB a p x = decide (ofE x a p) := by
  unfold tlb_Buffer_Page.ofB
  rw [of_eq x a p h hp]
  rfl
theorem page_eq {l : List S48} {br : Bool} (h : good l br) (a p : Int) (hp : p ≤ 9223372036854775807) : tlb_Buffer_Page.f l br a p = some (l.filter (fun x => !decide (ofE x a p)), br) := by
  unfold tlb_Buffer_Page.f
  rw [if_pos (by have := h.1; omega), if_pos ?_]
  · refine congrArg (fun q => some (q, br)) (List.filter_congr (fun x hx => ?_))
    rw [ofB_at (h.2.1 x hx).1 hp]
  · rw [List.all_eq_true]
    intro x hx
    have := (h.2.1 x hx).1.2.2.2.2.2.1
    exact decide_eq_true (by omega)
theorem filter_good {l : List S48} {br : Bool} (h : good l br) (q : S48 → Bool) : good (l.filter q) br :=
  ⟨Nat.le_trans (List.length_filter_le q l) h.1, fun x hx => h.2.1 x ((List.mem_filter.mp hx).1), fun hb => (h.2.2 hb).sublist List.filter_sublist⟩
theorem pwE_le (o : Int) : pwE o ≤ 8 ∧ 1 ≤ pwE o := by
  unfold pwE
  split
  · omega
  · split <;> omega
/-- the reference's -/
theorem refpower (o : Int) : paviorref05_power.f o = some (pwE o) := by
  unfold paviorref05_power.f pwE
  split
  · rfl
  · split <;> rfl
theorem refIs (x : S48) (a p : Int) (h : okE x) : paviorref05_Is.f x.f0 x.f1 x.f2 x.f3 x.f4 x.f5 a p = some (decide (ofE x a p)) := by
  obtain ⟨h1, h2, h3, h4, h5, h6, h7⟩ := h
  unfold paviorref05_Is.f
  have hb : pwE x.f2 ≤ 8 ∧ 1 ≤ pwE x.f2 := by exact pwE_le _
  by_cases c : x.f0 = a
  · rw [if_pos c]
    by_cases d : p ≥ x.f1
    · rw [if_pos d, refpower, Option.bind_some, wrap64_of (by omega) (by omega)]
      refine congrArg some (decide_eq_decide.mpr ?_)
      unfold ofE
      constructor
      · intro h; exact ⟨c, d, h⟩
      · intro h; exact h.2.2
    · rw [if_neg d, decide_eq_false]
      rintro ⟨_, h, _⟩
      omega
  · rw [if_neg c, decide_eq_false]
    exact fun h => c h.1
theorem refMay (k : Nat) (x : S48) (h : okE x) : paviorref05_May.f (k + 1) x.f0 x.f1 x.f2 x.f3 x.f4 x.f5 = some true := by
  obtain ⟨h1, h2, h3, h4, h5, h6, h7⟩ := h
  unfold paviorref05_May.f
  rw [if_neg (by omega), if_neg (by omega), if_neg (by omega), if_neg (by omega), decide_eq_false (by omega), paviorref05_May.j0, if_neg Bool.false_ne_true]
  have hb := (pwE_le x.f2).2
  have e : (Int.tmod x.f1 (pwE x.f2) == 0) = true := by
    rw [beq_iff_eq, Int.tmod_eq_emod_of_nonneg (by omega)]
    exact h7
  rcases h6 with h | h | h
  · rw [if_pos h, refpower, Option.bind_some, if_neg (by omega), e]
  · rw [if_neg (by omega), if_pos h, refpower, Option.bind_some, if_neg (by omega), e]
  · rw [if_neg (by omega), if_neg (by omega), if_pos h, refpower, Option.bind_some, if_neg (by omega), e]
theorem wfE_of {x : S48} (h : (Lit.int .i64 x.f3).wf = true) : wfE x := ⟨(wf_i64.mp h).2, (wf_i64.mp h).1⟩
theorem rd_mem {l : List S48} {i : Int} (h0 : 0 ≤ i) (h1 : i < (l.length : Int)) : rd_T48 l i ∈ l := by
  unfold rd_T48
  have : i.toNat < l.length := by omega
  rw [List.getD_eq_getElem?_getD, List.getElem?_eq_getElem this]
  exact List.getElem_mem this
end Go.Proofs.Ytlmjjkggoemabaa.TlbLib
