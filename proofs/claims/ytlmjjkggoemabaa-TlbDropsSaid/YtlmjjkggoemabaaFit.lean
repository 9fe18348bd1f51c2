/- What an argument of a row reads as, kind by kind: structs and slices of structs, as the printed contracts want them. No program in sight. -/
import Derived.Test.YtlmjjkggoemabaaWSized
import Derived.Test.YtlmjjkggoemabaaWWords
import Derived.Deep.Slices
import Derived.ChangeArms
import Derived.Below
import Derived.Carry
import Derived.WideShapes
namespace Go.Proofs.Ytlmjjkggoemabaa.Fit
open Go.RowKit Go.ChangeShapes Go.WideShapes Go.Proofs.YtlmjjkggoemabaaW.PrintWords
set_option linter.unusedVariables false
set_option linter.unusedSimpArgs false

def Fit {α : Type} (P : Program) (t : TypeId) (d : Kd α) (wf : α → Prop) : Prop :=
  ∀ (H : Type) (enc : TypeId × Value → H) (w : World) (sp : Nat → Bool) (held : Bool) (n : Nat) (cs : List Value) (x : DataW H × List MemPlace), DataW.trod enc P w 0 sp held n t cs = some x → ∃ a, d.K w a cs ∧ wf a
def FitF {α : Type} (P : Program) (fs : List Field) (off : Nat) (d : Kd α) (wf : α → Prop) : Prop :=
  ∀ (H : Type) (enc : TypeId × Value → H) (w : World) (sp : Nat → Bool) (held : Bool) (n : Nat) (cs : List Value), cs.length = off + d.sz → (∀ (i : Nat) (f : Field), fs[i]? = some f → ∃ y, DataW.trod enc P w 0 sp held n f.type ((cs.drop f.offset).take (P.cellsOf f.type)) = some y) → ∃ a, d.K w a (cs.drop off) ∧ wf a

section
variable {P : Program} {t : TypeId} {α β : Type} {d : Kd α} {d' : Kd β} {wf : α → Prop} {wf' : β → Prop}
theorem Fit.int {k : IntKind} (ht : P.underlying t = some (.int k)) : Fit P t (Kd.int k) (fun a => (Lit.int k a).wf = true) := by
  intro H enc w sp held n cs x h
  obtain ⟨m, rfl, _, hw⟩ := DataW.trod_int ht h
  exact ⟨m, rfl, hw⟩
theorem Fit.bool (ht : P.underlying t = some .bool) : Fit P t Kd.bool (fun _ => True) := by
  intro H enc w sp held n cs x h
  obtain ⟨m, rfl, _⟩ := DataW.trod_bool ht h
  exact ⟨m, rfl, trivial⟩
theorem FitF.last (f : Field) (off : Nat) (h : Fit P f.type d wf) (ho : f.offset = off) (hc : P.cellsOf f.type = d.sz) : FitF P [f] off d wf := by
  intro H enc w sp held n cs hl hall
  obtain ⟨y, hy⟩ := hall 0 f rfl
  rw [ho, hc, List.take_of_length_le (by rw [List.length_drop]; omega)] at hy
  exact h H enc w sp held n _ y hy
theorem FitF.cons (f : Field) (fs : List Field) (off : Nat) (h : Fit P f.type d wf) (ho : f.offset = off) (hc : P.cellsOf f.type = d.sz) (hs : FitF P fs (off + d.sz) d' wf') : FitF P (f :: fs) off (Kd.pair d d') (fun a => wf a.1 ∧ wf' a.2) := by
  intro H enc w sp held n cs hl hall
  have hl' : cs.length = off + (d.sz + d'.sz) := hl
  obtain ⟨y, hy⟩ := hall 0 f rfl
  rw [ho, hc] at hy
  obtain ⟨a, ha, wa⟩ := h H enc w sp held n _ y hy
  obtain ⟨b, hb, wb⟩ := hs H enc w sp held n cs (by omega) (fun i g hg => hall (i + 1) g (by simpa using hg))
  refine ⟨(a, b), ⟨_, _, ?_, ha, hb⟩, wa, wb⟩
  rw [show cs.drop (off + d.sz) = (cs.drop off).drop d.sz by rw [List.drop_drop]]
  exact (List.take_append_drop d.sz (cs.drop off)).symm
theorem Fit.struct {fs : Array Field} (ht : P.underlying t = some (.struct fs)) (h : FitF P fs.toList 0 d wf) (hc : P.cellsOf t = d.sz) : Fit P t d wf := by
  intro H enc w sp held n cs x hx
  obtain ⟨xs, m, _, _, hl, hlen, hf⟩ := DataW.trod_struct ht hx
  have := h H enc w sp held m cs (by omega) (fun i f hi => by
    have hi' : fs[i]? = some f := by simpa using hi
    have h1 := hf i f hi'
    have hlt : i < xs.length := by
      have := (Array.getElem?_eq_some_iff.1 hi').1
      omega
    rw [List.getElem?_eq_getElem hlt] at h1
    exact ⟨_, h1⟩)
  simpa using this
theorem Fit.iso (h : Fit P t d wf) (g : α → β) (f : β → α) (hfg : ∀ a, f (g a) = a) : Fit P t (Kd.iso d f) (fun b => wf (f b)) := by
  intro H enc w sp held n cs x hx
  obtain ⟨a, ha, wa⟩ := h H enc w sp held n cs x hx
  refine ⟨g a, ?_, ?_⟩
  · show d.K w (f (g a)) cs
    rw [hfg]; exact ha
  · show wf (f (g a))
    rw [hfg]; exact wa
theorem Fit.weaken {wf2 : α → Prop} (h : Fit P t d wf) (hw : ∀ a, wf a → wf2 a) : Fit P t d wf2 := by
  intro H enc w sp held n cs x hx
  obtain ⟨a, ha, wa⟩ := h H enc w sp held n cs x hx
  exact ⟨a, ha, hw a wa⟩
theorem Fit.slice {e : TypeId} (ht : P.underlying t = some (.slice e)) (h : Fit P e d wf) (hc : P.cellsOf e = d.sz) : Fit P t (Kd.slice e d) (fun xs => xs.length ≤ maxLen ∧ ∀ x ∈ xs, wf x) := by
  intro H enc w sp held n cs x hx
  rcases Deep.open_slice ht hx with ⟨rfl, _⟩ | ⟨a, len, cap, m, k, D, Pl, rfl, _, hl, hm, hmm, _, hel⟩
  · refine ⟨[], ⟨none, 0, rfl, Nat.le_refl _, ?_⟩, by simp [maxLen], by simp⟩
    exact ⟨rfl, by simp, fun h => by simp at h⟩
  · have hlm : len ≤ m := by rw [hmm]; split <;> omega
    have key : ∀ i, i < len → ∃ y, (∃ c, c.length = d.sz ∧ d.K w y c ∧ ∀ j u, c[j]? = some u → w.cell? (a.add (i * d.sz + j)) = some u) ∧ wf y := by
      intro i hi
      obtain ⟨cs', h1, h2⟩ := hel i (by omega)
      obtain ⟨y, hy, wy⟩ := h H enc w sp held k cs' _ h2
      obtain ⟨_, hlen, hcell⟩ := World.cells?_some h1
      rw [hc] at hlen hcell
      refine ⟨y, ⟨cs', by omega, hy, fun j u hj => ?_⟩, wy⟩
      have hj' : j < d.sz := by
        have := (List.getElem?_eq_some_iff.1 hj).1
        omega
      have h3 := hcell j hj'
      rw [hj] at h3
      rw [← h3, Addr.add_add]
    by_cases h0 : len = 0
    · subst h0
      exact ⟨[], ⟨some a, cap, by simp, by simp, ⟨rfl, by simp, fun h => by simp at h⟩⟩, by simp [maxLen], by simp⟩
    obtain ⟨Y, hY⟩ : ∃ Y : Nat → α, ∀ i, i < len → (∃ c, c.length = d.sz ∧ d.K w (Y i) c ∧ ∀ j u, c[j]? = some u → w.cell? (a.add (i * d.sz + j)) = some u) ∧ wf (Y i) := by
      obtain ⟨y0, _⟩ := key 0 (by omega)
      exact ⟨fun i => if h : i < len then Classical.choose (key i h) else y0, fun i hi => by
        simp only [dif_pos hi]
        exact Classical.choose_spec (key i hi)⟩
    refine ⟨(List.range len).map Y, ⟨some a, cap, by simp, by simpa using hl, ?_⟩, by simp; omega, ?_⟩
    · refine ⟨by simp, ?_, fun _ => ⟨a, rfl, fun j p hj => ?_⟩⟩
      · have : maxLen = 9223372036854775807 := rfl
        simp; omega
      · have hjl : j < len := by
          have := (List.getElem?_eq_some_iff.1 hj).1
          simpa using this
        have : p = Y j := by
          rw [List.getElem?_map, List.getElem?_range hjl] at hj
          simpa using hj.symm
        subst this
        exact (hY j hjl).1
    · intro x hx
      obtain ⟨i, hi, rfl⟩ := List.mem_map.1 hx
      exact (hY i (by simpa using hi)).2
end
end Go.Proofs.Ytlmjjkggoemabaa.Fit
