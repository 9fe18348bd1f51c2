import Derived.Test.YtmjnenjeckeklaaVI
import Derived.NoCompiler
import Derived.Maps.RangeRun
import Derived.WideShapes
import Derived.ChangeShapes
import Derived.Deep.Slices
import Derived.Lib.AppendZerosOnto
import Derived.Lib.Overlaps
import Derived.KernelRfl
import Derived.MapKept
set_option linter.unusedVariables false
set_option linter.unusedSimpArgs false
namespace Go.Proofs.Ytmjnenjeckeklaa.V
open Go Go.RowKit
structure Spec where
  anc : List Nat
  need : List Nat
  asg : List (Nat × T)
  fresh : Option Nat
  deep : Bool
def has (A : List (Nat × T)) (t : Nat) : Bool := (A.lookup t).isSome
def rJ : T → Bool
  | .addr _ _ (_ :: _) _ => true
  | .view _ (some _) _ _ _ => true
  | .whole _ (some _) _ _ => true
  | _ => false
def uz (D : Nat → Bool) (t : Nat) : Nat → T → List Spec → T
  | _, x, [] => x
  | k, x, s :: S => uz D t (k + 1) (bif D k then (s.asg.lookup t).getD x else x) S
def nO (S : List Spec) (j : Nat) : List Nat := match S[j]? with
  | some s => s.anc
  | none => []
def CY (S : List Spec) (σ0 : St) (D : Nat → Bool) : St := fun t => uz D t 0 (σ0 t) S
def nH (S : List Spec) (σ0 : St) (s : Spec) : List (Nat × T) := s.need.map fun t => (t, uz (fun i => s.anc.contains i) t 0 (σ0 t) S)
def Al (tab : List (List Nat)) (S : List Spec) (j : Nat) (s : Spec) : Bool :=
  ((tab.getD j []).all fun i => Nat.blt i j) && s.anc.all fun i => Nat.blt i j && ((tab.getD j []).contains i || (tab.getD j []).any fun k => (nO S k).contains i)
def jk (A : List (Nat × T)) (t : Nat) : Bool := match A.lookup t with
  | some .junk => true
  | _ => false
theorem P5 {A : List (Nat × T)} {t : Nat} (h : jk A t = true) : A.lookup t = some .junk := by
 unfold jk at h; split at h
 · rename_i e; exact e
 · cases h
def se (i : Nat) (si : Spec) (j : Nat) (sj : Spec) : Bool :=
  (si.asg.all fun p => (!(sj.need.contains p.1) && !has sj.asg p.1) || sj.anc.contains i || si.anc.contains j) &&
  (match sj.fresh with
   | none => true
   | some d => si.asg.all fun p => p.1 == d || !refs p.2 d || si.anc.contains j || jk sj.asg p.1) &&
  (!sj.deep || si.asg.all fun p => !rJ p.2 || has sj.asg p.1 || si.anc.contains j)
def LK (tab : List (List Nat)) (S : List Spec) : Bool :=
  S.length == tab.length && (List.range S.length).all fun j => match S[j]? with
    | none => true
    | some sj => Al tab S j sj && (List.range S.length).all fun i => i == j || match S[i]? with
      | none => true
      | some si => se i si j sj
def ZV (l : List (Nat × T)) (S : List Spec) : Bool := S.all fun s =>
  (match s.fresh with
   | none => true
   | some d => l.all fun p => p.1 == d || !refs p.2 d || jk s.asg p.1) &&
  (!s.deep || l.all fun p => !rJ p.2 || has s.asg p.1)
def Clear (s : Spec) (σ : St) : Prop := (∀ d, s.fresh = some d → ∀ t, t ≠ d → refs (σ t) d = true → s.asg.lookup t = some .junk) ∧ (s.deep = true → ∀ t, rJ (σ t) = true → has s.asg t = true)
theorem Clear.ref {s : Spec} {σ : St} {d t : Nat} (hc : Clear s σ) (hf : s.fresh = some d) (ht : t ≠ d) (hn : s.asg.lookup t ≠ some .junk) : refs (σ t) d = false := by
 cases h : refs (σ t) d with
 | false => rfl
 | true => exact absurd (hc.1 d hf t ht h) hn
inductive B9 (Q : Nat → Spec → Prop) : Nat → List Spec → Prop
  | nil {k : Nat} : B9 Q k []
  | cons {k : Nat} {s : Spec} {S : List Spec} (h : Q k s) (t : B9 Q (k + 1) S) : B9 Q k (s :: S)
theorem B9.get {Q : Nat → Spec → Prop} {k : Nat} {S : List Spec} (h : B9 Q k S) : ∀ j s, S[j]? = some s → Q (k + j) s := by
 induction h with
 | nil => intro j s hs; simp at hs
 | @cons k s' S h t ih =>
  intro j s hs
  cases j with
  | zero => simp only [bF, aC] at hs; subst hs; exact h
  | succ j => have := ih j s (by simpa using hs); rw [show k + (j + 1) = k + 1 + j by omega]; exact this
theorem vo {D D' : Nat → Bool} {t : Nat} {S : List Spec} : ∀ {k : Nat} {x : T}, (∀ i s, S[i]? = some s → has s.asg t = true → D (k + i) = D' (k + i)) → uz D t k x S = uz D' t k x S := by
 induction S with
 | nil => intros; rfl
 | cons s S ih =>
  intro k x h; simp only [uz]
  have h0 : (bif D k then (s.asg.lookup t).getD x else x) = (bif D' k then (s.asg.lookup t).getD x else x) := by
   cases hl : s.asg.lookup t with
   | none => cases D k <;> cases D' k <;> rfl
   | some y => rw [show D k = D' k from h 0 s rfl (by simp [has, hl])]
  rw [h0]; exact ih (fun i s' hi ha => by have := h (i + 1) s' (by simpa using hi) ha; rw [show k + (i + 1) = k + 1 + i by omega] at this; exact this)
theorem BH {D : Nat → Bool} {t : Nat} {S : List Spec} : ∀ {k : Nat} {x : T}, (∀ i s, S[i]? = some s → has s.asg t = true → D (k + i) = false) → uz D t k x S = x := by
 induction S with
 | nil => intros; rfl
 | cons s S ih =>
  intro k x h; simp only [uz]
  have h0 : (bif D k then (s.asg.lookup t).getD x else x) = x := by
   cases hl : s.asg.lookup t with
   | none => cases D k <;> rfl
   | some y => rw [show D k = false from h 0 s rfl (by simp [has, hl])]; rfl
  rw [h0]; exact ih (fun i s' hi ha => by have := h (i + 1) s' (by simpa using hi) ha; rw [show k + (i + 1) = k + 1 + i by omega] at this; exact this)
theorem Jn {D : Nat → Bool} {t : Nat} {s : Spec} {y : T} {S : List Spec} : ∀ {j k : Nat} {x : T}, S[j]? = some s → D (k + j) = true → s.asg.lookup t = some y → (∀ i s', j < i → S[i]? = some s' → has s'.asg t = true → D (k + i) = false) → uz D t k x S = y := by
 induction S with
 | nil => intro j k x h; simp at h
 | cons s' S ih =>
  intro j k x hj hD hy h
  cases j with
  | zero =>
   simp only [bF, aC] at hj; subst hj; simp only [uz]; rw [show D k = true from hD, hy]; exact BH (fun i s' hi ha => by have := h (i + 1) s' (by omega) (by simpa using hi) ha; rw [show k + (i + 1) = k + 1 + i by omega] at this; exact this)
  | succ j =>
   simp only [uz]; exact ih (j := j) (by simpa using hj) (by rw [show k + 1 + j = k + (j + 1) by omega]; exact hD) hy (fun i s' hi hs ha => by have := h (i + 1) s' (by omega) (by simpa using hs) ha; rw [show k + (i + 1) = k + 1 + i by omega] at this; exact this)
theorem nT {A : List (Nat × T)} {t : Nat} {y : T} (h : A.lookup t = some y) : (t, y) ∈ A := by
 induction A with
 | nil => simp at h
 | cons p A ih =>
  obtain ⟨k, x⟩ := p; simp only [List.lookup] at h; split at h
  · rename_i hb; simp only [bG] at hb; cases h; rw [hb]; exact aN
  · exact aU _ (ih h)
theorem Am {D : Nat → Bool} {t : Nat} {S : List Spec} : ∀ {k : Nat} {x : T}, uz D t k x S = x ∨ ∃ j s, S[j]? = some s ∧ D (k + j) = true ∧ (t, uz D t k x S) ∈ s.asg := by
 induction S with
 | nil => intros; exact .inl rfl
 | cons s S ih =>
  intro k x; simp only [uz]; rcases ih (k := k + 1) (x := bif D k then (s.asg.lookup t).getD x else x) with h | ⟨j, s', h1, h2, h3⟩
  · rw [h]
    cases hD : D k with
    | false => exact .inl rfl
    | true =>
     cases hl : s.asg.lookup t with
     | none => exact .inl rfl
     | some y =>
      refine .inr ⟨0, s, rfl, hD, ?_⟩; simp only [dF, b7]; exact nT hl
  · exact .inr ⟨j + 1, s', by simpa using h1, by rw [show k + (j + 1) = k + 1 + j by omega]; exact h2, h3⟩
section
variable {P : Program} {K : Ctx} {ops : Array Oper} {S : List Spec} {tab : List (List Nat)} {σ0 : St}
theorem rC.drew {σ : St} {a : Act} {w : World} (h : rC K σ a w) : rC K σ a w.drew := by
 obtain ⟨Fs, h⟩ := h; exact ⟨Fs, fun i => (h.rep i).turn (w' := w.drew) (fun _ _ => rfl) (fun _ _ _ _ hq => tN (w := w) (w' := w.drew) (fun _ _ => rfl) hq) (fun _ _ _ _ _ _ hc _ => hc) (fun _ _ => rfl), h.nd, h.dis, h.own, ⟨h.keeps.os, h.keeps.tape, h.keeps.output, h.keeps.size, h.keeps.block⟩, h.ro, h.size, h.pin, h.defers⟩
def Down (tab : List (List Nat)) (D : Nat → Bool) : Prop := ∀ j, D j = true → ∀ i ∈ tab.getD j [], D i = true
theorem CZ (hc : LK tab S = true) {j : Nat} {s : Spec} (hj : S[j]? = some s) : Al tab S j s = true := by
 simp only [LK, ai, aV, b6] at hc; have hlt : j < S.length := (br.mp hj).1; have := hc.2 j hlt; rw [hj] at this; simp only [ai] at this; exact this.1
theorem tw (hc : LK tab S = true) {i j : Nat} {si sj : Spec} (hi : S[i]? = some si) (hj : S[j]? = some sj) (hne : i ≠ j) : se i si j sj = true := by
 simp only [LK, ai, aV, b6] at hc; have hlt : j < S.length := (br.mp hj).1; have hlt' : i < S.length := (br.mp hi).1; have := hc.2 j hlt; rw [hj] at this; simp only [ai, aV, b6, bI, bG] at this; have := this.2 i hlt'; rw [hi] at this; exact this.resolve_left hne
theorem An (hc : LK tab S = true) {j i : Nat} (h : i ∈ nO S j) : i < j := by
 unfold nO at h
 cases hj : S[j]? with
 | none => rw [hj] at h; cases h
 | some s =>
  rw [hj] at h; have := CZ hc hj; simp only [Al, ai, aV] at this; have := (this.2 i h).1; simpa using this
theorem Eu (hc : LK tab S = true) {D : Nat → Bool} (hD : Down tab D) : ∀ (n j : Nat), j < n → (∀ i ∈ tab.getD j [], D i = true) → ∀ i ∈ nO S j, D i = true := by
 intro n
 induction n with
 | zero => intro j h; omega
 | succ n ih =>
  intro j hjn hdir i hi; unfold nO at hi
  cases hj : S[j]? with
  | none => rw [hj] at hi; cases hi
  | some s =>
   rw [hj] at hi; have := CZ hc hj; simp only [Al, ai, aV] at this; have h2 := (this.2 i hi).2; simp only [bI] at h2; rcases h2 with h2 | h2
   · exact hdir i (by simpa using h2)
   · obtain ⟨k, hk, h3⟩ := ec.mp h2; have hkj : k < j := by simpa using this.1 k hk
     exact ih k (by omega) (hD k (hdir k hk)) i (by simpa using h3)
theorem GB (hc : LK tab S = true) {D : Nat → Bool} (hD : Down tab D) {j : Nat} {s : Spec} (hj : S[j]? = some s) (hnot : D j = false) (hdir : ∀ i ∈ tab.getD j [], D i = true)
    (h0 : ∀ s ∈ S, Clear s σ0) (hst : Clear s (over (CY S σ0 D) (nH S σ0 s)) → mg P K ops j (over (CY S σ0 D) (nH S σ0 s)) (over (over (CY S σ0 D) (nH S σ0 s)) s.asg)) :
    mg P K ops j (CY S σ0 D) (CY S σ0 (fun i => D i || i == j)) := by
     have hanc : ∀ i ∈ s.anc, D i = true := by
      have := Eu hc hD (j + 1) j (by omega) hdir; unfold nO at this; rw [hj] at this; exact this
     have hdn : ∀ i, j ∈ nO S i → D i = false := by
      intro i hi
      cases hDi : D i with
      | false => rfl
      | true =>
       have := Eu hc hD (i + 1) i (by omega) (hD i hDi) j hi; rw [hnot] at this; cases this
     have hneed : over (CY S σ0 D) (nH S σ0 s) = CY S σ0 D := by
      funext t; unfold over
      cases hl : (nH S σ0 s).lookup t with
      | none => rfl
      | some y =>
       have hm := nT hl; unfold nH at hm; obtain ⟨t', ht', e⟩ := aX.mp hm; injection e with e1 e2; subst e1; rw [b7, ← e2]; refine vo (fun i si hi ha => ?_); rw [aG]; rcases Nat.lt_trichotomy i j with hij | hij | hij
       · have hp := tw hc hi hj (by omega); simp only [se, ai, aV] at hp; obtain ⟨y', hy'⟩ : ∃ y', si.asg.lookup t' = some y' := cX.mp ha; have h1 := hp.1.1 _ (nT hy'); simp only [bI, ai, cH] at h1; rcases h1 with (h1 | h1) | h1
         · have := cq.mpr ht'; rw [h1.1] at this; cases this
         · rw [h1, hanc i (by simpa using h1)]
         · exact absurd (An hc (show j ∈ nO S i by unfold nO; rw [hi]; simpa using h1)) (by omega)
       · subst hij; rw [hnot]
         cases hcn : s.anc.contains i with
         | false => rfl
         | true => exact absurd (An hc (show i ∈ nO S i by unfold nO; rw [hj]; simpa using hcn)) (by omega)
       · have hp := tw hc hi hj (by omega); simp only [se, ai, aV] at hp; obtain ⟨y', hy'⟩ : ∃ y', si.asg.lookup t' = some y' := cX.mp ha; have h1 := hp.1.1 _ (nT hy'); simp only [bI, ai, cH] at h1; rcases h1 with (h1 | h1) | h1
         · have := cq.mpr ht'; rw [h1.1] at this; cases this
         · exact absurd (An hc (show i ∈ nO S j by unfold nO; rw [hj]; simpa using h1)) (by omega)
         · rw [hdn i (by unfold nO; rw [hi]; simpa using h1)]
           cases hcn : s.anc.contains i with
           | false => rfl
           | true => exact absurd (An hc (show i ∈ nO S j by unfold nO; rw [hj]; simpa using hcn)) (by omega)
     have hclear : Clear s (CY S σ0 D) := by
      have hs0 := h0 s (cu hj); refine ⟨fun d hd t ht hrf => ?_, fun hdp t ht => ?_⟩
      · unfold CY at hrf; rcases Am (D := D) (t := t) (S := S) (k := 0) (x := σ0 t) with h | ⟨i, si, h1, h2, h3⟩
        · rw [h] at hrf; exact hs0.1 d hd t ht hrf
        · rw [aG] at h2; have hij : i ≠ j := by rintro rfl; rw [hnot] at h2; cases h2
          have hp := tw hc h1 hj hij; simp only [se, ai, hd, aV] at hp; have h4 := hp.1.2 _ h3; simp only [bI, cH, bG] at h4; rcases h4 with ((h4 | h4) | h4) | h4
          · exact absurd h4 ht
          · rw [hrf] at h4; cases h4
          · have := hdn i (by unfold nO; rw [h1]; simpa using h4); rw [h2] at this; cases this
          · exact P5 h4
      · unfold CY at ht; rcases Am (D := D) (t := t) (S := S) (k := 0) (x := σ0 t) with h | ⟨i, si, h1, h2, h3⟩
        · rw [h] at ht; exact hs0.2 hdp t ht
        · rw [aG] at h2; have hij : i ≠ j := by rintro rfl; rw [hnot] at h2; cases h2
          have hp := tw hc h1 hj hij; simp only [se, ai, hdp, de, ff, aV] at hp; have h4 := hp.2 _ h3; simp only [bI, cH] at h4; rcases h4 with (h4 | h4) | h4
          · rw [ht] at h4; cases h4
          · exact h4
          · have := hdn i (by unfold nO; rw [h1]; simpa using h4); rw [h2] at this; cases this
     have h1 := hst (by rw [hneed]; exact hclear); rw [hneed] at h1
     have h2 : over (CY S σ0 D) s.asg = CY S σ0 (fun i => D i || i == j) := by
      funext t; unfold over
      cases hl : s.asg.lookup t with
      | none =>
       refine vo (fun i si hi ha => ?_); rw [aG]; by_cases hij : i = j
       · subst hij; rw [hj] at hi; cases hi; simp [has, hl] at ha
       · simp [hij]
      | some y =>
       refine (Jn (j := j) hj (by simp) hl (fun i si hij hi ha => ?_)).symm; rw [aG]; have hp := tw hc hi hj (by omega); simp only [se, ai, aV] at hp; obtain ⟨y', hy'⟩ : ∃ y', si.asg.lookup t = some y' := cX.mp ha; have h1 := hp.1.1 _ (nT hy'); simp only [bI, ai, cH] at h1; rcases h1 with (h1 | h1) | h1
       · simp [has, hl] at h1
       · exact absurd (An hc (show i ∈ nO S j by unfold nO; rw [hj]; simpa using h1)) (by omega)
       · rw [hdn i (by unfold nO; rw [hi]; simpa using h1)]; simp; omega
     rw [h2] at h1; exact h1
theorem H9 (hT : Region.tabAfter .any ops = tab) {j : Nat} {o : Oper} (ho : ops[j]? = some o) {i : Nat} : i ∈ tab.getD j [] ↔ ∃ e ∈ o.after, Region.binds .any e = true ∧ e.on = i := by
 subst hT; unfold Region.tabAfter; rw [aH, bD, dX, ho]; simp [aX, cm]; constructor
 · rintro ⟨e, ⟨h1, h2⟩, h3⟩; exact ⟨e, h1, h2, h3⟩
 · rintro ⟨e, h1, h2, h3⟩; exact ⟨e, ⟨h1, h2⟩, h3⟩
theorem RN (hT : Region.tabAfter .any ops = tab) (hc : LK tab S = true) (h0 : ∀ s ∈ S, Clear s σ0) {Q : Exit → Act → World → Prop}
    (hst : ∀ j s, S[j]? = some s → ∀ σ, Clear s (over σ (nH S σ0 s)) → mg P K ops j (over σ (nH S σ0 s)) (over (over σ (nH S σ0 s)) s.asg))
    (hq : ∀ a w, rC K (CY S σ0 (fun _ => true)) a w → Q .normal a w) : ∀ (fuel : Nat) (listed : Array Bool) (a : Act) (w : World), listed.size = ops.size → Down tab (fun i => listed.getD i false) →
      (∃ l : List Nat, l.Nodup ∧ l.length + fuel = ops.size ∧ ∀ i ∈ l, listed.getD i false = true) → rC K (CY S σ0 (fun i => listed.getD i false)) a w → wpAny P .any ops Q fuel listed a w := by
 have hlen : S.length = ops.size := by
  have := hc; simp only [LK, ai, bG] at this; rw [this.1, ← hT]; simp [Region.tabAfter]
 have hfin : ∀ (listed : Array Bool) (a : Act) (w : World), listed.size = ops.size → Down tab (fun i => listed.getD i false) → Region.ready .any ops listed = [] → rC K (CY S σ0 (fun i => listed.getD i false)) a w → Q .normal a w := by
  intro listed a w hsz hD hr hs
  have hall : ∀ n j, j < n → j < ops.size → listed.getD j false = true := by
   intro n
   induction n with
   | zero => intro j h; omega
   | succ n ih =>
    intro j hjn hj
    cases hl : listed.getD j false with
    | true => rfl
    | false =>
     exfalso; have hj' : ops[j]? = some ops[j] := cV hj
     have hmem : j ∈ Region.ready .any ops listed := by
      rw [mem_ready]; refine ⟨?_, _, hj', fun e he hb => ?_⟩
      · rw [bq] at hl ⊢; rw [cV (by omega)] at hl ⊢; exact hl
      · have h1 := (H9 hT hj').mpr ⟨e, he, hb, rfl⟩; have h2 := CZ hc (aA (show j < S.length by omega)); simp only [Al, ai, aV] at h2; have h3 := h2.1 _ h1; have h3 : e.on < j := by simpa using h3
        exact ih e.on (by omega) (by omega)
     rw [hr] at hmem; cases hmem
  refine hq a w ?_
  have : CY S σ0 (fun i => listed.getD i false) = CY S σ0 (fun _ => true) := by
   funext t; refine vo (fun i s hi _ => ?_); rw [aG]; exact hall (i + 1) i (by omega) (by have := (br.mp hi).1; omega)
  rw [← this]; exact hs
 intro fuel
 induction fuel with
 | zero =>
  intro listed a w hsz hD ⟨l, hnd, hl, hall⟩ hs
  have hr : Region.ready .any ops listed = [] := by
   apply eW.mpr; intro j hj; obtain ⟨h1, o, ho, _⟩ := mem_ready.mp hj; have hjs : j < ops.size := (ck.mp ho).1
   have hjl : j ∉ l := by
    intro h; have h2 := hall j h; rw [bq, cV (by omega)] at h1 h2; simp at h1 h2; rw [h1] at h2; cases h2
   have h3 : (j :: l).length ≤ (List.range ops.size).length := by
    apply List.Nodup.length_le_of_subset (bh.mpr ⟨hjl, hnd⟩); intro x hx; rw [b6]; rcases bx.mp hx with rfl | hx
    · exact hjs
    · have h2 := hall x hx; rcases b5 x ops.size with h | h
      · exact h
      · rw [bq, dx (by omega)] at h2; cases h2
   simp at h3; omega
  exact ⟨hr, hfin listed a w hsz hD hr hs⟩
 | succ fuel ih =>
  intro listed a w hsz hD ⟨l, hnd, hl, hall⟩ hs; refine ⟨fun hr => hfin listed a w hsz hD hr hs, fun j hj => ?_⟩; obtain ⟨h1, o, ho, hdep⟩ := mem_ready.mp hj; have hjs : j < ops.size := (ck.mp ho).1; have hjS : S[j]? = some S[j] := aA (by omega)
  have hjf : listed.getD j false = false := by
   rw [bq, cV (by omega)] at h1 ⊢; exact h1
  have hdir : ∀ i ∈ tab.getD j [], listed.getD i false = true := by
   intro i hi; obtain ⟨e, he, hb, rfl⟩ := (H9 hT ho).mp hi; exact hdep e he hb
  have hstep := GB hc hD hjS hjf hdir h0 (hst j _ hjS _)
  have hset : ∀ i, (listed.setIfInBounds j true).getD i false = (listed.getD i false || i == j) := by
   intro i; by_cases hij : j = i
   · subst hij; simp [bq, show j < listed.size by omega]
   · rw [getD_set_ne false hij]; simp [show i ≠ j from fun h => hij h.symm]
  have hfun : (fun i => (listed.setIfInBounds j true).getD i false) = fun i => listed.getD i false || i == j := funext hset; refine zM (hstep a w hs) (fun a' w' hs' => ih _ a' w' (by simpa using hsz) ?_ ⟨j :: l, bh.mpr ⟨fun h => ?_, hnd⟩, by simp; omega, fun i hi => ?_⟩ (by rw [hfun]; exact hs'))
  · rw [hfun]; intro i hi k hk; simp only [bI, bG] at hi ⊢; rcases hi with hi | rfl
    · exact .inl (hD i hi k hk)
    · exact .inl (hdir k hk)
  · have := hall j h; rw [hjf] at this; cases this
  · rw [hset]; rcases bx.mp hi with rfl | hi
    · simp
    · simp [hall i hi]
def LL (S : List Spec) (σ : St) : St := S.foldl (fun σ s => over σ s.asg) σ
theorem LM (t : Nat) : ∀ (S : List Spec) (k : Nat) (σ : St), uz (fun _ => true) t k (σ t) S = LL S σ t := by
 intro S
 induction S with
 | nil => intros; rfl
 | cons s S ih =>
  intro k σ; simp only [uz, dF, LL, List.foldl_cons]; exact ih (k + 1) (over σ s.asg)
theorem UX {id : Nat} {Q : Exit → St → Prop} {σ' : St} (S : List Spec) (hm : P.follows .mixedOrders = true) (hT : Region.tabAfter .any ops = tab) (hc : LK tab S = true) (h0 : ∀ s ∈ S, Clear s σ0)
    (hst : B9 (fun j s => ∀ σ, Clear s (over σ (nH S σ0 s)) → mg P K ops j (over σ (nH S σ0 s)) (over (over σ (nH S σ0 s)) s.asg)) 0 S) (hw : ∀ i, σ' i = LL S σ0 i ∨ σ' i = .junk) (hq : Q .normal σ') : lC P K (.region id ops true) σ0 Q := by
 intro a w hs
 have hrep : ∀ i, (Array.replicate ops.size false).getD i false = false := by
  intro i; simp only [bq, Array.getElem?_replicate]; split <;> rfl
 have hinit : CY S σ0 (fun i => (Array.replicate ops.size false).getD i false) = σ0 := by
  funext t; exact BH (fun i s hi _ => hrep _)
 have hall : CY S σ0 (fun _ => true) = LL S σ0 := funext fun t => LM t S 0 σ0; refine wp_region_any hm (RN (K := K) (Q := post K Q) hT hc h0 (fun j s hj => ?_) (fun a w hs => ?_) ops.size _ a _ (by simp) ?_ ⟨[], bu, by simp, by simp⟩ ?_)
 · have := hst.get j s hj; rwa [aG] at this
 · rw [hall] at hs; exact ⟨σ', hs.weaken hw, hq⟩
 · intro j hj; simp only [hrep] at hj; cases hj
 · rw [hinit]; exact hs.drew
end
end Go.Proofs.Ytmjnenjeckeklaa.V
namespace Go.Proofs.Ytmjnenjeckeklaa.V
open Go Go.RowKit
section
variable {P : Program} {ET : TypeId} {w w' : World} {R : Nat → Prop} {K : Ctx} {σ σ' : St} {a : Act} {Fs : Nat → List Nat} {o : Oper} {d : Nat} {ops : Array Oper} {i : Nat}
theorem je {x : Operand} {u : U} {l : List Nat} (ho : o.op = .move x ∨ o.op = .assign x) (hx : Src K σ x u l) (hd : o.dst = some d) (hn : mX K d = true) : Step P K σ o (put (jb σ l) d (.u u)) := by
 rintro a w ⟨Fs, hs⟩; obtain ⟨F, Fs', hu, hs', hF, _, _⟩ := hs.take hx
 have hrun : (execOp a.eval o).run P w = .ok (.value (a.eval x)) w := by
  rcases ho with ho | ho <;> simp [execOp, ho, pure]
 simp only [Oper.wp, hrun, Oper.upon_value, hd]; exact ⟨_, hs'.o6 hn (iB.refl _ _) hF.2 hF.1 (.u hu)⟩
theorem ke.pick {xs : List Value} {us : List U} {F : List Nat} (h : ke ET w R xs us F) {j : Nat} {u : U} (hj : us[j]? = some u) : ∃ x F1 F2, xs[j]? = some x ∧ kY ET w R x u F1 ∧ ke ET w R xs (us.set j (.c .dead)) F2 ∧ (∀ b, b ∈ F1 → b ∈ F) ∧ (∀ b, b ∈ F2 → b ∈ F) ∧ (F.Nodup → F1.Nodup ∧ F2.Nodup ∧ ∀ b ∈ F1, b ∉ F2) := by
 induction us generalizing xs F j with
 | nil => simp at hj
 | cons u' us ih =>
  cases h with
  | @cons x _ xs _ F1 G h t =>
   cases j with
   | zero =>
    simp only [bF, aC] at hj; subst hj; exact ⟨x, F1, [] ++ G, rfl, h, .cons (.c (.dead _)) t, fun b hb => an _ hb, fun b hb => ah _ (by simpa using hb), fun hn => ⟨(ax.mp hn).1, by simpa using (ax.mp hn).2.1, fun b hb jD => (ax.mp hn).2.2 b hb b (by simpa using jD) rfl⟩⟩
   | succ j =>
    obtain ⟨x', G1, G2, h1, h2, h3, h4, h5, h6⟩ := ih t (by simpa using hj); refine ⟨x', G1, F1 ++ G2, by simpa using h1, h2, .cons h h3, fun b hb => ah _ (h4 b hb), fun b hb => ?_, fun hn => ?_⟩
    · rcases aT.mp hb with hb | hb
      · exact an _ hb
      · exact ah _ (h5 b hb)
    · obtain ⟨n1, n2, n3⟩ := ax.mp hn; obtain ⟨m1, m2, m3⟩ := h6 n2; refine ⟨m1, ax.mpr ⟨n1, m2, fun x hx y hy e => ?_⟩, fun b hb jD => ?_⟩
      · subst e; exact n3 x hx x (h5 x hy) rfl
      · rcases aT.mp jD with jD | jD
        · exact n3 b jD b (h4 b hb) rfl
        · exact m3 b hb jD
theorem pM {i j : Nat} {us : List U} {u : U} (ho : o.op = .extract (.tmp i) j) (hi : σ i = .tup us) (hj : us[j]? = some u) (hd : o.dst = some d) (hn : mX K d = true) : Step P K σ o (put (jN σ i (.tup (us.set j (.c .dead)))) d (.u u)) := by
 rintro a w ⟨Fs, hs⟩; have h1 := hs.rep i; rw [hi] at h1; have hnd := hs.nd i; have hdi := hs.dis i; have how := hs.own i; have hout := hs.out i; generalize hv : a.tmps.getD i undef = v at h1; generalize hFi : Fs i = F at h1 hnd hdi how
 cases h1 with
 | @tup arr _ _ h =>
  obtain ⟨x, F1, F2, h1, h2, h3, h4, h5, h6⟩ := h.pick hj; obtain ⟨m1, m2, m3⟩ := h6 hnd
  have hrun : (execOp a.eval o).run P w = .ok (.value x) w := by
   have YQ : arr[j]? = some x := by simpa using h1
   simp [execOp, ho, kE, hv, Instr.extract, YQ, pure]
  simp only [Oper.wp, hrun, Oper.upon_value, hd]
  have AB : jP K (jN (jN σ i .junk) i (.tup (us.set j (.c .dead)))) a w (jZ (jZ Fs i []) i F2) := by
   refine hout.MG (by rw [hv]; exact .tup h3) m2 (fun k hk b hb jD => ?_) (fun b hb => how b (h5 b hb)); unfold jZ at jD; (try rw [ag hk] at jD); exact hk (hdi k b (h5 b hb) jD).symm
  have he : jN (jN σ i .junk) i (.tup (us.set j (.c .dead))) = jN σ i (.tup (us.set j (.c .dead))) := by
   funext k; unfold jN; split <;> rfl
  rw [he] at AB
  exact ⟨_, AB.o6 hn (iB.refl _ _) (fun b hb => ⟨fun k hk => by
   unfold jZ at hk; split at hk
   · exact m3 b hb hk
   · rename_i hne; (try rw [ag hne] at hk)
     exact hne (hdi k b (h4 b hb) hk).symm, how b (h4 b hb)⟩) m1 (.u h2)⟩
theorem Le {t : T} (h : ∀ i, i ≠ d → refs (σ i) d = false) : put σ d t = over σ [(d, t)] := by
 funext i; unfold put over; by_cases hi : i = d
 · subst hi; simp [List.lookup]
 · rw [ag hi]; unfold sx; rw [h i hi]; simp [List.lookup, show (i == d) = false by simpa using hi]
theorem gO {t : T} {s : Spec} {j : Nat} (hc : Clear s σ) (hf : s.fresh = some d) (ha : s.asg = [(d, t)]) (h : mg P K ops j σ (put σ d t)) : mg P K ops j σ (over σ s.asg) := by
 rw [ha, ← Le (fun i hi => hc.ref hf hi (by rw [ha, bK, show (i == d) = false by simpa using hi]; simp))]; exact h
theorem nG.app {i n m : Nat} {σ1 σ2 σ3 : St} (h : nG P K ops i n σ1 σ2) (t : nG P K ops (i + n) m σ2 σ3) : nG P K ops i (n + m) σ1 σ3 := by
 induction h with
 | nil => simpa using t
 | cons h _ ih =>
  rename_i i n _ _ _ _; rw [show n + 1 + m = (n + m) + 1 by omega]; exact .cons h (ih (by rw [show i + 1 + n = i + (n + 1) by omega]; exact t))
end
end Go.Proofs.Ytmjnenjeckeklaa.V
namespace Go.Proofs.Ytmjnenjeckeklaa.V
open Go Go.RowKit
abbrev Ent := Option (Value × Nat × List C)
def ov (m since : Nat) (seen : List Nat) (last : Nat) : Az where
  rep := fun w v F => ∃ b, v = .pointer (some ⟨b, 0, none⟩) ∧ w.heap[b]? = some (.mapIter (some m) since seen.toArray last) ∧ F = [b]
  frame := by rintro w w' v F ⟨b, rfl, h1, rfl⟩ hw; exact ⟨b, rfl, (hw b (aN ..)).trans h1, rfl⟩
  lt := by rintro w v F ⟨b, rfl, h1, rfl⟩ b' hb; rw [aE.mp hb]; exact kD h1
  one := by rintro w v F ⟨b, rfl, _⟩; exact ⟨rfl, rfl⟩
  isp := false
  ptr := by intro h; cases h
section
variable {P : Program} {ET : TypeId} {w w' : World} {R : Nat → Prop} {K : Ctx} {σ : St} {a : Act} {Fs : Nat → List Nat} {o : Oper} {d : Nat}
theorem jP.Uw {q q' : Az} {c : C} {pl : Pl} {r m : Nat} {G : List Nat} {S : Value → List Nat → Prop} (hs : jP K σ a w Fs) (hG : rG K Fs G) (hr : σ r = .u (.c c)) (hx : cellAt c pl = some (.x q)) (ho : ko c pl = true) (hk : iB w [m] w') (hcell : ∀ ad v, w.cell? ad = some v → w'.cell? ad = some v)
    (hq : ∀ y Fx, nI w a.tmps r pl = some y → q.rep w y Fx → Fx.Nodup → (∀ b ∈ Fx, b ∉ G) → m ∈ Fx ∧ ∃ Fx' H, q'.rep w' y Fx' ∧ (Fx' ++ H).Nodup ∧ (∀ b ∈ Fx' ++ H, b ∈ Fx ∨ b ∈ G) ∧ S y H) : ∃ Fs' y H, S y H ∧ jP K (jN σ r (.u (.c (setAt c pl (.x q'))))) a w' Fs' ∧ rG K Fs' H := by
 have h1 := hs.rep r; rw [hr] at h1; have hnd := hs.nd r; have hdi := fun j b (hj : j ≠ r) (hb : b ∈ Fs r) (jD : b ∈ Fs j) => hj (hs.dis j r b jD hb); have how := hs.own r; have hout := hs.out r; have hGd := hG.2; generalize hv : a.tmps.getD r undef = v at h1; generalize hFr : Fs r = F at h1 hnd hdi how
 cases h1 with
 | u h1 => cases h1 with
   | c h1 =>
     obtain ⟨y, Fo, Fx, e1, e2, h2, h3⟩ := iz.cell (tmps := a.tmps) (r := r) hv h1 hnd hx ho
     have ql : (Fo ++ Fx).Nodup := e2.nodup_iff.mp hnd
     obtain ⟨n1, n2, n3⟩ := ax.mp ql
     have hFx : ∀ b ∈ Fx, b ∈ F := fun b hb => e2.mem_iff.mpr (ah _ hb)
     have hFo : ∀ b ∈ Fo, b ∈ F := fun b hb => e2.mem_iff.mpr (an _ hb)
     cases h2 with
     | x h2 =>
       obtain ⟨hm, Fx', H, h4, h5', Zn, hS⟩ := hq y Fx e1 h2 n2 (fun b hb hg => (hGd b hg).1 r (by rw [hFr]; exact hFx b hb))
       obtain ⟨h5, h5H, h5d⟩ := ax.mp h5'
       have h6 : ∀ b ∈ Fx', b ∈ Fx ∨ b ∈ G := fun b hb => Zn b (an _ hb)
       have hRm : ∀ b, K.R b → b ≠ m := fun b hb e => by subst e; exact (how b (hFx b hm)).1 hb
       have hRlt : ∀ b, K.R b → b < w.heap.size := fun b hb => bp (hs.ro b hb).1 hs.keeps.size
       have hFlt : ∀ b ∈ F, b < w.heap.size := by intro b hb; rw [← hFr] at hb; exact (hs.rep r).lt b hb
       obtain ⟨F2, h7, h8⟩ := h3 w' (.x q') Fx' (fun b hb => by
         rcases hb with hb | hb
         · exact hk.block b (hFlt b (hFo b hb)) (fun e => by rw [aE] at e; subst e; exact n3 b hb b hm rfl)
         · exact hk.block b (hRlt b hb) (fun e => by rw [aE] at e; exact hRm b hb e)) (.x h4)
       have hmF : m ∈ F := hFx m hm
       have h9 := hout.KT (E1 := [m]) (w' := w') hk (fun b hb => by rw [aE.mp hb]; exact (how m hmF).2) (fun j b hb e => by
         rw [aE] at e; subst e
         unfold jZ at hb
         split at hb
         · cases hb
         · rename_i hne; exact hdi j b hne hmF hb) (fun b hb => by rw [aE.mp hb]; exact (how m hmF).1) (fun ad v h _ => hcell ad v h)
       have hsub : ∀ b ∈ F2, b ∈ F ∨ b ∈ G := by
         intro b hb
         rcases aT.mp (h8.mem_iff.mp hb) with hb | hb
         · exact .inl (hFo b hb)
         · exact (h6 b hb).imp (hFx b) id
       have Zo : F2.Nodup := by
         rw [h8.nodup_iff, ax]
         refine ⟨n1, h5, fun b hb b2 jD e => ?_⟩
         subst e
         rcases h6 b jD with h | h
         · exact n3 b hb b h rfl
         · exact (hGd b h).1 r (by rw [hFr]; exact hFo b hb)
       have h10 := h9.MG (i := r) (t := .u (.c (setAt c pl (.x q')))) (F := F2) (by rw [hv]; exact .u (.c h7)) Zo (fun j hj b hb jD => by
         unfold jZ at jD
         try rw [ag hj] at jD
         rcases hsub b hb with h | h
         · exact hdi j b hj h jD
         · exact (hGd b h).1 j jD) (fun b hb => (hsub b hb).elim (how b) (fun h => (hGd b h).2))
       rw [rE] at h10
       refine ⟨_, y, H, hS, h10, h5H, fun b hb => ⟨fun j hj => ?_, ?_⟩⟩
       · have hbG := Zn b (ah _ hb)
         unfold jZ at hj
         split at hj
         · rcases aT.mp (h8.mem_iff.mp hj) with h | h
           · rcases hbG with hx | hg
             · exact n3 b h b hx rfl
             · exact (hGd b hg).1 r (by rw [hFr]; exact hFo b h)
           · exact h5d b h b hb rfl
         · rename_i hne
           try rw [ag hne] at hj
           rcases hbG with hx | hg
           · exact hdi j b hne (hFx b hx) hj
           · exact (hGd b hg).1 j hj
       · rcases Zn b (ah _ hb) with hx | hg
         · exact how b (hFx b hx)
         · exact (hGd b hg).2
theorem jP.yW {q q' : Az} {c : C} {pl : Pl} {r m : Nat} {G : List Nat} (hs : jP K σ a w Fs) (hG : rG K Fs G) (hr : σ r = .u (.c c)) (hx : cellAt c pl = some (.x q)) (ho : ko c pl = true) (hk : iB w [m] w') (hcell : ∀ ad v, w.cell? ad = some v → w'.cell? ad = some v)
    (hq : ∀ y Fx, nI w a.tmps r pl = some y → q.rep w y Fx → Fx.Nodup → (∀ b ∈ Fx, b ∉ G) → m ∈ Fx ∧ ∃ Fx', q'.rep w' y Fx' ∧ Fx'.Nodup ∧ ∀ b ∈ Fx', b ∈ Fx ∨ b ∈ G) : ∃ Fs', jP K (jN σ r (.u (.c (setAt c pl (.x q'))))) a w' Fs' := by
 obtain ⟨Fs', _, _, _, h, _⟩ := hs.Uw (S := fun _ _ => True) hG hr hx ho hk hcell (fun y Fx h1 h2 h3 h4 => by
  obtain ⟨h5, Fx', h6, h7, h8⟩ := hq y Fx h1 h2 h3 h4
  exact ⟨h5, Fx', [], h6, by simpa using h7, by simpa using h8, trivial⟩)
 exact ⟨Fs', h⟩
theorem jP.qE {q : Az} {c : C} {pl : Pl} {r : Nat} (hs : jP K σ a w Fs) (hr : σ r = .u (.c c)) (hx : cellAt c pl = some (.x q)) (ho : ko c pl = true) : ∃ y Fx, nI w a.tmps r pl = some y ∧ q.rep w y Fx ∧ ∀ b ∈ Fx, b ∈ Fs r := by
 have h1 := hs.rep r; rw [hr] at h1; have hnd := hs.nd r; generalize hv : a.tmps.getD r undef = v at h1; generalize Fs r = F at h1 hnd
 cases h1 with
 | u h1 => cases h1 with
   | c h1 =>
     obtain ⟨y, Fo, Fx, e1, e2, h2, h3⟩ := iz.cell (tmps := a.tmps) (r := r) hv h1 hnd hx ho
     cases h2 with
     | x h2 => exact ⟨y, Fx, e1, h2, fun b hb => e2.mem_iff.mpr (ah _ hb)⟩
theorem qT {m : Nat} {es : Array MapEntry} {clock : Nat} {o' : Obj} (hb : w.heap[m]? = some (.map es clock)) : ∀ ad v, w.cell? ad = some v → (ChangeMaps.setBlock w m o').cell? ad = some v := by
 intro ad v h; by_cases e : ad.block = m
 · unfold World.cell? at h; rw [e, hb] at h; cases h
 · rw [← h]; apply pX; simp [ChangeMaps.setBlock, dz e]
theorem lf {m : Nat} {o' : Obj} : iB w [m] (ChangeMaps.setBlock w m o') := ⟨rfl, rfl, rfl, by simp [ChangeMaps.setBlock], fun b _ hb => by
  have : b ≠ m := fun e => hb (by simp [e])
  simp [ChangeMaps.setBlock, dz this]⟩
theorem nW {m : Nat} {o o' : Obj} (h : w.heap[m]? = some o) : (ChangeMaps.setBlock w m o').heap[m]? = some o' := by
 have := kD h; simp [ChangeMaps.setBlock, this]
theorem kS {b m : Nat} {o' : Obj} (h : b ≠ m) : (ChangeMaps.setBlock w m o').heap[b]? = w.heap[b]? := by
 simp [ChangeMaps.setBlock, dz h]
end
end Go.Proofs.Ytmjnenjeckeklaa.V
namespace Go.Proofs.Ytmjnenjeckeklaa.V
open Go Go.RowKit
def Tw : Az where
  rep := fun _ v F => (v.cells = #[v] ∧ v.oneCell' = true) ∧ F = []
  frame := fun h _ => h
  lt := by rintro w v F ⟨_, rfl⟩ b hb; cases hb
  one := fun h => h.1
  isp := false
  ptr := by intro h; cases h
def Hf : C → C
  | .v x => .v x
  | .err t => .err t
  | .dead => .dead
  | _ => .x Tw
section
variable {P : Program} {ET : TypeId} {w w' : World} {R R' : Nat → Prop} {K : Ctx} {σ : St} {a : Act} {Fs : Nat → List Nat} {o : Oper} {d : Nat}
theorem iz.drop {x : Value} {c : C} {F : List Nat} (h : iz ET w R x c F) : iz ET w R' x (Hf c) [] := by
 cases h with
 | v h => exact .v h
 | err t => exact .err t
 | dead x => exact .dead x
 | _ => first
   | exact .x ⟨⟨rfl, rfl⟩, rfl⟩
   | (rename_i q h; exact .x ⟨q.one h, rfl⟩)
theorem ig.dropped {xs : List Value} {cs : List C} {F : List Nat} (h : ig ET w R xs cs F) : ig ET w R' xs (cs.map Hf) [] := by
 induction cs generalizing xs F with
 | nil => cases h; exact .nil
 | cons c cs ih => cases h with | cons h t => exact .cons (F := []) (G := []) h.drop (ih t)
theorem zo {b m s l : Nat} {sn : Array Nat} {o' : Obj} (hb : w.heap[b]? = some (.mapIter (some m) s sn l)) : ∀ ad v, w.cell? ad = some v → (ChangeMaps.setBlock w b o').cell? ad = some v := by
 intro ad v h; by_cases e : ad.block = b
 · unfold World.cell? at h; rw [e, hb] at h; cases h
 · rw [← h]; apply pX; simp [ChangeMaps.setBlock, dz e]
end
end Go.Proofs.Ytmjnenjeckeklaa.V
namespace Go.Proofs.Ytmjnenjeckeklaa.V
open Go Go.RowKit
section
variable {P : Program} {ET : TypeId} {w w' : World} {R R' : Nat → Prop} {K : Ctx} {σ : St} {a : Act} {Fs : Nat → List Nat} {o : Oper} {d : Nat}
theorem xB {ks : List Value} (h : ks.all ot = true) : ig ET w R ks (ks.map C.v) [] := by
 induction ks with
 | nil => exact .nil
 | cons k ks ih =>
  simp only [cM, ai] at h; exact .cons (F := []) (G := []) (.v h.1) (ih h.2)
theorem Kl {t i r n : Nat} {cs : List C} (ho : o.op = .load t (.tmp i)) (ht : B1 P t n) (hi : jA i (σ i) = .addr r .d [] 0) (hr : σ r = .u (.c (.pt true cs))) (hl : cs.length = n) (hd : o.dst = some d) (hn : mX K d = true) :
    Step P K σ o (put (jN σ r (.u (.c (.pt true (cs.map Hf))))) d (.u (.agg cs))) := by
     rintro a w ⟨Fs, hs⟩; have hal := (xz.tmp hi).rep hs; have h1 := hs.rep r; rw [hr] at h1; have hnd := hs.nd r; have hdi := fun j b (hj : j ≠ r) (hb : b ∈ Fs r) (jD : b ∈ Fs j) => hj (hs.dis j r b jD hb); have how := hs.own r; have hout := hs.out r; generalize hv : a.tmps.getD r undef = v at h1; generalize hFr : Fs r = F at h1 hnd hdi how; generalize Tl : a.eval (.tmp i) = v2 at hal
     cases hal with
     | @addr _ _ b2 o2 _ _ Dw =>
     cases h1 with
     | u h1 => cases h1 with
       | c h1 => cases h1 with
         | @pt b own arr et cs F1 F' hb hrep hown =>
           rcases hown with ⟨_, rfl⟩ | ⟨h, _⟩
           · rw [hv] at Dw
             simp only [walk, su, aC, bE] at Dw
             obtain ⟨rfl, rfl⟩ := Dw
             have hsz : arr.size = n := by rw [← hl, ← hrep.length]; simp
             have hrun : (execOp a.eval o).run P w = .ok (.value (.agg arr)) w := by
               have := qU (P := P) ht hb (o := 0 + 0) (by omega)
               rw [show ((arr.toList.drop (0 + 0)).take n).toArray = arr by rw [aG, cl, ← hsz, ← bU, dn]] at this
               simp only [execOp, ho, Tl, Sem.run_bind, this, Result.andThen_ok, Sem.run_pure]
             simp only [Oper.wp, hrun, Oper.upon_value, hd]
             obtain ⟨n1, n2⟩ := bh.mp hnd
             have h2 := hout.MG (i := r) (t := .u (.c (.pt true (cs.map Hf)))) (F := [b]) (by rw [hv]; exact .u (.c (.pt hb hrep.dropped (.inl ⟨rfl, rfl⟩)))) (by simp) (fun j hj b' hb' jD => by
               rw [aE] at hb'
               subst hb'
               unfold jZ at jD
               try rw [ag hj] at jD
               exact hdi j _ hj (aN ..) jD) (fun b' hb' => by rw [aE.mp hb']; exact how b (aN ..))
             rw [rE] at h2
             exact ⟨_, h2.o6 hn (iB.refl _ _) (F := F1) (fun b' hb' => ⟨fun j hj => by
               unfold jZ at hj
               split at hj
               · rw [aE] at hj; subst hj; exact n1 hb'
               · rename_i hne
                 try rw [ag hne] at hj
                 exact hdi j b' hne (aU _ hb') hj, how b' (aU _ hb')⟩) n2 (.u (.agg hrep))⟩
           · cases h
end
end Go.Proofs.Ytmjnenjeckeklaa.V
namespace Go.Proofs.Ytmjnenjeckeklaa.V
open Go Go.RowKit
section
variable {P : Program} {K : Ctx} {σ σ' : St} {o : Oper} {d : Nat} {ops : Array Oper} {t : T}
def RP (P : Program) (t : TypeId) : Bool := (match P.underlying t with
  | some q => !q.isRow
  | none => false) && (P.info? t).map (·.size) == some 1
def Lb (P : Program) (t : TypeId) (n : Nat) : Bool := (match P.underlying t with
  | some q => q.isRow
  | none => false) && (P.info? t).map (·.size) == some n && Nat.blt 0 n
def ry (P : Program) (t : TypeId) : Nat := match P.info? t with
  | some i => i.size
  | none => 0
def RQ (P : Program) (s f : Nat) : Option Nat := match P.underlying s with
  | some (.struct fields) => match fields[f]? with
    | some fd => if Nat.blt 0 (ry P fd.type) then some fd.offset else none
    | none => none
  | _ => none
theorem gW {t : TypeId} (h : RP P t = true) : FC P t := by
 unfold RP at h; simp only [ai, bG] at h; obtain ⟨h1, h2⟩ := h; refine ⟨?_, h2⟩
 cases hq : P.underlying t with
 | none => rw [hq] at h1; cases h1
 | some q => rw [hq] at h1; exact ⟨q, rfl, by simpa using h1⟩
theorem oS {t n : Nat} (h : Lb P t n = true) : B1 P t n := by
 unfold Lb at h; simp only [ai, bG] at h; obtain ⟨⟨h1, h2⟩, h3⟩ := h; refine ⟨?_, h2, fk (by simpa [Nat.blt] using h3)⟩
 cases hq : P.underlying t with
 | none => rw [hq] at h1; cases h1
 | some q => rw [hq] at h1; exact ⟨q, rfl, h1⟩
theorem LN {t : Nat} (h : Nat.blt 0 (ry P t) = true) : (P.info? t).map (·.size) = some (ry P t) ∧ ∃ i, P.info? t = some i ∧ i.size = ry P t ∧ i.size ≠ 0 := by
 unfold ry at *
 cases hi : P.info? t with
 | none => rw [hi] at h; cases h
 | some i =>
  rw [hi] at h; refine ⟨rfl, i, rfl, rfl, ?_⟩; have : 1 ≤ i.size := by simpa [Nat.blt] using h
  omega
theorem Ow {s f off : Nat} (h : RQ P s f = some off) : LO P s f off := by
 unfold RQ at h; split at h
 · rename_i fields hu; split at h
   · rename_i fd hf; split at h
     · rename_i hs; injection h with h; obtain ⟨_, i, h1, _, h2⟩ := LN hs; exact ⟨fields, fd, i, hu, hf, h, h1, h2⟩
     · cases h
   · cases h
 · cases h
def rdC (r : Nat) (s : kG) (p : List (Nat × kG)) (off : Nat) (x : C) : Option T := match x with
  | .v v => some (.u (.c (.v v)))
  | .err e => some (.u (.c (.err e)))
  | .sl true sz rows => some (.whole r (some (s, p, off)) sz rows.length)
  | .sl false sz rows => some (.u (.c (.sl false sz rows)))
  | .pt true _ => some (.addr r s (p ++ [(off, .d)]) 0)
  | .pt false cs => some (.u (.c (.pt false cs)))
  | .x q => if q.dup then some (.u (.c (.x q))) else none
  | _ => none
def y7 (P : Program) (K : Ctx) (σ : St) (o : Oper) (d : Nat) : Option T := match o.op with
  | .load t (.tmp i) => match jA i (σ i) with
    | .addr r s p off => match σ r with
      | .u (.c c) => match nx c s p with
        | some cs => if Nat.beq r d then none else if RP P t then (match cs[off]? with
            | some x => rdC r s p off x
            | none => none)
          else if Lb P t (ry P t) && Nat.beq ((cs.drop off).take (ry P t)).length (ry P t) && ((cs.drop off).take (ry P t)).all lR then some (.u (.agg ((cs.drop off).take (ry P t)))) else none
        | none => none
      | _ => none
    | _ => none
  | _ => none
theorem AV (h : y7 P K σ o d = some t) (hd : o.dst = some d) (hn : mX K d = true) : Step P K σ o (put σ d t) := by
 unfold y7 at h; split at h
 · rename_i ty i ho; split at h
   · rename_i r s p off hi; split at h
     · rename_i c hr; split at h
       · rename_i cs hg; split at h
         · cases h
         · rename_i hrd; have hrd : (r == d) = false := by simpa using hrd
           split at h
           · rename_i ht; split at h
             · rename_i x hx; unfold rdC at h; split at h
               · injection h with h; subst h; exact jF ho (gW ht) hi hr hg hx rfl hd hn
               · injection h with h; subst h; exact jF ho (gW ht) hi hr hg hx rfl hd hn
               · injection h with h; subst h; exact ny ho (gW ht) hi hr hg hx hd hn hrd
               · injection h with h; subst h; exact jF ho (gW ht) hi hr hg hx rfl hd hn
               · injection h with h; subst h; exact Ox ho (gW ht) hi hr hg hx hd hn hrd
               · injection h with h; subst h; exact jF ho (gW ht) hi hr hg hx rfl hd hn
               · split at h
                 · rename_i hq; injection h with h; subst h; exact jF ho (gW ht) hi hr hg hx hq hd hn
                 · cases h
               · cases h
             · cases h
           · split at h
             · rename_i hb; simp only [ai] at hb; injection h with h; subst h; exact wj ho (oS hb.1.1) hi hr hg rfl (cy hb.1.2) hb.2 hd hn
             · cases h
       · cases h
     · cases h
   · cases h
 · cases h
def vF (P : Program) (σ : St) (o : Oper) (d : Nat) : Option T := match o.op with
  | .fieldAddr s (.tmp i) f => match jA i (σ i) with
    | .addr r sl p off => match RQ P s f with
      | some foff => if Nat.beq r d then none else some (.addr r sl p (off + foff))
      | none => none
    | _ => none
  | _ => none
theorem y9 (h : vF P σ o d = some t) (hd : o.dst = some d) (hn : mX K d = true) : Step P K σ o (put σ d t) := by
 unfold vF at h; split at h
 · rename_i s i f ho; split at h
   · rename_i r sl p off hi; split at h
     · rename_i foff hf; split at h
       · cases h
       · rename_i hrd; injection h with h; subst h; exact Oy ho (Ow hf) hi hd hn (by simpa using hrd)
     · cases h
   · cases h
 · cases h
def isEq : BinOp → Option Bool
  | .eql => some true
  | .neq => some false
  | _ => none
def RR (P : Program) (t : TypeId) : Bool := (P.info? t).map (·.comparable) == some true && match P.underlying t with
  | some (.int _) => true
  | _ => false
def GC (P : Program) (t : TypeId) : Bool := match P.underlying t with
  | some (.interface _) => true
  | _ => false
def Oz (P : Program) (t : TypeId) : Bool := match P.underlying t with
  | some (.pointer _) => true
  | _ => false
def LP (P : Program) (t : TypeId) : Bool := match P.underlying t with
  | some .bool => true
  | _ => false
def OA : Operand → Bool
  | .const (.pointer none) => true
  | _ => false
def isConst : Operand → Bool
  | .const _ => true
  | _ => false
theorem OB {op : BinOp} {b : Bool} (h : isEq op = some b) : op = .eql ∧ b = true ∨ op = .neq ∧ b = false := by
 cases op <;> simp [isEq] at h <;> simp [h]
def J3 (P : Program) (K : Ctx) (σ : St) (o : Oper) : Option T := match o.op with
  | .binOp op xt x y _ => match isEq op with
    | some e => match mV K.ET σ x, mV K.ET σ y with
      | .u (.c (.v (.bool p))), .u (.c (.v (.bool q))) => if LP P xt then some (.u (.c (.v (.bool (if e then p == q else !(p == q)))))) else none
      | .u (.c (.err p)), .u (.c (.err q)) => if GC P xt && RR P K.ET && (isConst x || isConst y || q.isSome) then some (.u (.c (.v (.bool (if e then p == q else !(p == q)))))) else none
      | .addr _ _ _ _, _ => if OA y && Oz P xt then some (.u (.c (.v (.bool (!e))))) else none
      | .u (.c (.v (.pointer none))), _ => if OA y && Oz P xt then some (.u (.c (.v (.bool e)))) else none
      | _, _ => none
    | none => none
  | _ => none
theorem Ia {y : Operand} (h : OA y = true) : y = .const (.pointer none) := by
 unfold OA at h; split at h
 · rfl
 · cases h
theorem Ao {y : Operand} (h : isConst y = true) : ∃ v, y = .const v := by
 unfold isConst at h; split at h
 · exact ⟨_, rfl⟩
 · cases h
theorem yF {t : TypeId} (h : Oz P t = true) : Q7 P t := by
 unfold Oz at h; split at h
 · rename_i h1; exact ⟨_, h1⟩
 · cases h
theorem BI {t : TypeId} (h : GC P t = true) : FN P t := by
 unfold GC at h; split at h
 · rename_i h1; exact ⟨_, h1⟩
 · cases h
theorem Ew {t : TypeId} (h : LP P t = true) : PD P t := by
 unfold LP at h; split at h
 · rename_i h1; exact h1
 · cases h
theorem jv {t : TypeId} (h : RR P t = true) : NU P t := by
 unfold RR at h; simp only [ai, bG] at h; obtain ⟨h1, h2⟩ := h; refine ⟨h1, ?_⟩; split at h2
 · rename_i h3; exact ⟨_, h3⟩
 · cases h2
theorem G6 (h : J3 P K σ o = some t) (hd : o.dst = some d) (hn : mX K d = true) : Step P K σ o (put σ d t) := by
 unfold J3 at h; split at h
 · rename_i op xt x y yt ho; split at h
   · rename_i e he; have hop := OB he; split at h
     · rename_i p q hx hy; split at h
       · rename_i hb; injection h with h; subst h; rcases hop with ⟨rfl, rfl⟩ | ⟨rfl, rfl⟩
         · exact PE ho (.inl rfl) (Ew hb) hx hy hd hn
         · exact PE ho (.inr rfl) (Ew hb) hx hy hd hn
       · cases h
     · rename_i p q hx hy; split at h
       · rename_i hb; simp only [ai, bI] at hb; injection h with h; subst h; have hg : p ≠ none ∨ q ≠ none ∨ (∃ v, x = .const v) ∨ ∃ v, y = .const v := hb.2.elim (fun h => h.elim (fun h => .inr (.inr (.inl (Ao h)))) (fun h => .inr (.inr (.inr (Ao h))))) (fun h => .inr (.inl (fun e => by rw [e] at h; cases h))); rcases hop with ⟨rfl, rfl⟩ | ⟨rfl, rfl⟩
         · exact PF ho (.inl rfl) (BI hb.1.1) (jv hb.1.2) hx hy hg hd hn
         · exact PF ho (.inr rfl) (BI hb.1.1) (jv hb.1.2) hx hy hg hd hn
       · cases h
     · rename_i hx; split at h
       · rename_i hb; simp only [ai] at hb; injection h with h; subst h; have := Ia hb.1; subst this; rcases hop with ⟨rfl, rfl⟩ | ⟨rfl, rfl⟩
         · exact PG ho (.inl rfl) (yF hb.2) hx hd hn
         · exact PG ho (.inr rfl) (yF hb.2) hx hd hn
       · cases h
     · rename_i hx; split at h
       · rename_i hb; simp only [ai] at hb; injection h with h; subst h; have := Ia hb.1; subst this; rcases hop with ⟨rfl, rfl⟩ | ⟨rfl, rfl⟩
         · exact KW ho (.inl rfl) (yF hb.2) hx hd hn
         · exact KW ho (.inr rfl) (yF hb.2) hx hd hn
       · cases h
     · cases h
   · cases h
 · cases h
def XC (P : Program) (K : Ctx) (ops : Array Oper) (j : Nat) (σ : St) (d : Nat) : Option T :=
  match ops[j]? with
  | some o => match o.guard with
    | none => match o.dst with
      | some d' => if Nat.beq d' d && mX K d then (match AU K.ET σ o.op with
        | some t => if refs t d then none else some t
        | none => match y7 P K σ o d with
          | some t => some t
          | none => match vF P σ o d with
            | some t => some t
            | none => J3 P K σ o)
        else none
      | none => none
    | some _ => none
  | none => none
theorem XD {j : Nat} (h : XC P K ops j σ d = some t) : mg P K ops j σ (put σ d t) := by
 unfold XC at h; split at h
 · rename_i o ho; split at h
   · rename_i hg; split at h
     · rename_i d' hd; split at h
       · rename_i hb; simp only [ai] at hb; obtain ⟨wR, jD⟩ := hb; have : d' = d := cy wR; subst this; refine fX ho hg ?_; split at h
         · rename_i t' hp; split at h
           · cases h
           · rename_i hr; cases h; exact SM hp hd jD (by simpa using hr)
         · split at h
           · rename_i t' hp; cases h; exact AV hp hd jD
           · split at h
             · rename_i t' hp; cases h; exact y9 hp hd jD
             · exact G6 h hd jD
       · cases h
     · cases h
   · cases h
 · cases h
def at_ (σ : St) (l : List (Nat × T)) : List (Nat × T) := l.map fun p => (p.1, σ p.1)
theorem gm {l : List (Nat × T)} (h : at_ σ l = l) : ∀ i, St.of l i = σ i ∨ St.of l i = .junk := by
 intro i; unfold St.of
 cases hl : l.lookup i with
 | none => exact .inr rfl
 | some t =>
  left; have hm := nT hl
  have : ∀ p ∈ l, (p.1, σ p.1) = p := by
   unfold at_ at h; clear hm hl
   induction l with
   | nil => simp
   | cons q l ih =>
    simp only [aK, List.cons.injEq] at h; intro p hp; rcases bx.mp hp with rfl | hp
    · exact h.1
    · exact ih h.2 p hp
  have := this _ hm; injection this with _ this; exact this.symm
theorem Tt {id n : Nat} {Q : Exit → St → Prop} {σ1 : St} {l : List (Nat × T)} (h : nG P K ops 0 n σ σ1) (hn : n = ops.size) (hl : at_ σ1 l = l) (hq : Q .normal (St.of l)) : lC P K (.region id ops false) σ Q := by
 subst hn; intro a w hs; refine wp_mono (LQ (id := id) (Q := fun e s => e = .normal ∧ s = σ1) h ⟨rfl, rfl⟩ a w hs) ?_; rintro e a' w' ⟨s, h1, rfl, rfl⟩; exact ⟨St.of l, h1.weaken (gm hl), hq⟩
theorem gD {c : Operand} {x y : Code} {b : Bool} {Q : Exit → St → Prop} (hb : b = true) (hc : mV K.ET σ c = .u (.c (.v (.bool b)))) (h : lC P K x σ Q) : lC P K (.cond c x y) σ Q := by
 subst hb; exact LR hc (by simpa using h)
theorem gJ {c : Operand} {x y : Code} {b : Bool} {Q : Exit → St → Prop} (hb : b = false) (hc : mV K.ET σ c = .u (.c (.v (.bool b)))) (h : lC P K y σ Q) : lC P K (.cond c x y) σ Q := by
 subst hb; exact LR hc (by simpa using h)
def LS (P : Program) (t : TypeId) : Option (List (Nat × Nat)) := match P.underlying t with
  | some (.struct fields) => if fields.toList.all (fun f => (P.info? f.type).isSome) then some (fields.toList.map fun f => (f.offset, ry P f.type)) else none
  | _ => none
theorem LU {α β : Type} {f : α → Sem β} {g : α → β} {w : World} : ∀ {l : List α}, (∀ x ∈ l, (f x).run P w = .ok (g x) w) → (l.mapM f).run P w = .ok (l.map g) w := by
 intro l
 induction l with
 | nil => intro _; rfl
 | cons x l ih =>
  intro h; rw [List.mapM_cons, Sem.run_bind, h x (aN ..), Result.andThen_ok, Sem.run_bind, ih (fun y hy => h y (aU _ hy)), Result.andThen_ok]; rfl
theorem oG {t : TypeId} {pl : List (Nat × Nat)} (h : LS P t = some pl) : rH P t pl := by
 unfold LS at h; split at h
 · rename_i fields hu; split at h
   · rename_i hall; injection h with h; subst h; refine ⟨fields, hu, fun w => ?_⟩; rw [← Array.toArray_toList (xs := fields), List.mapM_toArray, ek]
     have := LU (P := P) (w := w) (f := (fun f => do pure (f.offset, ← sizeOf f.type) : Field → Sem (Nat × Nat))) (g := fun f => (f.offset, ry P f.type)) (l := fields.toList) (fun x hx => by
      have h1 := aV.mp hall x hx; obtain ⟨i, hi⟩ := cX.mp h1
      simp [sizeOf, typeInfo, hi, ry, Result.andThen])
     rw [Sem.run_map, this]; rfl
   · cases h
 · cases h
def Ib (P : Program) (t : TypeId) : Option (List Value) := match P.info? t with
  | some i => match i.zero with
    | some z => some z.cells.toList
    | none => none
  | none => none
theorem oU {t : TypeId} {vs : List Value} {cs : List C} (h : Ib P t = some vs) (hr : ∀ ET w R, ig ET w R vs cs []) : sw P t cs := by
 unfold Ib at h; split at h
 · rename_i i hi; split at h
   · rename_i z hz; injection h with h; subst h; exact ⟨i, z, hi, hz, hr⟩
   · cases h
 · cases h
def ZW (P : Program) (t sz bytes : Nat) : Bool := match P.underlying t with
  | some (.slice e) => match P.info? e with
    | some i => Nat.beq i.size sz && Nat.beq i.bytes bytes && Nat.blt 0 sz
    | none => false
  | _ => false
theorem vn {t sz bytes : Nat} (h : ZW P t sz bytes = true) : nS P t sz bytes := by
 unfold ZW at h; split at h
 · rename_i e hu; split at h
   · rename_i i hi; simp only [ai] at h; exact ⟨e, i, hu, hi, cy h.1.1, cy h.1.2, fk (by simpa [Nat.blt] using h.2)⟩
   · cases h
 · cases h
end
end Go.Proofs.Ytmjnenjeckeklaa.V
namespace Go.Proofs.Ytmjnenjeckeklaa.V
open Go Go.RowKit
section
variable {P : Program} {ET : TypeId} {w w' : World} {R : Nat → Prop} {K : Ctx} {σ σ' : St} {a : Act} {Fs : Nat → List Nat} {o : Oper} {d : Nat} {ops : Array Oper}
theorem GM {c : Code} {Q : Exit → St → Prop} {α : Type} (L : α → List (Nat × T)) (g : Nat → α → Prop) (hstep : ∀ n x, g (n + 1) x → lC P K c (St.of (L x)) (Dr (fun σ' => ∃ y, g n y ∧ ∀ i, St.of (L y) i = σ' i ∨ St.of (L y) i = .junk) Q)) (h0 : ∀ x, ¬ g 0 x) : ∀ n x, g n x → Dc P K c n (St.of (L x)) Q := by
 intro n
 induction n with
 | zero => intro x h; exact absurd h (h0 x)
 | succ n ih =>
  intro x h; refine fun a w hs => wp_mono (hstep n x h a w hs) ?_; rintro e a' w' ⟨s, h1, h2⟩
  cases e <;> first
    | exact ⟨s, h1, h2⟩
    | (obtain ⟨y, h3, h4⟩ := h2; exact EI h4 (ih y h3) _ _ h1)
theorem lI {c : Code} {Q : Exit → St → Prop} {α : Type} (L : α → List (Nat × T)) (g : Nat → α → Prop) (n : Nat) (x : α) (hx : g n x) (h0 : ∀ x, ¬ g 0 x) (hstep : ∀ n x, g (n + 1) x → lC P K c (St.of (L x)) (Dr (fun σ' => ∃ y, g n y ∧ ∀ i, St.of (L y) i = σ' i ∨ St.of (L y) i = .junk) Q)) : lC P K (.loop c) (St.of (L x)) Q :=
  Sd n (GM L g hstep h0 n x hx)
theorem gR {α : Type} {b : Bool} {x y : Option α} {r : α} (hb : b = true) (h : (bif b then x else y) = some r) : x = some r := by subst hb; exact h
theorem gS {α : Type} {b : Bool} {x y : Option α} {r : α} (hb : b = false) (h : (bif b then x else y) = some r) : y = some r := by subst hb; exact h
theorem bind_some {α β : Type} {x : Option α} {f : α → Option β} {r : β} (h : x.bind f = some r) : ∃ y, x = some y ∧ f y = some r := by
 cases x with
 | none => cases h
 | some y => exact ⟨y, rfl, h⟩
theorem gC {α : Type} {b : Bool} {x : Option α} {r : α} (h : (bif b then x else none) = some r) : b = true ∧ x = some r := by
 cases b with
 | false => cases h
 | true => exact ⟨rfl, h⟩
def OS : U → Option Value
  | .c (.v x) => some x
  | .agg cs => (qq cs).map fun xs => .agg xs.toArray
  | _ => none
def EJ : List U → Option (List Value)
  | [] => some []
  | u :: us => match OS u, EJ us with
    | some x, some xs => some (x :: xs)
    | _, _ => none
theorem ig.vals {xs : List Value} {cs : List C} {F : List Nat} (h : ig ET w R xs cs F) {ys : List Value} (hy : qq cs = some ys) : xs = ys ∧ F = [] := by
 induction cs generalizing xs ys F with
 | nil => cases h; simp only [qq, aC] at hy; exact ⟨hy, rfl⟩
 | cons c cs ih =>
  cases h with
  | @cons x0 _ zs _ F0 G h t =>
   simp only [qq] at hy; split at hy
   · rename_i y ys' h1 h2; injection hy with hy; subst hy; obtain ⟨e1, e2⟩ := ih t h2; cases c <;> simp only [NV] at h1 <;> try cases h1
     cases h with
     | v h => exact ⟨by rw [e1], by rw [e2]; rfl⟩
   · cases hy
theorem ke.vals {xs : List Value} {us : List U} {F : List Nat} (h : ke ET w R xs us F) {ys : List Value} (hy : EJ us = some ys) : xs = ys ∧ F = [] := by
 induction us generalizing xs ys F with
 | nil => cases h; simp only [EJ, aC] at hy; exact ⟨hy, rfl⟩
 | cons u us ih =>
  cases h with
  | @cons x0 _ zs _ F0 G h t =>
   simp only [EJ] at hy; split at hy
   · rename_i y ys' h1 h2; injection hy with hy; subst hy; obtain ⟨e1, e2⟩ := ih t h2
     cases h with
     | c h => cases h <;> simp only [OS] at h1 <;> try cases h1
              exact ⟨by rw [e1], by rw [e2]; rfl⟩
     | @agg arr cs _ h =>
      simp only [OS] at h1
      cases hv : qq cs with
      | none => rw [hv] at h1; cases h1
      | some xs' =>
       rw [hv] at h1; simp only [ct, aC] at h1; obtain ⟨e3, e4⟩ := h.vals hv; subst h1; refine ⟨?_, by rw [e2, e4]; rfl⟩; rw [e1, ← e3]
     | fn h => simp only [OS] at h1; cases h1
   · cases hy
theorem Vi {vs : List Value} {ins : List U} (h : vs.length = ins.length) : qI ET w R vs (ins.map fun _ => none) [] := by
 induction ins generalizing vs with
 | nil => cases vs with
   | nil => exact .nil
   | cons _ _ => simp at h
 | cons u ins ih => cases vs with
   | nil => simp at h
   | cons v vs => exact .skip (ih (by simpa using h))
theorem LI {f : FuncId} {ins : List U} {vals : List Value} {res : List U} {rv : Value} (hi : EJ ins = some vals) (hr : ∀ w R, qK ET w R rv res [])
    (h : ∀ w, Calls P f vals.toArray w fun e w' => e = .returned rv ∧ Below w.heap.size w w') : AC P ET f ins (ins.map fun _ => none) res := by
 intro R w vs F hrep hnd hR hRlt; have hlen := hrep.len; obtain ⟨rfl, rfl⟩ := hrep.vals hi; refine (h w).mono ?_; rintro e w' ⟨rfl, hb⟩; exact ⟨rv, [], [], rfl, Vi hlen, hr w' R, bu, by simp, iB.lF hb []⟩
theorem gZ {α : Type} {f : α → List C} {own : Bool} {sz k : Nat} {xs : List α} (dflt : α) (h : k < xs.length) : nx (.sl own sz (xs.map f)) (.i k sz) [] = some (f (xs.getD k dflt)) := by
 simp only [nx, qj, cB, bD, aA h, ct, aH, b7]
end
end Go.Proofs.Ytmjnenjeckeklaa.V
namespace Go.Proofs.Ytmjnenjeckeklaa.V
open Go Go.RowKit
section
variable {P : Program} {ET : TypeId} {w w' : World} {R : Nat → Prop} {K : Ctx} {σ σ' : St} {a : Act} {Fs : Nat → List Nat} {o : Oper} {d : Nat} {ops : Array Oper}
theorem iJ {i j t : Nat} {b : Bool} (h : ops[i]? = some o) (hg : o.guard = some (j, b)) (hj : (ops[j]?).bind (·.dst) = some t) (ht : σ t = .u (.c (.v (.bool b)))) (hs : Step P K σ o σ') : mg P K ops i σ σ' := E7 h hg hj ht hs
abbrev E8 : T := .tup []
theorem E9 {a : Act} {w : World} {j t : Nat} {b : Bool} {F : List Nat} {x : T} (hj : (ops[j]?).bind (·.dst) = some t) (h3 : kI K.ET w K.R a.tmps (a.tmps.getD t undef) x F) (hx : (∃ v, x = .u (.c (.v v)) ∧ v ≠ .bool b) ∨ ∃ us, x = .tup us) : yielded ops a.tmps j ≠ some b := by
 unfold yielded; rw [hj]; simp only [aq]
 cases h5 : a.tmps[t]? with
 | none => simp
 | some v =>
  rw [bq, h5] at h3; simp only [b7] at h3; intro h6; split at h6
  · rename_i c hc; injection hc with hc; injection h6 with h6; subst h6; subst hc; rcases hx with ⟨v, rfl, hv⟩ | ⟨us, rfl⟩
    · exact hv h3.J1.1.symm
    · cases h3
  · cases h6
theorem J2 {i j t : Nat} {b : Bool} (h : ops[i]? = some o) (hg : o.guard = some (j, b)) (hj : (ops[j]?).bind (·.dst) = some t) (ht : (∃ v, σ t = .u (.c (.v v)) ∧ v ≠ .bool b) ∨ ∃ us, σ t = .tup us) (hd : o.dst = some d) (hn : mX K d = true) : mg P K ops i σ (put σ d E8) := by
 intro a w h1; unfold wpOp; rw [h]; simp only; obtain ⟨Fs, hs⟩ := h1; have h2 := E9 hj (hs.rep t) ht; rw [ag (by simpa [Region.wanted, hg] using h2)]; rw [hd]; exact ⟨_, hs.put hn (iB.refl w _) (by simp) bu (.tup (arr := #[]) .nil)⟩
def Qk (P : Program) (K : Ctx) (ops : Array Oper) (i : Nat) (σ : St) (d : Nat) : Option T :=
  match ops[i]? with
  | some o => match o.guard with
    | some (j, b) => match (ops[j]?).bind (·.dst) with
      | some t => match σ t with
        | .u (.c (.v (.bool c))) => (match o.dst with
          | some d' => if Nat.beq d' d && mX K d then (match b, c with
            | true, true | false, false => match AU K.ET σ o.op with
              | some t => if refs t d then none else some t
              | none => match y7 P K σ o d with
                | some t => some t
                | none => match vF P σ o d with
                  | some t => some t
                  | none => J3 P K σ o
            | _, _ => some E8)
            else none
          | none => none)
        | .tup _ => (match o.dst with
          | some d' => if Nat.beq d' d && mX K d then some E8 else none
          | none => none)
        | _ => none
      | none => none
    | none => XC P K ops i σ d
  | none => none
theorem Ql {i : Nat} {t : T} (h : Qk P K ops i σ d = some t) : mg P K ops i σ (put σ d t) := by
 unfold Qk at h; split at h
 · rename_i o ho; split at h
   · rename_i j b hg; split at h
     · rename_i tt hj; split at h
       · rename_i c ht; split at h
         · rename_i d' hd; split at h
           · rename_i hb; simp only [ai] at hb; obtain ⟨wR, jD⟩ := hb; have : d' = d := cy wR; subst this
             have key : ∀ t : T, (match AU K.ET σ o.op with
                 | some t => if refs t d' = true then none else some t
                 | none => match y7 P K σ o d' with
                   | some t => some t
                   | none => match vF P σ o d' with
                     | some t => some t
                     | none => J3 P K σ o) = some t → Step P K σ o (put σ d' t) := by
               intro t h
               split at h
               · rename_i t' hp
                 split at h
                 · cases h
                 · rename_i hr
                   cases h
                   exact SM hp hd jD (by simpa using hr)
               · split at h
                 · rename_i t' hp
                   cases h
                   exact AV hp hd jD
                 · split at h
                   · rename_i t' hp
                     cases h
                     exact y9 hp hd jD
                   · exact G6 h hd jD
             split at h
             · exact E7 ho hg hj ht (key _ h)
             · exact E7 ho hg hj ht (key _ h)
             · rename_i h1 h2; injection h with h; subst h; refine J2 ho hg hj (.inl ⟨_, ht, fun e => ?_⟩) hd jD; injection e with e; subst e; cases c <;> first | exact (h1 rfl rfl).elim | exact (h2 rfl rfl).elim
           · cases h
         · cases h
       · rename_i u ht; split at h
         · rename_i d' hd; split at h
           · rename_i hb; simp only [ai] at hb; obtain ⟨wR, jD⟩ := hb; have : d' = d := cy wR; subst this; injection h with h; subst h; exact J2 ho hg hj (.inr ⟨_, ht⟩) hd jD
           · cases h
         · cases h
       · cases h
     · cases h
   · exact XD h
 · cases h
theorem nX {j : Nat} {t t' : T} (h : mg P K ops j σ (put σ d t)) (e : t = t') : mg P K ops j σ (put σ d t') := by subst e; exact h
theorem iw {j : Nat} {t t' : T} (h : Qk P K ops j σ d = some t) (e : t = t') : mg P K ops j σ (put σ d t') := by subst e; exact Ql h
def Tf (P : Program) (K : Ctx) (ops : Array Oper) : Nat → List Nat → St → Bool
  | _, [], _ => true
  | j, d :: ds, σ => match Qk P K ops j σ d with
    | some t => Tf P K ops (j + 1) ds (put σ d t)
    | none => false
def Tg (P : Program) (K : Ctx) (ops : Array Oper) : Nat → List Nat → St → St
  | _, [], σ => σ
  | j, d :: ds, σ => Tg P K ops (j + 1) ds (put σ d ((Qk P K ops j σ d).getD .junk))
theorem c_g {ds : List Nat} : ∀ {j : Nat} {σ : St}, Tf P K ops j ds σ = true → nG P K ops j ds.length σ (Tg P K ops j ds σ) := by
 induction ds with
 | nil => intro j σ _; exact .nil
 | cons d ds ih =>
  intro j σ h; simp only [Tf] at h; split at h
  · rename_i t ht; simp only [Tg, ht, b7]; exact .cons (Ql ht) (ih h)
  · cases h
theorem yh {f : FuncId} : pI K σ (.value (.func f)) f [] :=  .func
theorem iA {args : Array Operand} {tys : Array TypeId} {f : FuncId} {ins : List U} {hs : List (Option vG)} {outs : List (Option U)} {res : List U} (hac : MP K P f ins outs res) (hf : Is P f) (ho : o.op = .call { callee := .value (.func f), args := args, argTypes := tys })
    (hA : o7 (AF K σ') σ args.toList ins hs σ') (hok : kK hs outs = true) (hd : MQ K o.dst = true) : Step P K σ o (za (back hs outs (fun j => jq (σ' j))) o.dst (xU res)) :=
  MR (caps := []) ho hf yh hA (by simpa using hac) hok hd
theorem iU {args : Array Operand} {tys : Array TypeId} {f : FuncId} {ins : List U} {outs : List (Option U)} {res : List U} (hac : MP K P f ins outs res) (hf : Is P f) (ho : o.op = .call { callee := .value (.func f), args := args, argTypes := tys })
    (hA : MH (AF K σ) args.toList ins) (hd : MQ K o.dst = true) : Step P K σ o (za σ o.dst (xU res)) :=
  MS (caps := []) ho hf yh hA (by simpa using hac) hd
def uQ (σ : St) (pins : List Nat) : Nat → List (Option U) → Prop
  | _, [] => True
  | i, none :: l => uQ σ pins (i + 1) l
  | i, some u :: l => (σ i = .u u ∧ pins.contains i = true) ∧ uQ σ pins (i + 1) l
theorem MT {pins : List Nat} {l : List (Option U)} : ∀ {k : Nat}, uQ σ pins k l → ∀ (i : Nat) (u : U), l[i]? = some (some u) → σ (k + i) = .u u ∧ pins.contains (k + i) = true := by
 induction l with
 | nil => intro k _ i u h; simp at h
 | cons x l ih =>
  intro k h i u hi
  cases i with
  | zero =>
   simp only [bF, aC] at hi; subst hi; exact h.1
  | succ i =>
   have h2 : uQ σ pins (k + 1) l := by
    cases x with
    | none => exact h
    | some u => exact h.2
   have := ih h2 i u (by simpa using hi); rw [show k + (i + 1) = k + 1 + i by omega]; exact this
theorem gy {pins : List Nat} {l : List (Option U)} (h : uQ σ pins 0 l) : ∀ (i : Nat) (u : U), l[i]? = some (some u) → σ i = .u u ∧ pins.contains i = true := by
 intro i u hi; have := MT h i u hi; rwa [aG] at this
theorem jh {pins : List Nat} {n : Nat} (h : pins.all (fun i => Nat.blt i n) = true) : ∀ i, pins.contains i = true → i < n := by
 intro i hi; have := aV.mp h i (by simpa using hi); exact fk (by simpa [Nat.blt] using this)
theorem gN {AR : Operand → U → Prop} {i r : Nat} {own : Bool} {c : C} {cs : List C} {xs : List Operand} {us : List U} {hs : List (Option vG)} (h : jA i (σ i) = .addr r .d [] 0) (hr : σ r = .u (.c c)) (hc : c = .pt own cs) (t : o7 AR (jN σ r .junk) xs us hs σ') : o7 AR σ (.tmp i :: xs) (.c c :: us) (some (r, none, c) :: hs) σ' := by
 subst hc; exact .hand (.ptr h hr) hr rfl rfl t
theorem MU {j m : Nat} {ds : List Nat} {σ2 : St} (k : Nat) (hk : j + ds.length = k) (h : Tf P K ops j ds σ = true) (t : nG P K ops k m (Tg P K ops j ds σ) σ2) : nG P K ops j (ds.length + m) σ σ2 := by
 subst hk; exact (c_g h).app t
theorem MV {j m : Nat} {σ1 σ2 : St} (k : Nat) (hk : j + 1 = k) (h : mg P K ops j σ σ1) (t : nG P K ops k m σ1 σ2) : nG P K ops j (m + 1) σ σ2 := by
 subst hk; exact .cons h t
theorem vH {α : Type} {c : Code} {Q : Exit → St → Prop} (F : α → List (Nat × T)) {x y : α} (e : x = y) (h : lC P K c (St.of (F y)) Q) : lC P K c (St.of (F x)) Q := by subst e; exact h
end
end Go.Proofs.Ytmjnenjeckeklaa.V
namespace Go.Proofs.Ytmjnenjeckeklaa.V
open Go Go.RowKit
section
variable {P : Program} {ET : TypeId} {w w' : World} {R : Nat → Prop} {K : Ctx} {σ σ' : St} {a : Act} {Fs : Nat → List Nat} {o : Oper} {d : Nat} {ops : Array Oper}
theorem iN {i : Nat} {us : List U} (ho : o.op = .move (.tmp i) ∨ o.op = .assign (.tmp i)) (hi : σ i = .tup us) (hd : o.dst = some d) (hn : mX K d = true) : Step P K σ o (put (jN σ i .junk) d (.tup us)) := by
 rintro a w ⟨Fs, hs⟩; have h1 := hs.rep i; rw [hi] at h1
 have hrun : (execOp a.eval o).run P w = .ok (.value (a.eval (.tmp i))) w := by
  rcases ho with ho | ho <;> simp [execOp, ho, pure]
 simp only [Oper.wp, hrun, Oper.upon_value, hd]; have h2 := hs.out i; refine ⟨_, h2.o6 hn (iB.refl _ _) (F := Fs i) (fun b hb => ⟨fun j hj => ?_, hs.own i b hb⟩) (hs.nd i) ?_⟩
 · unfold jZ at hj; split at hj
   · cases hj
   · rename_i hne; exact hne (hs.dis j i b hj hb)
 · rw [kE]; generalize a.tmps.getD i undef = v at h1 ⊢; generalize Fs i = F at h1 ⊢
   cases h1 with
   | tup h => exact .tup h
theorem e_g {t : T} {s : Spec} {j : Nat} (hc : Clear s σ) (hf : s.fresh = some d) (ha : s.asg = [(d, t)]) (h : Qk P K ops j σ d = some t) : mg P K ops j σ (over σ s.asg) := gO hc hf ha (Ql h)
theorem mZ {A : List (Nat × T)} {i : Nat} : over σ A i = (A.lookup i).getD (σ i) := rfl
theorem mA {l : List Nat} {i : Nat} : (l.map fun j => (j, T.junk)).lookup i = if l.contains i then some .junk else none := by
 induction l with
 | nil => rfl
 | cons j l ih =>
  simp only [aK, bK, ih]; by_cases h : i = j
  · subst h; simp
  · have h1 : (i == j) = false := by simpa using h
    rw [h1]; simp [h, dz h]
theorem lg {l : List Nat} {t : T} {s : Spec} (hc : Clear s σ) (hf : s.fresh = some d) (ha : s.asg = (d, t) :: l.map fun j => (j, .junk) := by rfl) : put (jb σ l) d t = over σ ((d, t) :: l.map fun j => (j, .junk)) := by
 funext i; rw [mZ, bK]; unfold put jb; by_cases hi : i = d
 · subst hi; simp
 · have h1 : (i == d) = false := by simpa using hi
   rw [h1, ag hi, mA]; simp only; by_cases h3 : l.contains i = true
   · simp only [h3, cB, b7]; rfl
   · have h4 : l.contains i = false := by simpa using h3
     have h2 := hc.ref hf hi (by rw [ha, bK, h1]; simp only; rw [mA, h4]; simp); simp only [h4, bO, cQ, dI]; unfold sx; rw [h2]; simp
theorem l7 {l : List Nat} {r : Nat} {t : T} : jN (jb σ l) r t = over σ ((r, t) :: l.map fun j => (j, .junk)) := by
 funext i; rw [mZ, bK]; unfold jN jb; by_cases hi : i = r
 · subst hi; simp
 · have h1 : (i == r) = false := by simpa using hi
   rw [h1, ag hi, mA]; simp only; by_cases h3 : l.contains i = true
   · simp only [h3, cB, b7]
   · have h4 : l.contains i = false := by simpa using h3
     simp only [h4, bO, cQ, dI]
theorem o8 {l : List Nat} {r : Nat} {t : T} {s : Spec} (hc : Clear s σ) (hd : s.deep = true) (ha : s.asg = (r, t) :: l.map fun j => (j, .junk)) : jN (fun j => jq (jb σ l j)) r t = over σ s.asg := by
 rw [ha, ← l7]; funext i; unfold jN; split
 · rfl
 · rename_i hi; unfold jb; simp only; by_cases hl : l.contains i = true
   · simp only [hl, cB]; rfl
   · have hl : l.contains i = false := by simpa using hl
     simp only [hl, bO, cQ]; have h1 := hc.2 hd i
     cases h : rJ (σ i) with
     | false =>
      revert h; generalize σ i = x; intro h
      cases x with
      | addr r s p off => cases p with
        | nil => rfl
        | cons _ _ => cases h
      | view r pl sz lo n => cases pl with
        | none => rfl
        | some _ => cases h
      | whole r pl sz n => cases pl with
        | none => rfl
        | some _ => cases h
      | _ => rfl
     | true =>
      have h2 := h1 h; rw [ha] at h2; unfold has at h2; rw [bK, show (i == r) = false by simpa using hi, mA] at h2; simp only [hl] at h2; cases h2
theorem sq {i : Nat} {t y : T} {s : Spec} (hc : Clear s σ) (hf : s.fresh = some d) (hy : refs y d = false) (ha : s.asg = [(d, t), (i, y)] := by rfl) : put (jN σ i y) d t = over σ [(d, t), (i, y)] := by
 funext j; rw [mZ, bK]; unfold put jN; by_cases hj : j = d
 · subst hj; simp
 · have h1 : (j == d) = false := by simpa using hj
   rw [h1, ag hj]; unfold sx; by_cases h3 : j = i
   · subst h3; simp [List.lookup, hy]
   · have h4 : (j == i) = false := by simpa using h3
     have h2 := hc.ref hf hj (by rw [ha]; simp [bK, h1, h4]); simp [List.lookup, h3, h4, h2]
theorem oo {s : Spec} {j : Nat} (h : mg P K ops j σ σ') (he : σ' = over σ s.asg) : mg P K ops j σ (over σ s.asg) := he ▸ h
theorem j7 {id : Nat} {Q : Exit → St → Prop} {tab : List (List Nat)} {l0 l : List (Nat × T)} (S : List Spec) (hm : P.follows .mixedOrders = true) (hT : Region.tabAfter .any ops = tab) (hc : LK tab S = true) (h0 : ZV l0 S = true)
    (hst : B9 (fun j s => ∀ σ, Clear s (over σ (nH S (St.of l0) s)) → mg P K ops j (over σ (nH S (St.of l0) s)) (over (over σ (nH S (St.of l0) s)) s.asg)) 0 S) (hl : at_ (LL S (St.of l0)) l = l) (hq : Q .normal (St.of l)) : lC P K (.region id ops true) (St.of l0) Q := by
 refine UX S hm hT hc (fun s hs => ?_) hst (gm hl) hq; have h1 := aV.mp h0 s hs; simp only [ai] at h1
 have key : ∀ t, (∃ p ∈ l0, p.1 = t ∧ p.2 = St.of l0 t) ∨ St.of l0 t = .junk := by
  intro t; unfold St.of
  cases hl : l0.lookup t with
  | none => exact .inr rfl
  | some y => exact .inl ⟨_, nT hl, rfl, rfl⟩
 refine ⟨fun d hd t ht hrf => ?_, fun hdp t ht => ?_⟩
 · rcases key t with ⟨p, hp, rfl, e⟩ | e
   · have h2 := h1.1; rw [hd] at h2; have h3 := aV.mp h2 p hp; simp only [bI, bG, cH] at h3; rcases h3 with (h3 | h3) | h3
     · exact absurd h3 ht
     · rw [← e, h3] at hrf; cases hrf
     · exact P5 h3
   · rw [e] at hrf; cases hrf
 · rcases key t with ⟨p, hp, rfl, e⟩ | e
   · have h2 := h1.2; rw [hdp] at h2; simp only [de, ff] at h2; have h3 := aV.mp h2 p hp; simp only [bI, cH] at h3; rcases h3 with h3 | h3
     · rw [← e, h3] at ht; cases ht
     · exact h3
   · rw [e] at ht; cases ht
def Vx (P : Program) (t : TypeId) : Option (List Value) := match P.underlying t with
  | some (.slice e) => Ib P e
  | _ => none
theorem z8 {t sz bytes : Nat} {vs : List Value} {zs : List C} (h : ZW P t sz bytes = true) (hv : Vx P t = some vs) (hl : vs.length = sz) (hr : ∀ ET w R, ig ET w R vs zs []) : mS P t sz bytes zs := by
 obtain ⟨e, i, h1, h2, h3, h4, h5⟩ := vn h; unfold Vx at hv; rw [h1] at hv; simp only [Ib, h2] at hv; split at hv
 · rename_i z hz; injection hv with hv; subst hv; exact ⟨e, i, z, h1, h2, h3, h4, h5, hz, by simpa using hl, hr⟩
 · cases hv
end
end Go.Proofs.Ytmjnenjeckeklaa.V
namespace Go.Proofs.Ytmjnenjeckeklaa.V
open Go Go.RowKit
def Sc (K : Ctx) (P : Program) (b t : Nat) (outs : List (Option U)) (cs : List C) (e : Exit) (σ : St) : Prop :=
  (e = .normal ∨ e = .ret) ∧ σ b = .u (.c (.pt true cs)) ∧ B1 P t cs.length ∧ ∀ (i : Nat) (u : U), outs[i]? = some (some u) → jN σ b .junk i = .u u ∧ K.pins.contains i = true
section
variable {P : Program} {ET : TypeId} {w w' : World} {R : Nat → Prop} {K : Ctx} {σ σ' : St} {a : Act} {Fs : Nat → List Nat}
theorem EG {fn : Func} {b t blk : Nat} {arr : Array Value} {et : TypeId} (h : fn.results = #[.cell b t]) (tmps : Array Value) (w : World) (hp : tmps.getD b undef = .pointer (some ⟨blk, 0, none⟩)) (hb : w.heap[blk]? = some (.cells arr et (0, 0))) (ht : B1 P t arr.size) :
    (results fn tmps).run P w = .ok (.agg arr) w := by
 have h1 := qU (P := P) (w := w) ht hb (o := 0) (by omega); rw [cl, ← bU, dn] at h1; simp only [Instr.loadAt, Instr.sureAddr, Sem.run_bind, Sem.run_pure, Result.andThen_ok] at h1; unfold results; rw [h]; rw [bq] at hp; simp [hp, asAddr, h1, Result.andThen]
theorem Aa {T : (Nat → Prop) → World → Prop} {f : FuncId} {fn : Func} {c : Code} {ins : List U} {outs : List (Option U)} {cs : List C} {b t : Nat} {n : Nat} {pins : List Nat} (hf : P.funcs[f]? = some fn) (hb : fn.body = some c) (hn : fn.ntmps = n) (hr : fn.results = #[.cell b t]) (hin : ins.length ≤ n) (hpin : ∀ i, pins.contains i = true → i < ins.length) (hout : outs.length = ins.length)
    (h : ∀ (w : World) (R : Nat → Prop) (E : List Nat) (vs : Nat → Value), T R w → lC P ⟨ET, w, R, E, n, pins, vs⟩ c (sD ins) (Sc ⟨ET, w, R, E, n, pins, vs⟩ P b t outs cs)) : Tx T P ET f ins outs [.agg cs] := by
 intro R w vs F hT hrep hnd hR hRlt; obtain ⟨Fs, f1, f2, f3, f4, f5⟩ := hrep.fs hnd; have hlen := hrep.len
 have htm : ∀ i, i < vs.length → (vs.toArray ++ Array.replicate (fn.ntmps - vs.toArray.size) undef).getD i undef = vs.getD i undef := by
  intro i hi; simp [bq, aH, eR, hi]
 refine calls_of_wp hf hb ?_
 have hs : rC ⟨ET, w, R, F, n, pins, fun i => vs.getD i undef⟩ (sD ins) { tmps := vs.toArray ++ Array.replicate (fn.ntmps - vs.toArray.size) undef, defers := [] } w := by
  refine ⟨Fs, ?_, f3, f4, fun i b hb => ⟨hR b (f5 i b hb), .inl (f5 i b hb)⟩, iB.refl w F, fun b hb => ⟨hRlt b hb, fun h => hR b h hb⟩, by simp [hn, hlen]; omega, fun i hi => htm i (by rw [hlen]; exact hpin i hi), rfl⟩; intro i; unfold sD
  cases hu : ins[i]? with
  | none =>
   have : ins.length ≤ i := by
    rcases b5 i ins.length with h | h
    · rw [aA h] at hu; cases hu
    · exact h
   rw [f2 i this]; exact .junk _
  | some u =>
   obtain ⟨x, hx, hru⟩ := f1 i u hu
   have hi : i < vs.length := by
    rcases b5 i vs.length with h | h
    · exact h
    · rw [bH h] at hx; cases hx
   simp only; rw [htm i hi, aH, hx]; exact .u hru
 refine wp_mono (h w R F (fun i => vs.getD i undef) hT _ _ hs) ?_; rintro e a' w' ⟨σ, ⟨xV, hsim⟩, he, hσ, hagg, houts⟩; have CL := hsim.out b
 obtain ⟨H, TW, TX, PK⟩ := zP (ET := ET) (w := w') (R := R) (outs := outs) (vs := vs) (Fs := jZ xV b []) (k := 0) (by rw [hout, hlen]) (fun i u hi => by
  obtain ⟨h1, h2⟩ := houts i u hi; have h3 := CL.rep i; rw [h1] at h3; have h4 := CL.pin i h2; have hi2 : i < vs.length := by rw [hlen]; exact hpin i h2
  simp only at h4; rw [h4] at h3; refine ⟨vs.getD i undef, by rw [aH, aA hi2]; rfl, ?_⟩; rw [aG]; generalize jZ xV b [] i = F3 at h3; generalize vs.getD i undef = v at h3 ⊢
  cases h3 with | u h => exact h)
 have hfin : ∃ v, (results fn a'.tmps).run P w' = .ok v w' ∧ ∃ rv H1 H2, Ending.returned v = .returned rv ∧ qI ET w' R vs outs H1 ∧ qK ET w' R rv [.agg cs] H2 ∧ (H1 ++ H2).Nodup ∧ (∀ b ∈ H1 ++ H2, b ∈ F ∨ w.heap.size ≤ b) ∧ iB w F w' := by
  have h1 := hsim.rep b; rw [hσ] at h1; have ql := hsim.nd b; have hdis := fun j x (hj : j ≠ b) (hx : x ∈ xV b) (hx2 : x ∈ xV j) => hj (hsim.dis j b x hx2 hx); have hown := hsim.own b; generalize hv : a'.tmps.getD b undef = v at h1; generalize hFb : xV b = Fb at h1 ql hdis hown
  cases h1 with
  | u h1 => cases h1 with
    | c h1 => cases h1 with
      | @pt blk own arr et cs F1 F' hbk lG ho =>
        rcases ho with ⟨_, rfl⟩ | ⟨h, _⟩
        · have hsz : arr.size = cs.length := by rw [← lG.length]; simp
          obtain ⟨n1, n2⟩ := bh.mp ql
          refine ⟨_, EG hr a'.tmps w' hv hbk (by rw [hsz]; exact hagg), _, H, F1, rfl, TW, .one (.agg lG), ?_, ?_, hsim.keeps⟩
          · rw [ax]
            refine ⟨TX CL.nd CL.dis, n2, fun x hx y hy e => ?_⟩
            subst e
            obtain ⟨j, _, hj⟩ := PK x hx
            unfold jZ at hj
            split at hj
            · cases hj
            · rename_i hne
              exact hdis j x hne (aU _ hy) hj
          · intro x hx
            rcases aT.mp hx with hx | hx
            · obtain ⟨j, _, hj⟩ := PK x hx
              exact (CL.own j x hj).2
            · exact (hown x (aU _ hx)).2
        · cases h
 rcases he with rfl | rfl
 · exact ⟨hsim.defers, hfin⟩
 · exact ⟨hsim.defers, hfin⟩
theorem Jm {f : FuncId} {fn : Func} {c : Code} {ins : List U} {outs : List (Option U)} {cs : List C} {b t : Nat} {n : Nat} {pins : List Nat} (hf : P.funcs[f]? = some fn) (hb : fn.body = some c) (hn : fn.ntmps = n) (hr : fn.results = #[.cell b t]) (hin : ins.length ≤ n) (hpin : ∀ i, pins.contains i = true → i < ins.length) (hout : outs.length = ins.length)
    (h : ∀ (w : World) (R : Nat → Prop) (E : List Nat) (vs : Nat → Value), lC P ⟨ET, w, R, E, n, pins, vs⟩ c (sD ins) (Sc ⟨ET, w, R, E, n, pins, vs⟩ P b t outs cs)) : AC P ET f ins outs [.agg cs] :=
  fun R w vs F => Aa (T := fun _ _ => True) hf hb hn hr hin hpin hout (fun w R E vs _ => h w R E vs) R w vs F trivial
theorem HS {b t : Nat} {outs : List (Option U)} {cs : List C} {e : Exit} (he : e = .normal ∨ e = .ret) (h1 : σ b = .u (.c (.pt true cs))) (h2 : Lb P t cs.length = true) (h3 : uQ (jN σ b .junk) K.pins 0 outs) : Sc K P b t outs cs e σ := ⟨he, h1, oS h2, gy h3⟩
theorem p9 {α : Type} {f : α → List C} {t i r n k sz off : Nat} {s : kG} {p : List (Nat × kG)} {c c' : C} {cs us : List C} {x : Operand} {u : U} {o : Oper} (ho : o.op = .store t (.tmp i) x) (ht : (P.info? t).map (·.size) = some n) (hi : jA i (σ i) = .addr r s p off) (hx : mV K.ET σ x = .u u) (hc : uD u = true) (hr : σ r = .u (.c c)) (hg : nx c s p = some cs)
    (hown : uq c s p = true) (hu : lN u = us) (hn : us.length = n) (hle : off + n ≤ cs.length) (hlv : vD us = true) (hsc : ((cs.drop off).take n).all tX = true) (hlu : uM u = true) (hd : o.dst = none) (e : oE c s p (cs.take off ++ (us ++ cs.drop (off + n))) = c') : Step P K σ o (jN σ r (.u (.c c'))) := by
 subst e; exact oZ ho ht hi hx hc hr hg hown hu hn hle hlv hsc hlu hd
theorem zg {x : T} (h : rJ x = false) : jq x = x := by
 cases x with
 | addr r s p off => cases p with
   | nil => rfl
   | cons _ _ => cases h
 | view r pl sz lo n => cases pl with
   | none => rfl
   | some _ => cases h
 | whole r pl sz n => cases pl with
   | none => rfl
   | some _ => cases h
 | _ => rfl
theorem IB {i d : Nat} {t : T} {s : Spec} (hc : Clear s σ) (hf : s.fresh = some d) (hd : s.deep = true) (ha : s.asg = [(d, t), (i, .junk)]) : put (fun j => jq (jN σ i .junk j)) d t = over σ s.asg := by
 rw [ha]; funext j; rw [mZ, bK]; unfold put; by_cases hj : j = d
 · subst hj; simp
 · have h1 : (j == d) = false := by simpa using hj
   rw [h1, ag hj]; unfold jN; by_cases h3 : j = i
   · subst h3; simp only [cB, bK, dm, b7]; rfl
   · have h4 : (j == i) = false := by simpa using h3
     simp only [ag h3, bK, h4, List.lookup_nil, dI]
     have h5 : rJ (σ j) = false := by
      cases h : rJ (σ j) with
      | false => rfl
      | true =>
       have h6 := hc.2 hd j h; rw [ha] at h6; simp [has, bK, h1, h4] at h6
     rw [zg h5]; unfold sx; rw [hc.ref hf hj (by rw [ha]; simp [bK, h1, h4])]; simp
theorem ng {α : Type} {f : α → List C} {xs : List α} (h : ∀ x, (f x).all sY = true) : ∀ r ∈ xs.map f, r.all sY = true := by
 intro r hr; obtain ⟨x, _, rfl⟩ := aX.mp hr; exact h x
end
end Go.Proofs.Ytmjnenjeckeklaa.V
namespace Go.Proofs.Ytmjnenjeckeklaa.V
open Go Go.RowKit
section
variable {P : Program} {ET : TypeId}
theorem AC.RC {f : FuncId} {ins : List U} {outs : List (Option U)} {b : Bool} {vals : List Value} (h : AC P ET f ins outs [.c (.v (.bool b))]) {w : World} {R : Nat → Prop} (hv : ke ET w R vals ins []) (hR : ∀ x, R x → x < w.heap.size) :
    Calls P f vals.toArray w fun e w' => e = .returned (.bool b) ∧ Below w.heap.size w w' := by
     refine (h R w vals [] hv bu (by simp) hR).mono ?_; rintro e w' ⟨rv, H1, H2, rfl, _, hr, _, _, hk⟩; refine ⟨?_, hk.below⟩
     cases hr with
     | one hr =>
      cases hr with
      | c hr => cases hr with
        | v _ => rfl
     | many hl _ => exact absurd rfl hl
end
end Go.Proofs.Ytmjnenjeckeklaa.V
namespace Go.Proofs.Ytmjnenjeckeklaa.V
open Go
theorem IL {P : Program} {fits : TypeId → Bool} {d : Nat} {e : TypeId} {count off n : Nat} (h : rowAt P fits d e count off n = true) : off ≤ count * P.cellsOf e := by
 cases d with
 | zero => simp [rowAt] at h
 | succ d =>
  rw [rowAt] at h; by_cases hs : P.cellsOf e = 0
  · simp [hs] at h
  · simp only [hs, cQ, bI, ai, bG, au] at h; have hd := fF off (P.cellsOf e); rw [fA] at hd; rcases h with ⟨⟨hr, hi⟩, _⟩ | ⟨hi, _⟩
    · have := bg (P.cellsOf e) (show off / P.cellsOf e ≤ count by omega); omega
    · have h1 := bg (P.cellsOf e) (show off / P.cellsOf e + 1 ≤ count by omega); rw [bQ, ei] at h1; have := Nat.mod_lt off (show 0 < P.cellsOf e by omega); omega
theorem Fz {P : Program} : ∀ (d : Nat) {e u : TypeId} {count off n : Nat}, liesAt P d e count off u n = true → off ≤ count * P.cellsOf e := by
 intro d
 induction d with
 | zero => intro e u count off n h; simp [liesAt] at h
 | succ d ih =>
  intro e u count off n h; rw [liesAt] at h; simp only [bI] at h; rcases h with h | h
  · exact IL h
  · split at h
    · exact ih h
    · cases h
def oW {α : Type} (P : Program) (t : TypeId) (sz : Nat) (vals : α → List Value) (wf : α → Prop) : Prop :=
  (∀ a, (vals a).length = sz ∧ ∀ v ∈ vals a, ot v = true) ∧
  ∀ (H : Type) (enc : TypeId × Value → H) (w : World) (sp : Nat → Bool) (held : Bool) (n : Nat) (cs : List Value) (x : DataW H × List MemPlace), DataW.trod enc P w 0 sp held n t cs = some x → ∃ a, cs = vals a ∧ wf a
theorem oW.int {P : Program} {t : TypeId} {k : IntKind} (ht : P.underlying t = some (.int k)) : oW P t 1 (fun a => [.int k a]) (fun a => (Lit.int k a).wf = true) :=
  ⟨fun a => ⟨rfl, by simp [ot]⟩, fun H enc w sp held n cs x h => by
    obtain ⟨m, rfl, _, hw⟩ := DataW.trod_int ht h
    exact ⟨m, rfl, hw⟩⟩
theorem oW.bool {P : Program} {t : TypeId} (ht : P.underlying t = some .bool) : oW P t 1 (fun a => [.bool a]) (fun _ => True) :=
  ⟨fun a => ⟨rfl, by simp [ot]⟩, fun H enc w sp held n cs x h => by
    obtain ⟨m, rfl, _⟩ := DataW.trod_bool ht h
    exact ⟨m, rfl, trivial⟩⟩
def oX {α : Type} (P : Program) (fs : List Field) (off sz : Nat) (vals : α → List Value) (wf : α → Prop) : Prop :=
  (∀ a, (vals a).length = sz ∧ ∀ v ∈ vals a, ot v = true) ∧
  ∀ (H : Type) (enc : TypeId × Value → H) (w : World) (sp : Nat → Bool) (held : Bool) (n : Nat) (cs : List Value), cs.length = off + sz → (∀ (i : Nat) (f : Field), fs[i]? = some f → ∃ y, DataW.trod enc P w 0 sp held n f.type ((cs.drop f.offset).take (P.cellsOf f.type)) = some y) → ∃ a, cs.drop off = vals a ∧ wf a
section
variable {P : Program} {α β : Type} {wf : α → Prop} {wf' : β → Prop}
theorem oX.last (f : Field) (off sz : Nat) {vals : α → List Value} (h : oW P f.type sz vals wf) (ho : f.offset = off) (hc : P.cellsOf f.type = sz) : oX P [f] off sz vals wf :=
  ⟨h.1, fun H enc w sp held n cs hl hall => by
    obtain ⟨y, hy⟩ := hall 0 f rfl
    rw [ho, hc, cP (by rw [aQ]; omega)] at hy
    exact h.2 H enc w sp held n _ y hy⟩
theorem oX.cons (f : Field) (fs : List Field) (off sz sz' : Nat) {vals : α → List Value} {vals' : β → List Value} (h : oW P f.type sz vals wf) (ho : f.offset = off) (hc : P.cellsOf f.type = sz) (hs : oX P fs (off + sz) sz' vals' wf') : oX P (f :: fs) off (sz + sz') (fun a : α × β => vals a.1 ++ vals' a.2) (fun a => wf a.1 ∧ wf' a.2) :=
  ⟨fun a => ⟨by rw [aI, (h.1 a.1).1, (hs.1 a.2).1], fun v hv => (aT.mp hv).elim ((h.1 a.1).2 v) ((hs.1 a.2).2 v)⟩, fun H enc w sp held n cs hl hall => by
    obtain ⟨y, hy⟩ := hall 0 f rfl
    rw [ho, hc] at hy
    obtain ⟨a, ha, wa⟩ := h.2 H enc w sp held n _ y hy
    obtain ⟨b, hb, wb⟩ := hs.2 H enc w sp held n cs (by omega) (fun i g hg => hall (i + 1) g (by simpa using hg))
    refine ⟨(a, b), ?_, wa, wb⟩
    show cs.drop off = vals a ++ vals' b
    rw [← ha, ← hb, show cs.drop (off + sz) = (cs.drop off).drop sz by rw [cG]]
    exact (bl sz (cs.drop off)).symm⟩
theorem oW.struct {t : TypeId} {sz : Nat} {vals : α → List Value} {fs : Array Field} (ht : P.underlying t = some (.struct fs)) (h : oX P fs.toList 0 sz vals wf) (hc : P.cellsOf t = sz) : oW P t sz vals wf :=
  ⟨h.1, fun H enc w sp held n cs x hx => by
    obtain ⟨xs, m, _, _, hl, hlen, hf⟩ := DataW.trod_struct ht hx
    have := h.2 H enc w sp held m cs (by omega) (fun i f hi => by
      have hi' : fs[i]? = some f := by simpa using hi
      have h1 := hf i f hi'
      have hlt : i < xs.length := by
       have := (ck.1 hi').1; omega
      rw [aA hlt] at h1
      exact ⟨_, h1⟩)
    simpa using this⟩
theorem oW.TD {t : TypeId} {sz : Nat} {vals : α → List Value} (h : oW P t sz vals wf) (g : α → β) (f : β → α) (hfg : ∀ a, f (g a) = a) : oW P t sz (fun b => vals (f b)) (fun b => wf (f b)) :=
  ⟨fun b => h.1 (f b), fun H enc w sp held n cs x hx => by
    obtain ⟨a, ha, wa⟩ := h.2 H enc w sp held n cs x hx
    exact ⟨g a, by show cs = vals (f (g a)); rw [hfg]; exact ha, by show wf (f (g a)); rw [hfg]; exact wa⟩⟩
end
theorem ig.KB {ET : TypeId} {w : World} {R : Nat → Prop} : ∀ {vs : List Value}, (∀ v ∈ vs, ot v = true) → ig ET w R vs (vs.map C.v) []
  | [], _ => .nil
  | v :: vs, h => .cons (F := []) (G := []) (.v (h v (aN ..))) (ig.KB fun x hx => h x (aU _ hx))
theorem Hi {P : Program} {ET : TypeId} {α : Type} {H : Type} {enc : TypeId × Value → H} {W : World} {base : Nat} {t e : TypeId} {sz : Nat} {v : Value} {x : DataW H × List MemPlace} {vals : α → List Value} {wf : α → Prop} {held : Bool}
    (ht : P.underlying t = some (.slice e)) (fit : oW P e sz vals wf) (hc : P.cellsOf e = sz) (hsz : 0 < sz) (hv : Value.okWide P W .any base t v) {fuel : Nat} (h : DataW.trod enc P W 0 (fun _ => true) held fuel t [v] = some x) :
    ∃ l : List α, iz ET W (fun b => b < W.heap.size) v (.sl false sz (l.map fun a => (vals a).map C.v)) [] ∧ l.length ≤ maxLen ∧ ∀ a ∈ l, wf a := by
 rcases Deep.open_slice ht h with ⟨h0, _⟩ | ⟨a, len, cap, m, n, D, Pl, h0, _, hl, hm, hmm, _, hel⟩
 · obtain rfl : v = .slice none 0 0 := by simpa using h0
   exact ⟨[], .nil false sz, by simp [maxLen], by simp⟩
 · obtain rfl : v = .slice (some a) len cap := by simpa using h0
   simp only [cB] at hmm; subst m; rw [hc] at hel
   have hk : Cell.ok P W .any base t (.slice (some a) len cap) := by
    simp only [Value.okWide, ht, Cell.okWide] at hv; exact hv
   simp only [Cell.ok, ht] at hk; obtain ⟨_, _, _, hspot, row, cells, hshape, hlies⟩ := hk; obtain ⟨b, off, spot⟩ := a; obtain rfl : spot = none := hspot
   obtain ⟨arr, fz, hb, hcells⟩ : ∃ arr fz, W.heap[b]? = some (.cells arr row fz) ∧ arr.size = cells := by
    simp only [World.shape?] at hshape; split at hshape
    · rename_i c el fz hb; injection hshape with hshape; injection hshape with e1 e2; subst e1; exact ⟨c, _, hb, e2⟩
    · cases hshape
   have hcell : ∀ o, W.cell? ⟨b, o, none⟩ = arr[o]? := by
    intro o; simp only [World.cell?, hb]; simp
   have hrow : ∀ i, i < cap → ∃ cs', (arr.toList.drop (off + i * sz)).take sz = cs' ∧ cs'.length = sz ∧ ∃ y, cs' = vals y ∧ wf y := by
    intro i hi; obtain ⟨cs', h1, h2⟩ := hel i hi; obtain ⟨_, hlen, hx⟩ := World.cells?_some h1; obtain ⟨y, hy, wy⟩ := fit.2 H enc W _ _ n cs' _ h2; refine ⟨cs', ?_, hlen, y, hy, wy⟩; apply cZ; intro j; by_cases hj : j < sz
    · have h3 := hx j hj; rw [show (⟨b, off, none⟩ : Addr).add (i * sz) = ⟨b, off + i * sz, none⟩ from Addr.add_mid b off _, show (⟨b, off + i * sz, none⟩ : Addr).add j = ⟨b, off + i * sz + j, none⟩ from Addr.add_mid b _ _, hcell] at h3; rw [cL hj, bL, ← h3, dX]
    · rw [bP, ag hj, bH (by omega)]
   have hfit : off + cap * sz ≤ arr.size := by
    by_cases h0 : cap = 0
    · subst h0; have h1 := Fz _ hlies; have h2 := Nat.div_mul_le_self cells (P.cellsOf row); simp only at h1; omega
    · obtain ⟨cs', h1, h2, _⟩ := hrow (cap - 1) (by omega); have h3 := bN List.length h1; rw [h2, az, aQ, bU] at h3; have h4 : (cap - 1) * sz + sz = cap * sz := by rw [← cz]; congr 1; omega
      omega
   have hall : ∀ k, k ≤ cap → ∃ l : List α, l.length = k ∧ (arr.toList.drop off).take (k * sz) = (l.map vals).flatten ∧ ∀ a ∈ l, wf a := by
    intro k
    induction k with
    | zero => intro _; exact ⟨[], rfl, by simp, by simp⟩
    | succ k ih =>
     intro hk; obtain ⟨l, h1, h2, h3⟩ := ih (by omega); obtain ⟨cs', h4, h5, y, h6, h7⟩ := hrow k (by omega); refine ⟨l ++ [y], by simp [h1], ?_, fun a ha => ?_⟩
     · rw [cz, List.take_add, h2, cG, h4, h6]; simp
     · rcases aT.mp ha with ha | ha
       · exact h3 a ha
       · rw [aE.mp ha]; exact h7
   obtain ⟨l, h1, h2, h3⟩ := hall len hl; refine ⟨l, ?_, by omega, h3⟩; refine .sl (et := (row, fz)) hb (by simp [h1]) hl hsz hfit ?_ ?_ (.inr ⟨rfl, ?_, rfl, rfl⟩) (fun h => by cases h)
   · intro r hr; obtain ⟨a, _, rfl⟩ := aX.mp hr; simp [(fit.1 a).1]
   · rw [h2]
     have : (l.map fun a => (vals a).map C.v).flatten = ((l.map vals).flatten).map C.v := by
      rw [List.map_flatten, bW]; rfl
     rw [this]
     exact ig.KB fun v hv => by
      obtain ⟨r, hr, hv⟩ := fy.mp hv; obtain ⟨a, _, rfl⟩ := aX.mp hr; exact (fit.1 a).2 v hv
   · exact kD hb
end Go.Proofs.Ytmjnenjeckeklaa.V
namespace Go.Proofs.Ytmjnenjeckeklaa.V
open Go Go.RowKit
section
variable {P : Program} {ET : TypeId} {w w' : World} {R : Nat → Prop} {K : Ctx} {σ σ' : St} {a : Act} {Fs : Nat → List Nat} {o : Oper} {d : Nat}
theorem zO {i : Nat} {c : Code} {cs : List C} {own : Bool} {Q : Exit → St → Prop} (hi : σ i = .u (.c (.pt own cs))) (hp : K.pins.contains i = true) (h : (∃ b, K.vs i = .pointer (some ⟨b, 0, none⟩)) → lC P K c σ Q) : lC P K c σ Q := by
 rintro a w ⟨Fs, hs⟩; refine h ?_ a w ⟨Fs, hs⟩; have h1 := hs.rep i; have h2 := hs.pin i hp; rw [hi] at h1; rw [h2] at h1; generalize K.vs i = v at h1; generalize Fs i = F at h1
 cases h1 with
 | u h1 => cases h1 with
   | c h1 => cases h1 with
     | pt hb hrep ho => exact ⟨_, rfl⟩
theorem mR {i : Nat} (ho : o.op = .move (.tmp i)) (hp : K.pins.contains i = true) (hv : ∃ b, K.vs i = .pointer (some ⟨b, 0, none⟩)) (hd : o.dst = some d) (hn : mX K d = true) (hr : (i == d) = false) : Step P K σ o (put σ d (.addr i .d [] 0)) :=
  iH hd hn hr (fun a w Fs hs => by
    obtain ⟨b, hv⟩ := hv
    have h2 := hs.pin i hp
    have AA : a.eval (.tmp i) = .pointer (some ⟨b, 0, none⟩) := by rw [kE, h2, hv]
    have h3 := kI.addr (ET := K.ET) (w := w) (R := K.R) (tmps := a.tmps) (r := i) (off := 0) (s := .d) (p := []) (b := b) (o := 0) (by rw [h2, hv]; rfl)
    rw [bZ] at h3
    exact ⟨_, by simp [execOp, ho, AA, pure], h3⟩)
theorem oy {ops : Array Oper} {j : Nat} {σ1 : St} {t t' : T} (h : mg P K ops j σ (put σ1 d t)) (e : t = t') : mg P K ops j σ (put σ1 d t') := by subst e; exact h
theorem mK {α : Type} {f : α → List C} {xs : List α} (h : ∀ x, (f x).all lR = true) : ∀ r ∈ xs.map f, r.all lR = true := fun r hr => by
  obtain ⟨x, _, rfl⟩ := aX.mp hr
  exact h x
theorem ri {rows : List (List C)} : (rows.drop 0).take rows.length = rows := by rw [cl, dn]
def K9 (p : Prop) : Az where
  rep := fun _ v F => F = [] ∧ ∃ b, v = .bool b ∧ (b = true → p)
  frame := fun h _ => h
  lt := fun h b hb => by rw [h.1] at hb; cases hb
  one := fun h => by obtain ⟨_, b, rfl, _⟩ := h; exact ⟨rfl, rfl⟩
  isp := false
  ptr := fun h => by cases h
theorem N2 {t sz bytes : Nat} {i : Nat} {own : Bool} {rows : List (List C)} (ho : o.op = .binOp .eql t (.tmp i) (.const (.slice none 0 0)) t) (hu : nS P t sz bytes) (hi : σ i = .u (.c (.sl own sz rows))) (hd : o.dst = some d) (hn : mX K d = true) : Step P K σ o (put σ d (.u (.c (.x (K9 (rows = [])))))) :=
  iH hd hn rfl (fun a w Fs hs => by
    obtain ⟨e, inf, hu, _⟩ := hu
    have h := hs.rep i
    rw [hi] at h
    have AA : a.eval (.tmp i) = a.tmps.getD i undef := rfl
    generalize a.tmps.getD i undef = v at h AA
    generalize Fs i = F at h
    have hy : a.eval (.const (.slice none 0 0)) = .slice none 0 0 := rfl
    cases h with
    | u h => cases h with
      | c h => cases h with
        | nil =>
          refine ⟨.bool true, ?_, .u (.c (.x ⟨rfl, true, rfl, fun _ => rfl⟩))⟩
          have h1 : (Op.equal t (.slice none 0 0) (.slice none 0 0)).run P w = .ok true w := q9 (fun n => by simp [Op.equalIn, run_underlying hu, pure])
          simp [execOp, ho, Sem.run_bind, AA, hy, kF, binOp, h1, pure]
        | @sl b off len cap _ _ arr et _ _ _ =>
          refine ⟨.bool false, ?_, .u (.c (.x ⟨rfl, false, rfl, fun h => by cases h⟩))⟩
          have h1 : (Op.equal t (.slice (some ⟨b, off, none⟩) len cap) (.slice none 0 0)).run P w = .ok false w := q9 (fun n => by simp [Op.equalIn, run_underlying hu, pure])
          simp [execOp, ho, Sem.run_bind, AA, hy, kF, binOp, h1, pure])
theorem N3 {i : Nat} {p : Prop} {x y : Code} {Q : Exit → St → Prop} (hc : σ i = .u (.c (.x (K9 p)))) (hT : p → lC P K x σ Q) (hF : lC P K y σ Q) : lC P K (.cond (.tmp i) x y) σ Q := by
 rintro a w ⟨Fs, hs⟩; have h := hs.rep i; rw [hc] at h; have AA : a.eval (.tmp i) = a.tmps.getD i undef := rfl; generalize a.tmps.getD i undef = v at h AA; generalize Fs i = F at h
 cases h with
 | u h => cases h with
   | c h => cases h with
     | x h =>
       obtain ⟨_, b, rfl, hb⟩ := h
       cases b with
       | true => exact wp_cond AA (hT (hb rfl) a w ⟨Fs, hs⟩)
       | false => exact wp_cond AA (hF a w ⟨Fs, hs⟩)
def La (K : Ctx) (P : Program) (b t c2 : Nat) (u2 : U) (outs : List (Option U)) (cs : List C) (e : Exit) (σ : St) : Prop :=
  (e = .normal ∨ e = .ret) ∧ σ b = .u (.c (.pt true cs)) ∧ σ c2 = .u u2 ∧ uD u2 = true ∧ B1 P t cs.length ∧ ∀ (i : Nat) (u : U), outs[i]? = some (some u) → jN σ b .junk i = .u u ∧ K.pins.contains i = true
theorem CK {fn : Func} {b t c2 blk : Nat} {arr : Array Value} {et : TypeId} (h : fn.results = #[.cell b t, .tmp c2]) (tmps : Array Value) (w : World) (hp : tmps.getD b undef = .pointer (some ⟨blk, 0, none⟩)) (hb : w.heap[blk]? = some (.cells arr et (0, 0))) (ht : B1 P t arr.size) :
    (results fn tmps).run P w = .ok (.tuple #[.agg arr, tmps.getD c2 undef]) w := by
 have h1 := qU (P := P) (w := w) ht hb (o := 0) (by omega); rw [cl, ← bU, dn] at h1; simp only [Instr.loadAt, Instr.sureAddr, Sem.run_bind, Sem.run_pure, Result.andThen_ok] at h1; unfold results; rw [h]; rw [bq] at hp; simp [hp, asAddr, h1, Result.andThen, bq]
theorem D4 {T : (Nat → Prop) → World → Prop} {f : FuncId} {fn : Func} {c : Code} {ins : List U} {outs : List (Option U)} {cs : List C} {b t c2 : Nat} {u2 : U} {n : Nat} {pins : List Nat} (hf : P.funcs[f]? = some fn) (hb : fn.body = some c) (hn : fn.ntmps = n) (hr : fn.results = #[.cell b t, .tmp c2]) (hin : ins.length ≤ n) (hpin : ∀ i, pins.contains i = true → i < ins.length) (hout : outs.length = ins.length)
    (h : ∀ (w : World) (R : Nat → Prop) (E : List Nat) (vs : Nat → Value), T R w → lC P ⟨ET, w, R, E, n, pins, vs⟩ c (sD ins) (La ⟨ET, w, R, E, n, pins, vs⟩ P b t c2 u2 outs cs)) : Tx T P ET f ins outs [.agg cs, u2] := by
 intro R w vs F hT hrep hnd hR hRlt; obtain ⟨Fs, f1, f2, f3, f4, f5⟩ := hrep.fs hnd; have hlen := hrep.len
 have htm : ∀ i, i < vs.length → (vs.toArray ++ Array.replicate (fn.ntmps - vs.toArray.size) undef).getD i undef = vs.getD i undef := by
  intro i hi; simp [bq, aH, eR, hi]
 refine calls_of_wp hf hb ?_
 have hs : rC ⟨ET, w, R, F, n, pins, fun i => vs.getD i undef⟩ (sD ins) { tmps := vs.toArray ++ Array.replicate (fn.ntmps - vs.toArray.size) undef, defers := [] } w := by
  refine ⟨Fs, ?_, f3, f4, fun i b hb => ⟨hR b (f5 i b hb), .inl (f5 i b hb)⟩, iB.refl w F, fun b hb => ⟨hRlt b hb, fun h => hR b h hb⟩, by simp [hn, hlen]; omega, fun i hi => htm i (by rw [hlen]; exact hpin i hi), rfl⟩; intro i; unfold sD
  cases hu : ins[i]? with
  | none =>
   have : ins.length ≤ i := by
    rcases b5 i ins.length with h | h
    · rw [aA h] at hu; cases hu
    · exact h
   rw [f2 i this]; exact .junk _
  | some u =>
   obtain ⟨x, hx, hru⟩ := f1 i u hu
   have hi : i < vs.length := by
    rcases b5 i vs.length with h | h
    · exact h
    · rw [bH h] at hx; cases hx
   simp only; rw [htm i hi, aH, hx]; exact .u hru
 refine wp_mono (h w R F (fun i => vs.getD i undef) hT _ _ hs) ?_; rintro e a' w' ⟨σ, ⟨xV, hsim⟩, he, hσ, hσ2, hcu, hagg, houts⟩; have CL := hsim.out b
 obtain ⟨H, TW, TX, PK⟩ := zP (ET := ET) (w := w') (R := R) (outs := outs) (vs := vs) (Fs := jZ xV b []) (k := 0) (by rw [hout, hlen]) (fun i u hi => by
  obtain ⟨h1, h2⟩ := houts i u hi; have h3 := CL.rep i; rw [h1] at h3; have h4 := CL.pin i h2; have hi2 : i < vs.length := by rw [hlen]; exact hpin i h2
  simp only at h4; rw [h4] at h3; refine ⟨vs.getD i undef, by rw [aH, aA hi2]; rfl, ?_⟩; rw [aG]; generalize jZ xV b [] i = F3 at h3; generalize vs.getD i undef = v at h3 ⊢
  cases h3 with | u h => exact h)
 have hfin : ∃ v, (results fn a'.tmps).run P w' = .ok v w' ∧ ∃ rv H1 H2, Ending.returned v = .returned rv ∧ qI ET w' R vs outs H1 ∧ qK ET w' R rv [.agg cs, u2] H2 ∧ (H1 ++ H2).Nodup ∧ (∀ b ∈ H1 ++ H2, b ∈ F ∨ w.heap.size ≤ b) ∧ iB w F w' := by
  have h1 := hsim.rep b; rw [hσ] at h1; have PL := hsim.rep c2; rw [hσ2] at PL
  have YO : kY ET w' R (a'.tmps.getD c2 undef) u2 [] := by
   generalize a'.tmps.getD c2 undef = v2 at PL ⊢; generalize xV c2 = F2 at PL; cases PL with | u PL => have := PL.copy hcu; subst this; exact PL
  clear PL; have ql := hsim.nd b; have hdis := fun j x (hj : j ≠ b) (hx : x ∈ xV b) (hx2 : x ∈ xV j) => hj (hsim.dis j b x hx2 hx); have hown := hsim.own b; generalize hv : a'.tmps.getD b undef = v at h1; generalize hFb : xV b = Fb at h1 ql hdis hown
  cases h1 with
  | u h1 => cases h1 with
    | c h1 => cases h1 with
      | @pt blk own arr et cs F1 F' hbk lG ho =>
        rcases ho with ⟨_, rfl⟩ | ⟨h, _⟩
        · have hsz : arr.size = cs.length := by rw [← lG.length]; simp
          obtain ⟨n1, n2⟩ := bh.mp ql
          refine ⟨_, CK hr a'.tmps w' hv hbk (by rw [hsz]; exact hagg), _, H, F1, rfl, TW, .many (cF rfl) (by have := ke.cons (kY.agg lG) (ke.cons YO .nil); rw [bA, bA] at this; exact this), ?_, ?_, hsim.keeps⟩
          · rw [ax]
            refine ⟨TX CL.nd CL.dis, n2, fun x hx y hy e => ?_⟩
            subst e
            obtain ⟨j, _, hj⟩ := PK x hx
            unfold jZ at hj
            split at hj
            · cases hj
            · rename_i hne
              exact hdis j x hne (aU _ hy) hj
          · intro x hx
            rcases aT.mp hx with hx | hx
            · obtain ⟨j, _, hj⟩ := PK x hx
              exact (CL.own j x hj).2
            · exact (hown x (aU _ hx)).2
        · cases h
 rcases he with rfl | rfl
 · exact ⟨hsim.defers, hfin⟩
 · exact ⟨hsim.defers, hfin⟩
theorem FR {f : FuncId} {fn : Func} {c : Code} {ins : List U} {outs : List (Option U)} {cs : List C} {b t c2 : Nat} {u2 : U} {n : Nat} {pins : List Nat} (hf : P.funcs[f]? = some fn) (hb : fn.body = some c) (hn : fn.ntmps = n) (hr : fn.results = #[.cell b t, .tmp c2]) (hin : ins.length ≤ n) (hpin : ∀ i, pins.contains i = true → i < ins.length) (hout : outs.length = ins.length)
    (h : ∀ (w : World) (R : Nat → Prop) (E : List Nat) (vs : Nat → Value), lC P ⟨ET, w, R, E, n, pins, vs⟩ c (sD ins) (La ⟨ET, w, R, E, n, pins, vs⟩ P b t c2 u2 outs cs)) : AC P ET f ins outs [.agg cs, u2] :=
  fun R w vs F => D4 (T := fun _ _ => True) hf hb hn hr hin hpin hout (fun w R E vs _ => h w R E vs) R w vs F trivial
theorem D5 {b t c2 : Nat} {u2 : U} {outs : List (Option U)} {cs : List C} {e : Exit} (he : e = .normal ∨ e = .ret) (h1 : σ b = .u (.c (.pt true cs))) (h3 : σ c2 = .u u2) (h4 : uD u2 = true) (h2 : Lb P t cs.length = true) (h5 : uQ (jN σ b .junk) K.pins 0 outs) : La K P b t c2 u2 outs cs e σ := ⟨he, h1, h3, h4, oS h2, gy h5⟩
theorem mN {args : Array Operand} {tys : Array TypeId} {f : FuncId} {ins : List U} {outs : List (Option U)} {res : List U} (hac : MP K P f ins outs res) (hf : Is P f) (ho : o.op = .call { callee := .value (.func f), args := args, argTypes := tys })
    (hA : MH (xd K σ) args.toList ins) (hm : tc res) (hd : MQ K o.dst = true) : Step P K σ o (za σ o.dst (xU res)) :=
  Lc (caps := []) ho hf yh hA (by simpa using hac) hm hd
theorem wW (σ : St) (i : Nat) : jb σ [i] = jN σ i .junk := by
 funext j; unfold jb jN; by_cases h : j = i
 · subst h; simp
 · rw [ag h, ag (by simpa using h)]
theorem uf {t sz bytes : Nat} {zs : List C} {i : Nat} {y : Operand} {rows gV : List (List C)} (ho : o.op = .call { callee := .builtin .append, args := #[.tmp i, y], argTypes := #[t, t] }) (hz : mS P t sz bytes zs) (hx : σ i = .u (.c (.sl true sz rows))) (hy : Rows K (jN σ i .junk) sz y gV)
    (hcp : ∀ r ∈ gV, r.all lR = true) (hlen : rows.length + gV.length ≤ 1000000) (hby : bytes ≤ 100000) (hd : o.dst = some d) (hn : mX K d = true) : Step P K σ o (put (fun j => jq (jN σ i .junk j)) d (.u (.c (.sl true sz (rows ++ gV))))) := by
 have := Ld (K := K) (σ := σ) (l := [i]) ho hz (.move hx rfl) (by rw [wW]; exact hy) hcp hlen hby hd hn; rwa [wW] at this
structure FnB {α : Type} (P : Program) (ET : TypeId) (enc : α → U) (φ : α → Option Bool) where
  f : FuncId
  caps : List C
  ok : Is P f
  ac : ∀ x r, φ x = some r → AC P ET f (enc x :: caps.map .c) (none :: caps.map fun _ => none) [.c (.v (.bool r))]
end
end Go.Proofs.Ytmjnenjeckeklaa.V
namespace Go.Proofs.Ytmjnenjeckeklaa.V
open Go Go.RowKit
section
variable {P : Program} {ET : TypeId} {w w' : World} {R : Nat → Prop} {K : Ctx} {σ σ' : St} {a : Act} {Fs : Nat → List Nat} {o : Oper} {d : Nat}
theorem yZ {σ' : St} (hd : o.dst = none) (h : ∀ a w, rC K σ a w → ∃ v w', (execOp a.eval o).run P w = .ok (.value v) w' ∧ rC K σ' a w') : Step P K σ o σ' := by
 intro a w hs; obtain ⟨v, w', h1, h2⟩ := h a w hs; simp only [Oper.wp, h1, Oper.upon_value, hd, Act.put]; exact h2
theorem wk {α : Type} {f : α → List C} {l : List α} {k sz : Nat} {y : α} {us : List C} (h : us = f y) : C.sl true sz ((l.map f).set k us) = C.sl true sz ((l.set k y).map f) := by
 rw [h, fU]
theorem elim_inl {α β : Type} {F : α → Option β} {v : α} {r : β} (h : Sum.elim F some (Sum.inl v : α ⊕ β) = some r) : ∃ y, v = y ∧ F y = some r := ⟨v, rfl, h⟩
end
end Go.Proofs.Ytmjnenjeckeklaa.V
namespace Go.Proofs.Ytmjnenjeckeklaa.V
open Go Go.RowKit
section
variable {P : Program} {ET : TypeId} {w w' : World} {R : Nat → Prop} {K : Ctx} {σ σ' : St} {a : Act} {Fs : Nat → List Nat} {o : Oper} {d : Nat}
end
end Go.Proofs.Ytmjnenjeckeklaa.V
namespace Go.Proofs.Ytmjnenjeckeklaa.V
open Go Go.RowKit
section
variable {P : Program} {ET : TypeId} {w w' : World} {R : Nat → Prop} {K : Ctx} {σ σ' : St} {a : Act} {Fs : Nat → List Nat} {o : Oper} {d : Nat}
theorem yo {α β γ δ : Type} {f : α → γ} {g : β → δ} {l : List α} {l2 : List β} {n : Nat} (h : l.length + l2.length ≤ n) : (l.map f).length + (l2.map g).length ≤ n := by
 rw [ak, ak]; exact h
theorem qF {r d : Nat} {t t1 : T} {s : Spec} (hc : Clear s σ) (hf : s.fresh = some d) (hd : s.deep = true) (hr : refs t1 d = false) (ha : s.asg = [(d, t), (r, t1)]) : put (jN (fun j => jq (jN σ r .junk j)) r t1) d t = over σ s.asg := by
 rw [ha]; funext j; rw [mZ, bK]; unfold put; by_cases hj : j = d
 · subst hj; simp
 · have h1 : (j == d) = false := by simpa using hj
   rw [h1, ag hj]; unfold jN; by_cases h3 : j = r
   · subst h3; simp only [cB, bK, dm, b7]; unfold sx; rw [hr]; simp
   · have h4 : (j == r) = false := by simpa using h3
     simp only [ag h3, bK, h4, List.lookup_nil, dI]
     have h5 : rJ (σ j) = false := by
      cases h : rJ (σ j) with
      | false => rfl
      | true =>
       have h6 := hc.2 hd j h; rw [ha] at h6; simp [has, bK, h1, h4] at h6
     rw [zg h5]; unfold sx; rw [hc.ref hf hj (by rw [ha]; simp [bK, h1, h4])]; simp
def Te : T → Bool
  | .junk => true
  | _ => false
theorem QC {x : T} (h : Te x = true) : x = .junk := by cases x <;> first | rfl | cases h
theorem uT {A B : List (Nat × T)} {i : Nat} : (A ++ B).lookup i = (A.lookup i).or (B.lookup i) := by
 induction A with
 | nil => simp
 | cons p A ih =>
  obtain ⟨k, x⟩ := p; simp only [bS, bK, ih]; cases i == k <;> simp
theorem uP {D : List Nat} {A : List (Nat × T)} : over (jb σ D) A = over σ (A ++ D.map fun j => (j, .junk)) := by
 funext i; rw [mZ, mZ, uT, mA]
 cases h : A.lookup i with
 | some y => simp
 | none =>
  unfold jb; simp only [dI, eZ]; split <;> simp_all
theorem sN {D : List Nat} {s : Spec} {A : List (Nat × T)} (hc : Clear s σ) (ha : s.asg = A ++ D.map fun j => (j, .junk)) : Clear { s with asg := A } (jb σ D) := by
 refine ⟨fun d hd t ht hrf => ?_, fun hd t ht => ?_⟩
 · unfold jb at hrf; split at hrf
   · cases hrf
   · rename_i hn; have := hc.1 d hd t ht hrf; rw [ha, uT, mA, ag hn] at this; simpa using this
 · unfold jb at ht; split at ht
   · cases ht
   · rename_i hn; have := hc.2 hd t ht; rw [ha] at this; unfold has at this ⊢; rw [uT, mA, ag hn] at this; simpa using this
theorem BZ {D : List Nat} (hD : D.all (fun j => Te (jq (σ j))) = true) (j : Nat) : jq (σ j) = jq (jb σ D j) := by
 unfold jb; split
 · rename_i h; exact QC (aV.mp hD j (by simpa using h))
 · rfl
theorem Fh {D : List Nat} {i d : Nat} {t : T} {s : Spec} (hc : Clear s σ) (hf : s.fresh = some d) (hd : s.deep = true) (hD : D.all (fun j => Te (jq (σ j))) = true) (ha : s.asg = [(d, t), (i, .junk)] ++ D.map fun j => (j, .junk)) : put (fun j => jq (jN σ i .junk j)) d t = over σ s.asg := by
 have e : (fun j => jq (jN σ i .junk j)) = fun j => jq (jN (jb σ D) i .junk j) := by
  funext j; unfold jN; split
  · rfl
  · exact BZ hD j
 rw [e, IB (s := { s with asg := [(d, t), (i, .junk)] }) (sN hc ha) hf hd rfl, uP, ha]
theorem nA {D l : List Nat} {r : Nat} {t : T} {s : Spec} (hc : Clear s σ) (hd : s.deep = true) (hD : D.all (fun j => Te (jq (σ j))) = true) (ha : s.asg = ((r, t) :: l.map fun j => (j, .junk)) ++ D.map fun j => (j, .junk)) : jN (fun j => jq (jb σ l j)) r t = over σ s.asg := by
 have e : (fun j => jq (jb σ l j)) = fun j => jq (jb (jb σ D) l j) := by
  funext j; show jq (if l.contains j then .junk else σ j) = jq (if l.contains j then .junk else jb σ D j); split
  · rfl
  · exact BZ hD j
 rw [e, o8 (s := { s with asg := (r, t) :: l.map fun j => (j, .junk) }) (sN hc ha) hd rfl, uP, ha]
theorem M7 {AR : Operand → U → Prop} {i r sz n sz' : Nat} {c : C} {rows : List (List C)} {xs : List Operand} {us : List U} {hs : List (Option vG)} (h : jA i (σ i) = .whole r none sz n) (hr : σ r = .u (.c c)) (hc : c = .sl true sz' rows) (t : o7 AR (jN σ r .junk) xs us hs σ') : o7 AR σ (.tmp i :: xs) (.c c :: us) (some (r, none, c) :: hs) σ' := by
 subst hc; exact .hand (.sl h) hr rfl rfl t
abbrev tI (x : Int) : T := .u (.c (.v (.int .i64 x)))
abbrev tW (x : Int) : T := .u (.c (.v (.int .u64 x)))
abbrev tB (x : Bool) : T := .u (.c (.v (.bool x)))
theorem gq {ops : Array Oper} {j m : Nat} {σ2 : St} (k : Nat) (ds : List Nat) (t : nG P K ops k m (Tg P K ops j ds σ) σ2) (hk : j + ds.length = k := by rfl) (h : Tf P K ops j ds σ = true := by kernel_rfl) : nG P K ops j (ds.length + m) σ σ2 := MU k hk h t
theorem gH {ops : Array Oper} {j m : Nat} {σ1 σ2 : St} (k : Nat) (h : mg P K ops j σ σ1) (t : nG P K ops k m σ1 σ2) (hk : j + 1 = k := by rfl) : nG P K ops j (m + 1) σ σ2 := MV k hk h t
theorem en {ops : Array Oper} {S0 S : List Spec} {σ0 : St} {k : Nat} {t : T} {s : Spec} (tl : B9 (fun j s => ∀ σ, Clear s (over σ (nH S0 σ0 s)) → mg P K ops j (over σ (nH S0 σ0 s)) (over (over σ (nH S0 σ0 s)) s.asg)) (k + 1) S) (hf : s.fresh = some d := by rfl) (ha : s.asg = [(d, t)] := by rfl) (h : ∀ σ, Qk P K ops k (over σ (nH S0 σ0 s)) d = some t := by intro σ; kernel_rfl) : B9 (fun j s => ∀ σ, Clear s (over σ (nH S0 σ0 s)) → mg P K ops j (over σ (nH S0 σ0 s)) (over (over σ (nH S0 σ0 s)) s.asg)) k (s :: S) := .cons (fun σ hc => e_g hc hf ha (h σ)) tl
abbrev ev (a r : List Nat) (d : Nat) (t : T) : Spec := ⟨a, r, [(d, t)], some d, false⟩
abbrev eu (n : Nat) (r : List Nat) (d : Nat) (t : T) : Spec := ⟨List.range n, r, [(d, t)], some d, false⟩
theorem rr {ops : Array Oper} {id n : Nat} {Q : Exit → St → Prop} {σ1 : St} (l : List (Nat × T)) (h : nG P K ops 0 n σ σ1) (hq : Q .normal (St.of l)) (hn : n = ops.size := by rfl) (hl : at_ σ1 l = l := by kernel_rfl) : lC P K (.region id ops false) σ Q := Tt h hn hl hq
def zh (σ : St) : List (List Nat) → St
  | [] => σ
  | l :: ls => zh (jb σ l) ls
theorem IC {ls : List (List Nat)} : ∀ {σ : St}, zh σ ls = jb σ ls.flatten := by
 induction ls with
 | nil => intro σ; funext i; unfold zh jb; simp
 | cons l ls ih =>
  intro σ; unfold zh; rw [ih]; funext i; unfold jb; by_cases h1 : i ∈ l <;> by_cases h2 : i ∈ ls.flatten <;> simp_all
theorem o9 {ls : List (List Nat)} {t : T} {s : Spec} (hc : Clear s σ) (hf : s.fresh = some d) (ha : s.asg = (d, t) :: ls.flatten.map fun j => (j, .junk)) : put (zh σ ls) d t = over σ s.asg := by
 rw [IC, lg (l := ls.flatten) hc hf ha, ha]
theorem tQ {x y : Code} {Q : Exit → St → Prop} {α : Type} (L : α → List (Nat × T)) (J : α → Prop) (hA : lC P K x σ (Dr (fun σ' => ∃ v, J v ∧ ∀ i, St.of (L v) i = σ' i ∨ St.of (L v) i = .junk) Q)) (hB : ∀ v, J v → lC P K y (St.of (L v)) Q) : lC P K x σ (Dr (fun σ' => lC P K y σ' Q) Q) :=
  QD hA (fun e σ h => by
    cases e <;> first
      | exact h
      | (obtain ⟨v, hj, hw⟩ := h; exact gB hw (hB v hj)))
theorem M8 {α β : Type} {F : α → Option β} {v : α} {r : β} (h : Sum.elim F some (Sum.inl v : α ⊕ β) = some r) : F v = some r := h
def QE (P : Program) (t : TypeId) (len sz : Nat) : Prop := ∃ el inf, P.underlying t = some (.array len el) ∧ P.info? el = some inf ∧ inf.size = sz
def Tu (P : Program) (t : TypeId) (len sz : Nat) : Bool := match P.underlying t with
  | some (.array n el) => Nat.beq n len && match P.info? el with
    | some inf => Nat.beq inf.size sz
    | none => false
  | _ => false
theorem rI {t : TypeId} {len sz : Nat} (h : Tu P t len sz = true) : QE P t len sz := by
 unfold Tu at h; split at h
 · rename_i n el hu; simp only [ai] at h; obtain ⟨h1, h2⟩ := h; have := cy h1; subst this; split at h2
   · rename_i inf hi; exact ⟨el, inf, hu, hi, cy h2⟩
   · cases h2
 · cases h
theorem qX {t i r off sz len k : Nat} {sl : kG} {p : List (Nat × kG)} {x : Operand} {ik : IntKind} {e : Int} (ho : o.op = .indexAddr t (.tmp i) x) (hu : QE P t len sz) (hi : jA i (σ i) = .addr r sl p off) (hx : mV K.ET σ x = .u (.c (.v (.int ik e))))
    (h0 : 0 ≤ e) (h1 : e < len) (hk : off + e.toNat * sz = k) (hd : o.dst = some d) (hn : mX K d = true) (hrd : (r == d) = false) : Step P K σ o (put σ d (.addr r sl p k)) :=
  iH hd hn hrd (fun a w Fs hs => by
    have hxv := j9 hs hx
    have h := (xz.tmp hi).rep hs
    generalize hv : a.eval (.tmp i) = v at h
    cases h with
    | @addr _ _ b o' _ _ h =>
      obtain ⟨el, inf, hu, hinf, hsz⟩ := hu
      subst hk
      refine ⟨.pointer (some ⟨b, o' + (off + e.toNat * sz), none⟩), ?_, .addr h⟩
      have hsize : (sizeOf el).run P w = .ok sz w := by simp [sizeOf, typeInfo, hinf, hsz]
      simp only [execOp, ho, hv, hxv, Instr.indexAt, asIntOf, Instr.sureAddr, Sem.run_bind, Sem.run_pure, Result.andThen_ok, run_underlying hu]
      rw [aj ⟨h0, h1⟩]
      simp only [Sem.run_bind, hsize, Result.andThen_ok, Sem.run_pure, Addr.add_mid, ef])
theorem Ke {t len sz : Nat} {parts : Array (Nat × Operand)} {us : List (Nat × U)} {zs cs : List C} {σ' : St} (ho : o.op = .build t parts) (hb : QE P t len sz) (hz : sw P t zs) (hx : Ds K σ parts.toList us σ') (hf : uC (fun i : Nat => some (i * sz, sz)) zs us = some cs)
    (hd : o.dst = some d) (hn : mX K d = true) : Step P K σ o (put σ' d (.u (.agg cs))) := by
 rintro a w ⟨Fs, hs⟩; obtain ⟨F, Fs', hp, hs', hF, _, _⟩ := hs.takes hx; obtain ⟨el, inf, hu, hinf, hsz⟩ := hb; obtain ⟨i, z, h1, h2, h3⟩ := hz; obtain ⟨cells', F', h4, h5, h6, h7⟩ := zi hp (h3 K.ET w K.R) (by simpa using hF.1) hf; have hsize : (sizeOf el).run P w = .ok sz w := by simp [sizeOf, typeInfo, hinf, hsz]
 have hrun : (execOp a.eval o).run P w = .ok (.value (.agg cells')) w := by
  have e1 : (parts.map fun p => (p.1, a.eval p.2)).toList = parts.toList.map fun p => (p.1, a.eval p.2) := by simp
  simp only [execOp, ho, Instr.build, Sem.run_bind, nM h1 h2, Result.andThen_ok, run_underlying hu, hsize]; rw [show (Array.map (fun x => (x.fst, a.eval x.snd)) parts).toList = _ from e1, h4]; rfl
 simp only [Oper.wp, hrun, Oper.upon_value, hd]; refine ⟨_, hs'.o6 hn (iB.refl w _) (fun b hb => ?_) h6 (.u (.agg h5))⟩; rcases h7 b hb with h | h
 · cases h
 · exact hF.2 b h
structure FnI2 {α : Type} (P : Program) (ET : TypeId) (enc : α → U) (φ : α → α → Option Int) where
  f : FuncId
  caps : List C
  ok : Is P f
  ac : ∀ x y r, φ x y = some r → AC P ET f (enc x :: enc y :: caps.map .c) (none :: none :: caps.map fun _ => none) [.c (.v (.int .i64 r))]
def wU : Az where
  rep w v F := ∃ b et, v = .slice (some ⟨b, 0, none⟩) 0 0 ∧ w.heap[b]? = some (.cells #[] et (0, 0)) ∧ F = [b]
  frame := by
   rintro w w' v F ⟨b, et, h1, h2, rfl⟩ h; exact ⟨b, et, h1, (h b (by simp)).trans h2, rfl⟩
  lt := by
   rintro w v F ⟨b, et, h1, h2, rfl⟩ x hx; rw [aE.mp hx]; exact kD h2
  one := by
   rintro w v F ⟨b, et, rfl, _, _⟩; exact ⟨rfl, rfl⟩
  isp := false
  ptr := by intro h; cases h
theorem rK {t sz bytes : Nat} {zs : List C} (ho : o.op = .buildSlice t 0 #[]) (hz : mS P t sz bytes zs) (hd : o.dst = some d) (hn : mX K d = true) : Step P K σ o (put σ d (.u (.c (.x wU)))) := by
 rintro a w ⟨Fs, hs⟩; obtain ⟨e, i, z, h1, h2, h3, _, h4, h5, h6, h7⟩ := hz; obtain ⟨h8, h9⟩ := hs.boxed (et := e) (F := []) (xs := #[]) (cs := []) ⟨bu, by simp⟩ (by simpa using ig.nil)
 have hrun : (execOp a.eval o).run P w = .ok (.value (.slice (some ⟨w.heap.size, 0, none⟩) 0 0)) (w.alloc (.cells #[] e)) := by
  have hsz : (sizeOf e).run P w = .ok sz w := by simp [sizeOf, typeInfo, h2, h3]
  simp only [execOp, ho, Instr.buildSlice, Sem.run_bind, Result.andThen_ok, run_underlying h1, hsz]; have h0 : Array.map (fun _ : Nat => (default : Value)) (Array.range 0) = #[] := eX (by simp); simp [newRow, newObj, Sem.run, pure, Sem.run_bind, Instr.fill, h0]
 simp only [Oper.wp, hrun, Oper.upon_value, hd]; exact ⟨_, hs.o6 hn (iB.alloc w _) h9.2 h9.1 (.u (.c (.x ⟨_, e, rfl, lV w _, rfl⟩)))⟩
theorem wV {t ty sz bytes b : Nat} {et : TypeId} {zs : List C} (hz : mS P t sz bytes zs) {vy : Value} {gV : List (List C)} {G : List Nat} (hb : w.heap[b]? = some (.cells #[] et (0, 0))) (hR : ¬ R b) (hlt : ∀ b, R b → b < w.heap.size) {S : Nat → Prop} (hy : mQ ET w R S vy sz gV G) (hcp : ∀ r ∈ gV, r.all lR = true)
    (hlen : gV.length ≤ 1000000) (hby : bytes ≤ 100000) :
    ∃ v w1 F1, (Builtin.append_ #[t, t] ty #[.slice (some ⟨b, 0, none⟩) 0 0, vy]).run P w = .ok v w1 ∧ iz ET w1 R v (.sl true sz gV) F1 ∧ F1.Nodup ∧ (∀ x ∈ F1, x = b ∨ w.heap.size ≤ x) ∧ iB w [] w1 := by
 obtain ⟨e, i, z, h1, h2, h3, h3b, h4, h5, h6, h7⟩ := hz; have hzs : z.cells.size = i.size := by omega
 by_cases hn : gV.length = 0
 · have yl : gV = [] := bB hn; subst yl
   obtain ⟨ad, c, hv⟩ : ∃ ad c, vy = .slice ad 0 c := by
    rcases hy with ⟨rfl, _⟩ | ⟨b, off, cap, arr, et, rfl, _⟩
    · exact ⟨_, _, rfl⟩
    · exact ⟨_, _, rfl⟩
   subst hv; exact ⟨_, w, [b], sO h1 h2 (aM 0), .sl (et := (et, (0, 0))) (len := 0) (cap := 0) hb rfl (aM _) h4 (by simp) (by simp) (by simpa using ig.nil) (.inl ⟨rfl, rfl⟩) (fun _ => rfl), by simp, fun x hx => .inl (aE.mp hx), iB.refl _ _⟩
 · rcases hy with ⟨_, h⟩ | ⟨b2, off2, uR, vI, MZ, rfl, jD, k1, k2, k3, sP, lG, _, _⟩
   · subst h; simp at hn
   have hG : G = [] := lG.copy (vL hcp); subst hG; generalize hnews : (vI.toList.drop off2).take (gV.length * sz) = news at lG; have hnl : news.length = gV.length * i.size := by rw [lG.length, lH sP, h3]
   have hnc : ∀ j v, news[j]? = some v → w.cell? ((⟨b2, off2, none⟩ : Addr).add j) = some v := by rw [← hnews]; exact sQ jD
   have hgr : 0 < 0 + gV.length := by omega
   have hrun := Go.run_append_grow w t ty e i z h1 h2 h5 ⟨b, 0, none⟩ 0 0 [] (by simp) (by intro j v h; simp at h) ⟨b2, off2, none⟩ gV.length uR news hnl hnc hgr (by omega) (growslice_fits hgr (by rw [h3b]; exact sR (by omega) hby))
   have hg := iz.grown (ET := ET) (R := R) (w := w) (w1 := w.drew.alloc (.cells (([] : List Value).toArray ++ news.toArray ++ Builtin.zeroCells z.cells (grownCap w (0 + gV.length) 0 e - (0 + gV.length))) e)) (rows := []) (gV := gV) (sz := sz) (nc := grownCap w (0 + gV.length) 0 e) (olds := []) (z := z.cells) (et := e) .nil lG (by simpa using sP) h4 h6
     (by simpa using grownCap_ge w (0 + gV.length) 0 e) (by simp) hlt
   simp only [cW, cn] at hg; exact ⟨_, _, [w.heap.size], hrun, by simpa using hg, by simp, fun x hx => .inr (by rw [aE.mp hx]; exact aM _), (pY w []).trans (iB.alloc _ _) (by simp)⟩
theorem AG {t sz bytes i : Nat} {zs : List C} {y : Operand} {gV : List (List C)} (ho : o.op = .call { callee := .builtin .append, args := #[.tmp i, y], argTypes := #[t, t] }) (hz : mS P t sz bytes zs) (hx : σ i = .u (.c (.x wU))) (hy : Rows K (jN σ i .junk) sz y gV)
    (hcp : ∀ r ∈ gV, r.all lR = true) (hlen : gV.length ≤ 1000000) (hby : bytes ≤ 100000) (hd : o.dst = some d) (hn : mX K d = true) : Step P K σ o (put (jb σ [i]) d (.u (.c (.sl true sz gV)))) := by
 rintro a w ⟨Fs, hs⟩; obtain ⟨F, vE, hu, hs1, hF, _, _⟩ := hs.take (.move hx rfl); rw [← wW] at hy; obtain ⟨G, hsh⟩ := hy.xA hs1; generalize hvx : a.eval (.tmp i) = vx at hu
 cases hu with
 | c hc => cases hc with
   | x hq =>
     obtain ⟨b, et, rfl, hb, rfl⟩ := hq
     have hbF := hF.2 b (by simp)
     obtain ⟨v, w1, F1, hrun, hrep, BW, hsub, hk⟩ := wV (P := P) (ty := o.type) (b := b) hz hb hbF.2.1 (fun b hb => bp (hs1.ro b hb).1 hs1.keeps.size) hsh hcp hlen hby
     have hexec : (execOp a.eval o).run P w = .ok (.value v) w1 := by
       simp only [execOp, ho, resolve, Sem.run_bind, Sem.run_pure, Result.andThen_ok, invoke, builtin]
       simp [Sem.run_bind, hvx, hrun, pure]
     simp only [Oper.wp, hexec, Oper.upon_value, hd]
     refine ⟨_, hs1.o6 hn hk (fun x hx => ?_) BW (.u (.c hrep))⟩
     rcases hsub x hx with h | h
     · subst h; exact hbF
     · refine ⟨fun j hj => ?_, fun hR => ?_, .inr (bR hs1.keeps.size h)⟩
       · have := (hs1.rep j).lt x hj; omega
       · have := bp (hs1.ro x hR).1 hs1.keeps.size; omega
theorem p4 {α : Type} {f : α → List C} {l2 : List α} {t sz bytes i : Nat} {zs : List C} {y : Operand} (ho : o.op = .call { callee := .builtin .append, args := #[.tmp i, y], argTypes := #[t, t] }) (hz : mS P t sz bytes zs) (hx : σ i = .u (.c (.x wU))) (hy : Rows K (jN σ i .junk) sz y (l2.map f))
    (hcp : ∀ x, (f x).all lR = true) (hlen : l2.length ≤ 1000000) (hby : bytes ≤ 100000) (hd : o.dst = some d) (hn : mX K d = true) : Step P K σ o (put (jb σ [i]) d (.u (.c (.sl true sz (l2.map f))))) :=
  AG ho hz hx hy (mK hcp) (by rw [ak]; exact hlen) hby hd hn
end
end Go.Proofs.Ytmjnenjeckeklaa.V
namespace Go.Proofs.Ytmjnenjeckeklaa.V
open Go Go.RowKit
structure Ko (X : Type) where
  key : X → Int
  born : X → Nat
  val : X → Value
def Ko.pS {X : Type} (k : Ko X) (x : X) : MapEntry := ⟨.int .i64 (k.key x), k.val x, k.born x⟩
def Ko.es {X : Type} (k : Ko X) (xs : List X) : Array MapEntry := (xs.map k.pS).toArray
structure Ko.Ok {X : Type} (k : Ko X) (clk : Nat) (xs : List X) : Prop where
  lt : ∀ x ∈ xs, k.born x < clk
  born : (xs.map k.born).Nodup
  key : (xs.map k.key).Nodup
def qD (P : Program) (mt et : TypeId) : Prop := ∃ kt, P.underlying mt = some (.map kt et) ∧ P.underlying kt = some (.int .i64)
section
variable {P : Program} {w : World} {X : Type} {k : Ko X} {xs : List X} {x : X} {n : Int} {clk m : Nat} {mt et : TypeId} {v : Value}
theorem nk {Y : Type} {f : X → Y} {x y : X} (h : (xs.map f).Nodup) (hx : x ∈ xs) (hy : y ∈ xs) (e : f x = f y) : x = y := by
 induction xs with
 | nil => cases hx
 | cons z xs ih =>
  rw [aK, bh] at h; rcases bx.mp hx with rfl | hx1 <;> rcases bx.mp hy with rfl | hy1
  · rfl
  · exact absurd (aX.mpr ⟨y, hy1, e.symm⟩) h.1
  · exact absurd (show f y ∈ xs.map f from aX.mpr ⟨x, hx1, e⟩) h.1
  · exact ih h.2 hx1 hy1
theorem Jt {Y : Type} {f : X → Y} {x : X} {i j : Nat} (h : (xs.map f).Nodup) (hi : xs[i]? = some x) (hj : xs[j]? = some x) : i = j := by
 induction xs generalizing i j with
 | nil => simp at hi
 | cons z xs ih =>
  rw [aK, bh] at h; cases i <;> cases j
  · rfl
  · simp only [bF, aC] at hi; subst hi; exact absurd (aX.mpr ⟨_, cu (by simpa using hj), rfl⟩) h.1
  · simp only [bF, aC] at hj; subst hj; exact absurd (aX.mpr ⟨_, cu (by simpa using hi), rfl⟩) h.1
  · exact bN Nat.succ (ih h.2 (by simpa using hi) (by simpa using hj))
theorem sg (n : Int) : MapKept.IsKey (.int .i64) (.int .i64 n) := rfl
theorem EB (k : Ko X) (xs : List X) : ∀ e ∈ xs.map k.pS, MapKept.IsKey (.int .i64) e.key := by
 intro e he; obtain ⟨x, _, rfl⟩ := aX.mp he; rfl
theorem C8 (hk : (xs.map k.key).Nodup) (hx : x ∈ xs) (hn : k.key x = n) : ∃ j, xs[j]? = some x ∧ Instr.findNow (.int .i64) (.int .i64 n) (k.es xs).toList 0 = some (some (j, k.val x)) := by
 rcases MapKept.findNow_spec (sg n) (xs.map k.pS) 0 (EB k xs) with ⟨_, h⟩ | ⟨j, e, h1, h2, h3⟩
 · exact absurd (by rw [← hn]; rfl) (h (k.pS x) (aX.mpr ⟨x, hx, rfl⟩))
 · rw [bD, cg] at h2; obtain ⟨y, hy, rfl⟩ := h2
   have e : k.key y = n := by
    have : (Value.int .i64 (k.key y)) = .int .i64 n := h3; injection this
   have : y = x := nk hk (cu hy) hx (e.trans hn.symm); subst this; refine ⟨j, hy, ?_⟩; show Instr.findNow _ _ (xs.map k.pS) 0 = _; rw [h1, aG]; rfl
theorem Aq (hn : ∀ x ∈ xs, k.key x ≠ n) : Instr.findNow (.int .i64) (.int .i64 n) (k.es xs).toList 0 = some none := by
 rcases MapKept.findNow_spec (sg n) (xs.map k.pS) 0 (EB k xs) with ⟨h, _⟩ | ⟨j, e, h1, h2, h3⟩
 · exact h
 · rw [bD, cg] at h2; obtain ⟨y, hy, rfl⟩ := h2
   have e : k.key y = n := by
    have : (Value.int .i64 (k.key y)) = .int .i64 n := h3; injection this
   exact absurd e (hn y (cu hy))
theorem BP {b : Bool} (hK : qD P mt et) (hb : w.heap[m]? = some (.map (k.es xs) clk)) (hk : (xs.map k.key).Nodup) (hx : x ∈ xs) (hn : k.key x = n) :
    (Instr.lookup mt (.map (some m)) (.int .i64 n) b).run P w = .ok (if b then .tuple #[k.val x, .bool true] else k.val x) w := by
 obtain ⟨kt, h1, h2⟩ := hK; obtain ⟨j, _, hf⟩ := C8 hk hx hn; simp only [Instr.lookup, Sem.run_bind, run_underlying h1, MapKept.run_getObj_map hb, Sem.run_pure, MapKept.run_checkKey h2 (sg n), MapKept.run_findKey h2 hf, Result.andThen]
theorem Ar {b : Bool} {z : Value} {i : TypeInfo} (hK : qD P mt et) (hb : w.heap[m]? = some (.map (k.es xs) clk)) (hn : ∀ x ∈ xs, k.key x ≠ n) (hi : P.info? et = some i) (hz : i.zero = some z) :
    (Instr.lookup mt (.map (some m)) (.int .i64 n) b).run P w = .ok (if b then .tuple #[z, .bool false] else z) w := by
 obtain ⟨kt, h1, h2⟩ := hK; simp [Instr.lookup, run_underlying h1, MapKept.run_getObj_map hb, MapKept.run_checkKey h2 (sg n), MapKept.run_findKey h2 (Aq hn), Result.andThen, zeroValue, typeInfo, hi, hz]
def Ko.set (k : Ko X) (n : Int) (g : X → X) (xs : List X) : List X := xs.map fun y => if k.key y = n then g y else y
theorem AS {g : X → X} (hK : qD P mt et) (hb : w.heap[m]? = some (.map (k.es xs) clk)) (hk : (xs.map k.key).Nodup) (hx : x ∈ xs) (hn : k.key x = n) (hg : k.pS (g x) = { k.pS x with val := v }) :
    (Instr.mapUpdate mt (.map (some m)) (.int .i64 n) v).run P w = .ok () (ChangeMaps.setBlock w m (.map (k.es (k.set n g xs)) clk)) := by
 obtain ⟨kt, h1, h2⟩ := hK; obtain ⟨j, hj, hf⟩ := C8 hk hx hn
 have hj2 : (k.es xs)[j]? = some (k.pS x) := by
  show (xs.map k.pS).toArray[j]? = _; rw [eO, bD, hj]; rfl
 have hke : (k.pS x).key = .int .i64 n := by rw [← hn]; rfl
 simp only [Instr.mapUpdate, Sem.run_bind, run_underlying h1, MapKept.run_getObj_map hb, MapKept.run_checkKey h2 (sg n), MapKept.run_findKey h2 hf, Result.andThen, hj2, ct, b7, hke, MapKept.run_keyThatStays (sg n), MapKept.run_setObj_map _ hb]
 have he : (k.es xs).modify j (fun e => { e with key := .int .i64 n, val := v }) = k.es (k.set n g xs) := by
  apply ey; apply cZ; intro i; show _ = (((k.set n g xs).map k.pS).toArray.toList)[i]?; rw [dX, eN]; show _ = ((k.set n g xs).map k.pS)[i]?; unfold Ko.set; rw [bD, bD]; by_cases hij : j = i
  · subst hij; rw [aj rfl, hj2, hj]; simp only [ct]; rw [aj hn, hg]; rw [← hke]
  · rw [ag hij]; show ((xs.map k.pS).toArray)[i]? = _; rw [eO, bD]
    cases hy : xs[i]? with
    | none => rfl
    | some y =>
     simp only [ct]; rw [ag]; intro e; have : y = x := nk hk (cu hy) hx (e.trans hn.symm); subst this; exact hij (Jt hk hj hy)
 rw [he]; rfl
theorem yY {x : X} (hK : qD P mt et) (hb : w.heap[m]? = some (.map (k.es xs) clk)) (hn : ∀ x ∈ xs, k.key x ≠ n) (hx : k.pS x = ⟨.int .i64 n, v, clk⟩) :
    (Instr.mapUpdate mt (.map (some m)) (.int .i64 n) v).run P w = .ok () (ChangeMaps.setBlock w m (.map (k.es (xs ++ [x])) (clk + 1))) := by
 obtain ⟨kt, h1, h2⟩ := hK; simp only [Instr.mapUpdate, Sem.run_bind, run_underlying h1, MapKept.run_getObj_map hb, MapKept.run_checkKey h2 (sg n), MapKept.run_findKey h2 (Aq hn), Result.andThen, MapKept.run_setObj_map _ hb]
 have : (k.es xs).push { key := .int .i64 n, val := v, born := clk } = k.es (xs ++ [x]) := by
  unfold Ko.es; rw [bk, List.map_singleton, hx]; simp
 rw [this]; rfl
theorem BQ {Y : Type} (f : X → Y) : ∀ (xs : List X) (j : Nat), (xs.map f).eraseIdx j = (xs.eraseIdx j).map f
  | [], _ => rfl
  | _ :: _, 0 => rfl
  | x :: xs, j + 1 => by rw [aK, eB, eB, aK, BQ f xs j]
theorem erase_filter {j : Nat} (hk : (xs.map k.key).Nodup) (hj : xs[j]? = some x) (hn : k.key x = n) : xs.eraseIdx j = xs.filter fun y => k.key y != n := by
 induction xs generalizing j with
 | nil => simp at hj
 | cons z xs ih =>
  rw [aK, bh] at hk
  cases j with
  | zero =>
   simp only [bF, aC] at hj; subst hj; rw [List.eraseIdx_cons_zero, eA (by simpa using hn)]; symm; rw [di]; intro y hy; simp only [fl, ne_eq]; intro e; exact hk.1 (aX.mpr ⟨y, hy, e.trans hn.symm⟩)
  | succ j =>
   have hj' : xs[j]? = some x := by simpa using hj
   have hz : k.key z ≠ n := fun e => hk.1 (aX.mpr ⟨x, cu hj', hn.trans e.symm⟩); rw [eB, fC (by simpa using hz), ih hk.2 hj']
theorem y5 {ty kt' : TypeId} (hK : qD P mt et) (hb : w.heap[m]? = some (.map (k.es xs) clk)) (hk : (xs.map k.key).Nodup) :
    (Builtin.delete_ #[mt, kt'] ty #[.map (some m), .int .i64 n]).run P w = .ok (.tuple #[]) (ChangeMaps.setBlock w m (.map (k.es (xs.filter fun y => k.key y != n)) clk)) := by
 obtain ⟨kt, h1, h2⟩ := hK; by_cases h : ∃ x ∈ xs, k.key x = n
 · obtain ⟨x, hx, hn⟩ := h; obtain ⟨j, hj, hf⟩ := C8 hk hx hn
   have : (k.es xs).eraseIdxIfInBounds j = k.es (xs.filter fun y => k.key y != n) := by
    rw [← erase_filter hk hj hn]
    have hlt : j < (k.es xs).size := by
     show j < (xs.map k.pS).toArray.size; rcases b5 j xs.length with h | h
     · simpa using h
     · rw [bH h] at hj; cases hj
    apply ey; rw [Array.eraseIdxIfInBounds, dif_pos hlt, Array.toList_eraseIdx]; show (xs.map k.pS).eraseIdx j = (xs.eraseIdx j).map k.pS; exact BQ k.pS xs j
   simp [Builtin.delete_, run_underlying h1, MapKept.run_getObj_map hb, MapKept.run_checkKey h2 (sg n), MapKept.run_findKey h2 hf, MapKept.run_setObj_map _ hb, Result.andThen, this, ChangeMaps.setBlock]
 · have hn : ∀ x ∈ xs, k.key x ≠ n := fun x hx e => h ⟨x, hx, e⟩
   have : (xs.filter fun y => k.key y != n) = xs := by
    rw [di]; intro y hy; simpa using hn y hy
   rw [this]; simp [Builtin.delete_, run_underlying h1, MapKept.run_getObj_map hb, MapKept.run_checkKey h2 (sg n), MapKept.run_findKey h2 (Aq hn), MapKept.run_setObj_map _ hb, Result.andThen, ChangeMaps.setBlock]
theorem Ko.Ok.filter (h : k.Ok clk xs) (p : X → Bool) : k.Ok clk (xs.filter p) :=
  ⟨fun x hx => h.lt x (cm.mp hx).1, (List.filter_sublist.map _).nodup h.born, (List.filter_sublist.map _).nodup h.key⟩
theorem Ko.Ok.push {x : X} (h : k.Ok clk xs) (hb : k.born x = clk) (hn : ∀ y ∈ xs, k.key y ≠ k.key x) : k.Ok (clk + 1) (xs ++ [x]) := by
 refine ⟨fun y hy => ?_, ?_, ?_⟩
 · rcases aT.mp hy with hy | hy
   · exact Nat.lt_succ_of_lt (h.lt y hy)
   · rw [aE.mp hy, hb]; exact Nat.lt_succ_self _
 · rw [bk, ax]; refine ⟨h.born, by simp, fun a ha b jD e => ?_⟩; obtain ⟨y, hy, rfl⟩ := aX.mp ha; simp only [aK, bz, aE] at jD; have := h.lt y hy; omega
 · rw [bk, ax]; refine ⟨h.key, by simp, fun a ha b jD e => ?_⟩; obtain ⟨y, hy, rfl⟩ := aX.mp ha; simp only [aK, bz, aE] at jD; exact hn y hy (e.trans jD)
theorem Ii {Y : Type} {g : X → X} (f : X → Y) (hf : ∀ x ∈ xs, k.key x = n → f (g x) = f x) : (k.set n g xs).map f = xs.map f := by
 unfold Ko.set; rw [bW]; apply bY; intro x hx; simp only [Function.comp]; split
 · rename_i e; exact hf x hx e
 · rfl
theorem Ko.Ok.set {g : X → X} (h : k.Ok clk xs) (hb : ∀ x, k.born (g x) = k.born x) (hk : ∀ x, k.key (g x) = k.key x) : k.Ok clk (k.set n g xs) := by
 refine ⟨fun y hy => ?_, ?_, ?_⟩
 · unfold Ko.set at hy; obtain ⟨x, hx, rfl⟩ := aX.mp hy; split
   · rw [hb]; exact h.lt x hx
   · exact h.lt x hx
 · rw [Ii _ (fun x _ _ => hb x)]; exact h.born
 · rw [Ii _ (fun x _ _ => hk x)]; exact h.key
theorem Ko.Ok.nil {k : Ko X} (clk : Nat) : k.Ok clk [] := ⟨by simp, by simp, by simp⟩
end
end Go.Proofs.Ytmjnenjeckeklaa.V
namespace Go.Proofs.Ytmjnenjeckeklaa.V
open Go Go.RowKit
def q7 (v : Value) : Az where
  rep := fun _ x F => x = v ∧ (v.cells = #[v] ∧ v.oneCell' = true) ∧ F = []
  frame := fun h _ => h
  lt := by rintro w x F ⟨_, _, rfl⟩ b hb; cases hb
  one := by rintro w x F ⟨rfl, h, _⟩; exact h
  isp := false
  ptr := by intro h; cases h
  dup := true
  dupl := fun _ _ _ _ h => h.2.2
structure Fl (α β : Type) where
  sz : Nat
  fa : α → List C
  va : β → Array Value
  fw : β → List C
  rep : ∀ ET w R b, ig ET w R (va b).toList (fw b) []
  pl : ∀ x, (fa x).all sY = true
structure Pg (β : Type) where
  ku : Int
  born : Nat
  ws : β
structure Rec (α β : Type) where
  n : Int
  born : Nat
  av : Value
  l : List α
  pm : Nat
  pclk : Nat
  ps : List (Pg β)
structure nj (α β : Type) where
  n : Int
  l : List α
  ps : List (Int × β)
section
variable {α β : Type}
def Pg.tell (p : Pg β) : Int × β := (p.ku, p.ws)
def Rec.tell (r : Rec α β) : nj α β := ⟨r.n, r.l, r.ps.map Pg.tell⟩
def Fl.pk (Z : Fl α β) : Ko (Pg β) := ⟨Pg.ku, Pg.born, fun p => .agg (Z.va p.ws)⟩
def rk : Ko (Rec α β) := ⟨Rec.n, Rec.born, fun r => .agg #[r.av, .map (some r.pm)]⟩
def Fl.uN (Z : Fl α β) (ET : TypeId) (w : World) (r : Rec α β) (F : List Nat) : Prop := ∃ Fa, F = r.pm :: Fa ∧ iz ET w (fun _ => False) r.av (.sl true Z.sz (r.l.map Z.fa)) Fa ∧ w.heap[r.pm]? = some (.map (Z.pk.es r.ps) r.pclk) ∧ Z.pk.Ok r.pclk r.ps
def Fl.j6 (Z : Fl α β) (ET : TypeId) (w : World) : List (Rec α β) → List Nat → Prop
  | [], F => F = []
  | r :: L, F => ∃ F1 F2, F = F1 ++ F2 ∧ Z.uN ET w r F1 ∧ Z.j6 ET w L F2
variable {Z : Fl α β} {ET : TypeId} {w w' : World} {L A B : List (Rec α β)} {r : Rec α β} {F : List Nat}
theorem Fl.uN.frame (h : Z.uN ET w r F) (hw : ∀ b ∈ F, w'.heap[b]? = w.heap[b]?) : Z.uN ET w' r F := by
 obtain ⟨Fa, rfl, h1, h2, h3⟩ := h; exact ⟨Fa, rfl, h1.frame (fun _ h => h) (fun b hb => hw b (aU _ (hb.resolve_right id))), (hw _ (aN ..)).trans h2, h3⟩
theorem Fl.uN.lt (h : Z.uN ET w r F) : ∀ b ∈ F, b < w.heap.size := by
 obtain ⟨Fa, rfl, h1, h2, h3⟩ := h; intro b hb; rcases bx.mp hb with rfl | hb
 · exact kD h2
 · exact h1.lt b hb
theorem Fl.j6.frame : ∀ {L : List (Rec α β)} {F : List Nat}, Z.j6 ET w L F → (∀ b ∈ F, w'.heap[b]? = w.heap[b]?) → Z.j6 ET w' L F
  | [], _, h, _ => h
  | _ :: _, _, ⟨F1, F2, e, h1, h2⟩, hw => ⟨F1, F2, e, h1.frame (fun b hb => hw b (e ▸ an _ hb)), h2.frame (fun b hb => hw b (e ▸ ah _ hb))⟩
theorem Fl.j6.lt : ∀ {L : List (Rec α β)} {F : List Nat}, Z.j6 ET w L F → ∀ b ∈ F, b < w.heap.size
  | [], _, h, b, hb => by rw [show _ = [] from h] at hb; cases hb
  | _ :: _, _, ⟨F1, F2, e, h1, h2⟩, b, hb => by
    rw [e] at hb
    rcases aT.mp hb with hb | hb
    · exact h1.lt b hb
    · exact h2.lt b hb
theorem Fl.j6.split : ∀ {A : List (Rec α β)} {F : List Nat}, Z.j6 ET w (A ++ B) F → ∃ F1 F2, F = F1 ++ F2 ∧ Z.j6 ET w A F1 ∧ Z.j6 ET w B F2
  | [], F, h => ⟨[], F, rfl, rfl, h⟩
  | _ :: _, _, ⟨F1, F2, e, h1, h2⟩ => by
    obtain ⟨G1, G2, rfl, h3, h4⟩ := Fl.j6.split h2
    exact ⟨F1 ++ G1, G2, by rw [e, aW], ⟨F1, G1, rfl, h1, h3⟩, h4⟩
theorem Fl.j6.app : ∀ {A : List (Rec α β)} {F G : List Nat}, Z.j6 ET w A F → Z.j6 ET w B G → Z.j6 ET w (A ++ B) (F ++ G)
  | [], F, G, h, k => by rw [show F = [] from h]; exact k
  | _ :: _, _, _, ⟨F1, F2, e, h1, h2⟩, k => ⟨F1, F2 ++ _, by rw [e, aW], h1, h2.app k⟩
theorem Fl.j6.at_ (h : Z.j6 ET w (A ++ r :: B) F) : ∃ FA F1 FB, F = FA ++ (F1 ++ FB) ∧ Z.j6 ET w A FA ∧ Z.uN ET w r F1 ∧ Z.j6 ET w B FB := by
 obtain ⟨FA, F2, e, h1, F1, FB, rfl, h2, h3⟩ := h.split; exact ⟨FA, F1, FB, e, h1, h2, h3⟩
theorem Fl.j6.mem (h : Z.j6 ET w L F) (hm : r ∈ L) : ∃ F1, (∀ b ∈ F1, b ∈ F) ∧ Z.uN ET w r F1 := by
 obtain ⟨A, B, rfl⟩ := dN hm; obtain ⟨FA, F1, FB, rfl, _, h2, _⟩ := h.at_; exact ⟨F1, fun b hb => ah _ (an _ hb), h2⟩
end
def Fl.gQ {α β : Type} (Z : Fl α β) (ET : TypeId) (m clk : Nat) (L : List (Rec α β)) : Az where
  rep := fun w v F => v = .map (some m) ∧ ∃ F', w.heap[m]? = some (.map (rk.es L) clk) ∧ F = m :: F' ∧ Z.j6 ET w L F' ∧ rk.Ok clk L
  frame := by
   rintro w w' v F ⟨rfl, F', h1, rfl, h2, h3⟩ hw; exact ⟨rfl, F', (hw m (aN ..)).trans h1, rfl, h2.frame (fun b hb => hw b (aU _ hb)), h3⟩
  lt := by
   rintro w v F ⟨rfl, F', h1, rfl, h2, h3⟩ b hb; rcases bx.mp hb with rfl | hb
   · exact kD h1
   · exact h2.lt b hb
  one := by rintro w v F ⟨rfl, _⟩; exact ⟨rfl, rfl⟩
  isp := false
  ptr := by intro h; cases h
def Fl.gE {α β : Type} (Z : Fl α β) (ET : TypeId) (W : List (nj α β)) : Az where
  rep := fun w v F => ∃ m clk L, L.map Rec.tell = W ∧ (Z.gQ ET m clk L).rep w v F
  frame := by rintro w w' v F ⟨m, clk, L, e, h⟩ hw; exact ⟨m, clk, L, e, (Z.gQ ET m clk L).frame h hw⟩
  lt := by rintro w v F ⟨m, clk, L, e, h⟩; exact (Z.gQ ET m clk L).lt h
  one := by rintro w v F ⟨m, clk, L, e, h⟩; exact (Z.gQ ET m clk L).one h
  isp := false
  ptr := by intro h; cases h
def Fl.pE {α β : Type} (Z : Fl α β) (ps : List (Int × β)) : Az where
  rep := fun w v F => ∃ m clk qs, qs.map Pg.tell = ps ∧ v = .map (some m) ∧ w.heap[m]? = some (.map (Z.pk.es qs) clk) ∧ F = [m] ∧ Z.pk.Ok clk qs
  frame := by rintro w w' v F ⟨m, clk, qs, e, rfl, h1, rfl, h2⟩ hw; exact ⟨m, clk, qs, e, rfl, (hw m (aN ..)).trans h1, rfl, h2⟩
  lt := by rintro w v F ⟨m, clk, qs, e, rfl, h1, rfl, h2⟩ b hb; rw [aE.mp hb]; exact kD h1
  one := by rintro w v F ⟨m, clk, qs, e, rfl, _⟩; exact ⟨rfl, rfl⟩
  isp := false
  ptr := by intro h; cases h
def DF (P : Program) (et : TypeId) (zs : List C) : Prop := ∃ i arr, P.info? et = some i ∧ i.zero = some (.agg arr) ∧ ∀ ET w R, ig ET w R arr.toList zs []
def BR (b : Bool) (cs : List C) (f : Bool) : T := bif b then .tup [.agg cs, .c (.v (.bool f))] else .u (.agg cs)
theorem sk {b f : Bool} {cs : List C} {d : Nat} : refs (BR b cs f) d = false := by cases b <;> rfl
section
variable {α β : Type} {Z : Fl α β} {P : Program} {ET : TypeId} {w w' : World} {R : Nat → Prop} {K : Ctx} {σ : St} {a : Act} {Fs : Nat → List Nat} {o : Oper} {d : Nat} {L A B : List (Rec α β)} {r1 : Rec α β} {F : List Nat}
theorem zU {v : Value} {own : Bool} {sz : Nat} {rows : List (List C)} (h : iz ET w R v (.sl own sz rows) F) : v.cells = #[v] ∧ v.oneCell' = true := by cases h <;> exact ⟨rfl, rfl⟩
theorem wA {b f : Bool} {arr : Array Value} {cs : List C} {tmps : Array Value} (h : ig ET w R arr.toList cs []) : kI ET w R tmps (if b then .tuple #[.agg arr, .bool f] else .agg arr) (BR b cs f) [] := by
 cases b with
 | true => exact .tup (.cons (F := []) (.agg h) (.cons (F := []) (.c (.v rfl)) .nil))
 | false => exact .u (.agg h)
theorem nE {mt et : TypeId} {x ky : Operand} {m clk i : Nat} {n : Int} {b : Bool} {c : C} {pl : Pl} (ho : o.op = .lookup mt x ky b) (hK : qD P mt et) (hx : mV K.ET σ x = .u (.c (.v (.map (some m))))) (hky : mV K.ET σ ky = .u (.c (.v (.int .i64 n)))) (hr : σ i = .u (.c c))
    (hc : cellAt c pl = some (.x (Z.gQ K.ET m clk L))) (hown : ko c pl = true) (hm : r1 ∈ L) (hn : r1.n = n) (hd : o.dst = some d) (hn' : mX K d = true) : Step P K σ o (put σ d (BR b [.x (q7 r1.av), .v (.map (some r1.pm))] true)) :=
  iH hd hn' sk (fun a w Fs hs => by
    have e1 := j9 hs hx
    have e2 := j9 hs hky
    obtain ⟨y, Fx, hy, ⟨hy2, F', hb, hFx, hRs, hok⟩, hin⟩ := hs.qE hr hc hown
    obtain ⟨F1, sH, Fa, rfl, E4, vw, AE⟩ := hRs.mem hm
    have hl := BP (P := P) (b := b) hK hb hok.key hm hn
    refine ⟨_, ?_, wA (b := b) (f := true) (arr := #[r1.av, .map (some r1.pm)]) (.cons (F := []) (G := []) (.x ⟨rfl, zU E4, rfl⟩) (.cons (F := []) (G := []) (.v rfl) .nil))⟩
    simp only [execOp, ho, e1, e2, Sem.run_bind, hl, Result.andThen_ok, Sem.run_pure]
    rfl)
theorem nh {mt et : TypeId} {x ky : Operand} {m clk i : Nat} {n : Int} {b : Bool} {c : C} {pl : Pl} {zs : List C} (ho : o.op = .lookup mt x ky b) (hK : qD P mt et) (hZ : DF P et zs) (hx : mV K.ET σ x = .u (.c (.v (.map (some m))))) (hky : mV K.ET σ ky = .u (.c (.v (.int .i64 n)))) (hr : σ i = .u (.c c))
    (hc : cellAt c pl = some (.x (Z.gQ K.ET m clk L))) (hown : ko c pl = true) (hm : ∀ r ∈ L, r.n ≠ n) (hd : o.dst = some d) (hn' : mX K d = true) : Step P K σ o (put σ d (BR b zs false)) :=
  iH hd hn' sk (fun a w Fs hs => by
    have e1 := j9 hs hx
    have e2 := j9 hs hky
    obtain ⟨y, Fx, hy, ⟨hy2, F', hb, hFx, hRs, hok⟩, hin⟩ := hs.qE hr hc hown
    obtain ⟨ti, arr, z1, z2, z3⟩ := hZ
    have hl := Ar (P := P) (b := b) hK hb hm z1 z2
    refine ⟨_, ?_, wA (b := b) (f := false) (arr := arr) (z3 _ _ _)⟩
    simp only [execOp, ho, e1, e2, Sem.run_bind, hl, Result.andThen_ok, Sem.run_pure])
theorem Ng {mt et : TypeId} {x ky : Operand} {m clk i : Nat} {n : Int} {b : Bool} {c : C} {pl : Pl} {p : Pg β} (ho : o.op = .lookup mt x ky b) (hK : qD P mt et) (hx : mV K.ET σ x = .u (.c (.v (.map (some r1.pm))))) (hky : mV K.ET σ ky = .u (.c (.v (.int .i64 n)))) (hr : σ i = .u (.c c))
    (hc : cellAt c pl = some (.x (Z.gQ K.ET m clk L))) (hown : ko c pl = true) (hm : r1 ∈ L) (hp : p ∈ r1.ps) (hn : p.ku = n) (hd : o.dst = some d) (hn' : mX K d = true) : Step P K σ o (put σ d (BR b (Z.fw p.ws) true)) :=
  iH hd hn' sk (fun a w Fs hs => by
    have e1 := j9 hs hx
    have e2 := j9 hs hky
    obtain ⟨y, Fx, hy, ⟨hy2, F', hb, hFx, hRs, hok⟩, hin⟩ := hs.qE hr hc hown
    obtain ⟨F1, sH, Fa, rfl, E4, vw, AE⟩ := hRs.mem hm
    have hl := BP (P := P) (b := b) hK vw AE.key hp hn
    refine ⟨_, ?_, wA (b := b) (f := true) (arr := Z.va p.ws) (Z.rep _ _ _ _)⟩
    simp only [execOp, ho, e1, e2, Sem.run_bind, hl, Result.andThen_ok, Sem.run_pure]
    rfl)
theorem KC {mt et : TypeId} {x ky : Operand} {m clk i : Nat} {n : Int} {b : Bool} {c : C} {pl : Pl} {zs : List C} (ho : o.op = .lookup mt x ky b) (hK : qD P mt et) (hZ : DF P et zs) (hx : mV K.ET σ x = .u (.c (.v (.map (some r1.pm))))) (hky : mV K.ET σ ky = .u (.c (.v (.int .i64 n)))) (hr : σ i = .u (.c c))
    (hc : cellAt c pl = some (.x (Z.gQ K.ET m clk L))) (hown : ko c pl = true) (hm : r1 ∈ L) (hp : ∀ p ∈ r1.ps, p.ku ≠ n) (hd : o.dst = some d) (hn' : mX K d = true) : Step P K σ o (put σ d (BR b zs false)) :=
  iH hd hn' sk (fun a w Fs hs => by
    have e1 := j9 hs hx
    have e2 := j9 hs hky
    obtain ⟨y, Fx, hy, ⟨hy2, F', hb, hFx, hRs, hok⟩, hin⟩ := hs.qE hr hc hown
    obtain ⟨F1, sH, Fa, rfl, E4, vw, AE⟩ := hRs.mem hm
    obtain ⟨ti, arr, z1, z2, z3⟩ := hZ
    have hl := Ar (P := P) (b := b) hK vw hp z1 z2
    refine ⟨_, ?_, wA (b := b) (f := false) (arr := arr) (z3 _ _ _)⟩
    simp only [execOp, ho, e1, e2, Sem.run_bind, hl, Result.andThen_ok, Sem.run_pure])
def oe (n : Int) (g : nj α β → nj α β) (W : List (nj α β)) : List (nj α β) := W.map fun s => if s.n = n then g s else s
theorem yg {g : Rec α β → Rec α β} (hk : ((A ++ r1 :: B).map Rec.n).Nodup) : rk.set r1.n g (A ++ r1 :: B) = A ++ g r1 :: B := by
 rw [bk, aK, ax] at hk; obtain ⟨_, h2, h3⟩ := hk; rw [bh] at h2; unfold Ko.set; rw [bk, aK]
 have e1 : (A.map fun y => if rk.key y = r1.n then g y else y) = A := by
  conv => rhs; rw [← List.map_id A]
  apply bY; intro y hy; rw [ag]; · rfl
  exact fun e => h3 _ (aX.mpr ⟨y, hy, rfl⟩) _ (aN ..) e
 have e2 : (B.map fun y => if rk.key y = r1.n then g y else y) = B := by
  conv => rhs; rw [← List.map_id B]
  apply bY; intro y hy; rw [ag]; · rfl
  exact fun e => h2.1 (aX.mpr ⟨y, hy, e⟩)
 rw [e1, e2]; show A ++ (if r1.n = r1.n then g r1 else r1) :: B = _; rw [aj rfl]
theorem yX {n : Int} {g : Rec α β → Rec α β} {h : nj α β → nj α β} (hgh : ∀ r ∈ L, r.n = n → (g r).tell = h r.tell) : (rk.set n g L).map Rec.tell = oe n h (L.map Rec.tell) := by
 unfold Ko.set oe; rw [bW, bW]; apply bY; intro r hr; simp only [Function.comp]; show Rec.tell (if r.n = n then g r else r) = if r.n = n then h r.tell else r.tell; split
 · rename_i e; exact hgh r hr e
 · rfl
theorem Fl.j6.turn {r2 : Rec α β} {F : List Nat} {G : List Nat} {b : Nat} (h : Z.j6 ET w (A ++ r1 :: B) F) (hnd : F.Nodup) (hw : ∀ x ∈ F, x ≠ b → w'.heap[x]? = w.heap[x]?) (h2 : ∀ F1, Z.uN ET w r1 F1 → F1.Nodup → (∀ x ∈ F1, x ∈ F) → (b ∈ F1 ∨ b ∉ F) ∧ ∃ P9, Z.uN ET w' r2 P9 ∧ P9.Nodup ∧ ∀ x ∈ P9, x ∈ F1 ∨ x ∈ G)
    (hG : ∀ x ∈ F, x ∉ G) : ∃ F', Z.j6 ET w' (A ++ r2 :: B) F' ∧ F'.Nodup ∧ ∀ x ∈ F', x ∈ F ∨ x ∈ G := by
 obtain ⟨FA, F1, FB, rfl, hA, h1, hB⟩ := h.at_; obtain ⟨n1, n2, n3⟩ := ax.mp hnd; obtain ⟨n4, n5, n6⟩ := ax.mp n2; obtain ⟨hb, P9, h3, h4, h5⟩ := h2 F1 h1 n4 (fun x hx => ah _ (an _ hx)); refine ⟨FA ++ (P9 ++ FB), ?_, ?_, ?_⟩
 · refine (hA.frame (fun x hx => hw x (an _ hx) (fun e => ?_))).app ⟨P9, FB, rfl, h3, hB.frame (fun x hx => hw x (ah _ (ah _ hx)) (fun e => ?_))⟩
   · subst e; rcases hb with hb | hb
     · exact n3 x hx x (an _ hb) rfl
     · exact hb (an _ hx)
   · subst e; rcases hb with hb | hb
     · exact n6 x hb x hx rfl
     · exact hb (ah _ (ah _ hx))
 · refine ax.mpr ⟨n1, ax.mpr ⟨h4, n5, fun x hx y hy e => ?_⟩, fun x hx y hy e => ?_⟩
   · subst e; rcases h5 x hx with h | h
     · exact n6 x h x hy rfl
     · exact hG x (ah _ (ah _ hy)) h
   · subst e; rcases aT.mp hy with hy | hy
     · rcases h5 x hy with h | h
       · exact n3 x hx x (an _ h) rfl
       · exact hG x (an _ hx) h
     · exact n3 x hx x (ah _ hy) rfl
 · intro x hx; rcases aT.mp hx with hx | hx
   · exact .inl (an _ hx)
   · rcases aT.mp hx with hx | hx
     · exact (h5 x hx).imp (fun h => ah _ (an _ h)) id
     · exact .inl (ah _ (ah _ hx))
end
end Go.Proofs.Ytmjnenjeckeklaa.V
namespace Go.Proofs.Ytmjnenjeckeklaa.V
open Go Go.RowKit
section
variable {α β : Type} {Z : Fl α β} {P : Program} {ET : TypeId} {w w' : World} {R : Nat → Prop} {K : Ctx} {σ : St} {a : Act} {Fs : Nat → List Nat} {o : Oper} {d : Nat} {L A B : List (Rec α β)} {r1 r2 : Rec α β} {F : List Nat}
theorem MK (h : rk.pS r2 = rk.pS r1) : rk.es (A ++ r2 :: B) = rk.es (A ++ r1 :: B) := by
 unfold Ko.es; rw [bk, bk, aK, aK, h]
theorem G5 {clk : Nat} (h : rk.Ok clk (A ++ r1 :: B)) (h1 : r2.n = r1.n) (h2 : r2.born = r1.born) : rk.Ok clk (A ++ r2 :: B) := by
 refine ⟨fun x hx => ?_, ?_, ?_⟩
 · rcases aT.mp hx with hx | hx
   · exact h.lt x (an _ hx)
   · rcases bx.mp hx with e | hx
     · rw [e, show rk.born r2 = rk.born r1 from h2]; exact h.lt r1 (ah _ (aN ..))
     · exact h.lt x (ah _ (aU _ hx))
 · have := h.born; rw [bk, aK] at this ⊢; rw [show rk.born r2 = rk.born r1 from h2]; exact this
 · have := h.key; rw [bk, aK] at this ⊢; rw [show rk.key r2 = rk.key r1 from h1]; exact this
theorem Dj {m clk : Nat} {y : Value} {Fx : List Nat} (h : (Z.gQ ET m clk (A ++ r1 :: B)).rep w y Fx) (hnd : Fx.Nodup) (he : rk.pS r2 = rk.pS r1) (hn : r2.n = r1.n) (hav : r2.av = r1.av) (hpm : r2.pm = r1.pm) (hl : r2.l = r1.l) (hok : Z.pk.Ok r2.pclk r2.ps) :
    r1.pm ∈ Fx ∧ ∃ Fx', (Z.gQ ET m clk (A ++ r2 :: B)).rep (ChangeMaps.setBlock w r1.pm (.map (Z.pk.es r2.ps) r2.pclk)) y Fx' ∧ Fx'.Nodup ∧ ∀ b ∈ Fx', b ∈ Fx ∨ b ∈ ([] : List Nat) := by
 obtain ⟨rfl, F', hb, rfl, hRs, hk⟩ := h; obtain ⟨n1, n2⟩ := bh.mp hnd; obtain ⟨FA, F1, FB, rfl, _, ⟨Fa, rfl, _, vw, _⟩, _⟩ := hRs.at_; have hin : r1.pm ∈ FA ++ ((r1.pm :: Fa) ++ FB) := ah _ (an _ (aN ..)); have hne : m ≠ r1.pm := fun e => n1 (e ▸ hin); refine ⟨aU _ hin, ?_⟩
 obtain ⟨F2, h1, h2, h3⟩ := hRs.turn (r2 := r2) (w' := ChangeMaps.setBlock w r1.pm (.map (Z.pk.es r2.ps) r2.pclk)) (G := []) (b := r1.pm) n2 (fun x _ hx => kS hx) (fun F1 sH BW hs => by
  obtain ⟨Fa2, rfl, k1, k2, k3⟩ := sH; refine ⟨.inl (aN ..), r1.pm :: Fa2, ⟨Fa2, by rw [hpm], ?_, ?_, hok⟩, BW, fun x hx => .inl hx⟩
  · rw [hav, hl]; refine k1.frame (fun _ h => h) (fun b hb => kS (fun e2 => ?_)); have hb := hb.resolve_right id; subst e2; exact (bh.mp BW).1 hb
  · rw [hpm]; exact nW vw) (by simp)
 refine ⟨m :: F2, ⟨rfl, F2, (kS hne).trans (by rw [MK he]; exact hb), rfl, h1, G5 hk hn (by have := bN MapEntry.born he; exact this)⟩, ?_, fun b hb => .inl ?_⟩
 · refine bh.mpr ⟨fun h => n1 ((h3 m h).resolve_right (by simp)), h2⟩
 · rcases bx.mp hb with rfl | hb
   · exact aN ..
   · exact aU _ ((h3 b hb).resolve_right (by simp))
theorem rC.EZ {ι : Type} {q : Az} {q' : ι → Az} {good : ι → Prop} {i : Nat} {c : C} {pl : Pl} (h : rC K σ a w) (hr : σ i = .u (.c c)) (hx : cellAt c pl = some (.x q)) (ho : ko c pl = true) (hq : ∀ v F, q.rep w v F → ∃ x, good x ∧ (q' x).rep w v F) : ∃ x, good x ∧ rC K (jN σ i (.u (.c (setAt c pl (.x (q' x)))))) a w := by
 obtain ⟨Fs, hs⟩ := h; have h1 := hs.rep i; rw [hr] at h1; have hnd := hs.nd i; have hdi := fun j b (hj : j ≠ i) (hb : b ∈ Fs i) (jD : b ∈ Fs j) => hj (hs.dis j i b jD hb); have how := hs.own i; have hout := hs.out i; generalize AA : a.tmps.getD i undef = v0 at h1; generalize hFi : Fs i = F at h1 hnd hdi how
 cases h1 with
 | u h1 => cases h1 with
   | c h1 =>
     obtain ⟨y, Fo, Fx, e1, e2, h2, h3⟩ := iz.cell (tmps := a.tmps) (r := i) AA h1 hnd hx ho
     cases h2 with
     | x h2 =>
       obtain ⟨x, hg, h4⟩ := hq _ _ h2
       obtain ⟨F2, h7, h8⟩ := h3 w (.x (q' x)) Fx (fun b hb => rfl) (.x h4)
       have hp : F2.Perm F := h8.trans e2.symm
       have h9 := hout.MG (i := i) (t := .u (.c (setAt c pl (.x (q' x))))) (F := F2) (by rw [AA]; exact .u (.c h7)) (hp.nodup_iff.mpr hnd) (fun j hj b hb jD => by
         unfold jZ at jD
         rw [ag hj] at jD
         exact hdi j b hj (hp.mem_iff.mp hb) jD) (fun b hb => how b (hp.mem_iff.mp hb))
       rw [rE] at h9
       exact ⟨x, hg, _, h9⟩
theorem Fl.j6.oks : ∀ {L : List (Rec α β)} {F : List Nat}, Z.j6 ET w L F → ∀ r ∈ L, Z.pk.Ok r.pclk r.ps
  | [], _, _, r, hr => by cases hr
  | _ :: _, _, ⟨F1, F2, e, ⟨_, _, _, _, h1⟩, h2⟩, r, hr => by
    rcases bx.mp hr with rfl | hr
    · exact h1
    · exact h2.oks r hr
theorem mm {i : Nat} {c : C} {pl : Pl} {W : List (nj α β)} {x : Code} {Q : Exit → St → Prop} (hr : σ i = .u (.c c)) (hx : cellAt c pl = some (.x (Z.gE K.ET W))) (ho : ko c pl = true) (h : ∀ m clk L, L.map Rec.tell = W → (rk.Ok clk L ∧ ∀ r ∈ L, Z.pk.Ok r.pclk r.ps) → lC P K x (jN σ i (.u (.c (setAt c pl (.x (Z.gQ K.ET m clk L)))))) Q) : lC P K x σ Q := fun a w hs => by
  obtain ⟨⟨m, clk, L⟩, ⟨h1, h2⟩, h3⟩ := hs.EZ (ι := Nat × Nat × List (Rec α β)) (q' := fun x => Z.gQ K.ET x.1 x.2.1 x.2.2) (good := fun x => x.2.2.map Rec.tell = W ∧ (rk.Ok x.2.1 x.2.2 ∧ ∀ r ∈ x.2.2, Z.pk.Ok r.pclk r.ps)) hr hx ho (fun v F ⟨m, clk, L, e, hv⟩ => ⟨(m, clk, L), ⟨e, by
    obtain ⟨_, F', _, _, hRs, hk⟩ := hv
    exact ⟨hk, hRs.oks⟩⟩, hv⟩)
  exact h m clk L h1 h2 a w h3
theorem JU {i m clk : Nat} {c : C} {pl : Pl} {x : Code} {Q : Exit → St → Prop} (hr : σ i = .u (.c c)) (hx : cellAt c pl = some (.x (Z.gQ K.ET m clk L))) (ho : ko c pl = true) (h : lC P K x (jN σ i (.u (.c (setAt c pl (.x (Z.gE K.ET (L.map Rec.tell))))))) Q) : lC P K x σ Q := fun a w hs => by
  obtain ⟨_, _, h3⟩ := hs.EZ (ι := Unit) (q' := fun _ => Z.gE K.ET (L.map Rec.tell)) (good := fun _ => True) hr hx ho (fun v F hv => ⟨(), trivial, m, clk, L, rfl, hv⟩)
  exact h a w h3
def uo (n : Int) (b : β) (ps : List (Int × β)) : List (Int × β) := if ps.any (fun p => p.1 == n) then ps.map (fun p => if p.1 = n then (n, b) else p) else ps ++ [(n, b)]
theorem Qd {mt et : TypeId} {x ky v : Operand} {m clk i : Nat} {n : Int} {c : C} {pl : Pl} {b : β} {cs : List C} (ho : o.op = .mapUpdate mt x ky v) (hK : qD P mt et) (hx : mV K.ET σ x = .u (.c (.v (.map (some r1.pm))))) (hky : mV K.ET σ ky = .u (.c (.v (.int .i64 n)))) (hv : mV K.ET σ v = .u (.agg cs)) (hcs : qq cs = some (Z.va b).toList)
    (hr : σ i = .u (.c c)) (hc : cellAt c pl = some (.x (Z.gQ K.ET m clk L))) (hown : ko c pl = true) (hm : r1 ∈ L) (hd : o.dst = none) : Step P K σ o (jN σ i (.u (.c (setAt c pl (.x (Z.gE K.ET (oe r1.n (fun s => { s with ps := uo n b s.ps }) (L.map Rec.tell)))))))) := by
 refine qS hd ?_; rintro a w ⟨Fs, hs⟩; have e1 := j9 hs hx; have e2 := j9 hs hky; have e3 := (lE hs hv (by simp)).vals hcs; have e3 : a.eval v = .agg (Z.va b) := by rw [e3]
 obtain ⟨y, Fx, hy, ML, hin⟩ := hs.qE hr hc hown; obtain ⟨hy2, F', hb, hFx, hRs, hok⟩ := id ML; obtain ⟨F1, sH, Fa, rfl, E4, vw, AE⟩ := hRs.mem hm; obtain ⟨A, B, rfl⟩ := dN hm
 have key : ∀ (qs : List (Pg β)) (k : Nat), Z.pk.Ok k qs → qs.map Pg.tell = uo n b (r1.ps.map Pg.tell) → (Instr.mapUpdate mt (.map (some r1.pm)) (.int .i64 n) (.agg (Z.va b))).run P w = .ok () (ChangeMaps.setBlock w r1.pm (.map (Z.pk.es qs) k)) →
     ∃ w', (execOp a.eval o).run P w = .ok .skip w' ∧ rC K (jN σ i (.u (.c (setAt c pl (.x (Z.gE K.ET (oe r1.n (fun s => { s with ps := uo n b s.ps }) ((A ++ r1 :: B).map Rec.tell)))))))) a w' := by
   intro qs k hqs ht hrun
   refine ⟨ChangeMaps.setBlock w r1.pm (.map (Z.pk.es qs) k), by simp only [execOp, ho, e1, e2, e3, Sem.run_bind, hrun, Result.andThen_ok, Sem.run_pure], ?_⟩
   refine hs.yW (G := []) (m := r1.pm) ⟨bu, by simp⟩ hr hc hown lf (qT vw) (fun y' Fx' hy' hv' hnd hno => ?_)
   obtain ⟨h1, F2, h2, h3, h4⟩ := Dj (r2 := { r1 with ps := qs, pclk := k }) hv' hnd rfl rfl rfl rfl rfl hqs
   refine ⟨h1, F2, ⟨m, clk, _, ?_, h2⟩, h3, h4⟩
   rw [← yg (r1 := r1) (g := fun r => { r with ps := qs, pclk := k }) hok.key]
   refine yX (fun r hr hn => ?_)
   have : r = r1 := nk hok.key hr (ah _ (aN ..)) hn
   subst this
   simp only [Rec.tell, ht]
 by_cases h : ∃ p ∈ r1.ps, p.ku = n
 · obtain ⟨p, hp, hn⟩ := h; refine key (Z.pk.set n (fun p => { p with ws := b }) r1.ps) r1.pclk (AE.set (fun _ => rfl) (fun _ => rfl)) ?_ (AS hK vw AE.key hp hn rfl); unfold uo Ko.set; rw [aj (ec.mpr ⟨p.tell, aX.mpr ⟨p, hp, rfl⟩, by simpa [Pg.tell] using hn⟩), bW, bW]; apply bY; intro q _; simp only [Function.comp]; show Pg.tell (if q.ku = n then _ else q) = if q.ku = n then _ else _; split
   · rename_i e; simp [Pg.tell, e]
   · rfl
 · have hn : ∀ p ∈ r1.ps, p.ku ≠ n := fun p hp e => h ⟨p, hp, e⟩; refine key (r1.ps ++ [⟨n, r1.pclk, b⟩]) (r1.pclk + 1) (AE.push (x := (⟨n, r1.pclk, b⟩ : Pg β)) rfl hn) ?_ (yY hK vw hn rfl); unfold uo; rw [ag, bk]; · rfl
   rw [ec]; rintro ⟨x, hx, e⟩; obtain ⟨p, hp, rfl⟩ := aX.mp hx; exact hn p hp (by simpa [Pg.tell] using e)
theorem Qe {mt et kt' : TypeId} {x ky : Operand} {m clk i : Nat} {n : Int} {c : C} {pl : Pl} (ho : o.op = .call { callee := .builtin .delete, args := #[x, ky], argTypes := #[mt, kt'] }) (hK : qD P mt et) (hx : mV K.ET σ x = .u (.c (.v (.map (some r1.pm))))) (hky : mV K.ET σ ky = .u (.c (.v (.int .i64 n))))
    (hr : σ i = .u (.c c)) (hc : cellAt c pl = some (.x (Z.gQ K.ET m clk (A ++ r1 :: B)))) (hown : ko c pl = true) (hd : o.dst = none) : Step P K σ o (jN σ i (.u (.c (setAt c pl (.x (Z.gQ K.ET m clk (A ++ { r1 with ps := r1.ps.filter (fun p => p.ku != n) } :: B))))))) := by
 refine yZ hd ?_; rintro a w ⟨Fs, hs⟩; have e1 := j9 hs hx; have e2 := j9 hs hky; obtain ⟨y, Fx, hy, ML, hin⟩ := hs.qE hr hc hown; obtain ⟨hy2, F', hb, hFx, hRs, hok⟩ := id ML; obtain ⟨F1, sH, Fa, rfl, E4, vw, AE⟩ := hRs.mem (r := r1) (ah _ (aN ..)); have hl := y5 (P := P) (kt' := kt') (n := n) (ty := o.type) hK vw AE.key; refine ⟨.tuple #[], ChangeMaps.setBlock w r1.pm (.map (Z.pk.es (r1.ps.filter fun p => Z.pk.key p != n)) r1.pclk), ?_, ?_⟩
 · simp [execOp, ho, e1, e2, Sem.run_bind, resolve, invoke, builtin, hl, Result.andThen, pure]
 · refine hs.yW (G := []) (m := r1.pm) ⟨bu, by simp⟩ hr hc hown lf (qT vw) (fun y' Fx' hy' hv' hnd hno => ?_); exact Dj (r2 := { r1 with ps := r1.ps.filter (fun p => p.ku != n) }) hv' hnd rfl rfl rfl rfl rfl (AE.filter _)
end
end Go.Proofs.Ytmjnenjeckeklaa.V
namespace Go.Proofs.Ytmjnenjeckeklaa.V
open Go Go.RowKit
section
variable {α β : Type} {Z : Fl α β} {P : Program} {ET : TypeId} {w w' : World} {R : Nat → Prop} {K : Ctx} {σ : St} {a : Act} {Fs : Nat → List Nat} {o : Oper} {d : Nat} {L A B : List (Rec α β)} {r1 r2 : Rec α β} {F : List Nat}
theorem Fl.mine (Z : Fl α β) (l : List α) (c : C) (hc : vA c) : xx [.sl true Z.sz (l.map Z.fa), c] := ⟨⟨rfl, fun r hr => by
  obtain ⟨x, _, rfl⟩ := aX.mp hr
  exact Z.pl x⟩, hc, trivial⟩
theorem wM {arr : Array Value} {c1 c2 : C} (h : ig ET w R arr.toList [c1, c2] F) : ∃ x y F1 F2, arr = #[x, y] ∧ F = F1 ++ F2 ∧ iz ET w R x c1 F1 ∧ iz ET w R y c2 F2 := by
 generalize hl : arr.toList = l at h
 cases h with
 | @cons x _ xs _ F1 G h t => cases t with
   | @cons y _ ys _ F2 G2 k t => cases t with
     | nil => exact ⟨x, y, F1, F2, ey hl, by simp, h, k⟩
theorem Qf {mt et : TypeId} {x ky v : Operand} {m clk i : Nat} {n : Int} {c : C} {pl : Pl} {l : List α} {ls : List Nat} (ho : o.op = .mapUpdate mt x ky v) (hK : qD P mt et) (hx : mV K.ET σ x = .u (.c (.v (.map (some m))))) (hky : mV K.ET σ ky = .u (.c (.v (.int .i64 n)))) (hv : Src K σ v (.agg [.sl true Z.sz (l.map Z.fa), .v (.map (some r1.pm))]) ls)
    (hr : jb σ ls i = .u (.c c)) (hc : cellAt c pl = some (.x (Z.gQ K.ET m clk L))) (hown : ko c pl = true) (hm : r1 ∈ L) (hn : r1.n = n) (hd : o.dst = none) : Step P K σ o (jN (jb σ ls) i (.u (.c (setAt c pl (.x (Z.gE K.ET (oe n (fun s => { s with l := l }) (L.map Rec.tell)))))))) := by
 refine qS hd ?_; rintro a w ⟨Fs, hs⟩; have e1 := j9 hs hx; have e2 := j9 hs hky; obtain ⟨F, Fs', hu, hs', hF, _, _⟩ := hs.take hv; generalize hev : a.eval v = vv at hu
 cases hu with
 | @agg arr _ _ hu =>
 obtain ⟨av, mv, Fa, Fm, rfl, rfl, h1, h2⟩ := wM (hu.mine (R' := fun _ => False) (Z.mine l _ trivial))
 cases h2 with
 | v h2 =>
 obtain ⟨y, Fx, hy, ML, hin⟩ := hs'.qE hr hc hown; obtain ⟨hy2, F', hb, hFx, hRs, hok⟩ := id ML; have hup := AS (P := P) (v := .agg #[av, .map (some r1.pm)]) (g := fun r => { r with av := av, l := l, pm := r1.pm }) hK hb hok.key hm hn (by rfl); obtain ⟨A, B, rfl⟩ := dN hm; subst hn; rw [yg hok.key] at hup; refine ⟨ChangeMaps.setBlock w m (.map (rk.es (A ++ { r1 with av := av, l := l, pm := r1.pm } :: B)) clk), by simp only [execOp, ho, e1, e2, hev, Sem.run_bind, hup, Result.andThen_ok, Sem.run_pure], ?_⟩; refine hs'.yW (G := Fa ++ []) (m := m) hF hr hc hown lf (qT hb) (fun y' Fx' hy' hv' hnd hno => ?_); obtain ⟨rfl, F2, jD, rfl, JV, JW⟩ := hv'; obtain ⟨n1, n2⟩ := bh.mp hnd; refine ⟨aN .., ?_⟩
 obtain ⟨F3, k1, k2, k3⟩ := JV.turn (r2 := { r1 with av := av, l := l }) (w' := ChangeMaps.setBlock w m (.map (rk.es (A ++ { r1 with av := av, l := l, pm := r1.pm } :: B)) clk)) (G := Fa ++ []) (b := m) n2 (fun x _ hx => kS hx) (fun F1 sH BW hs1 => by
  obtain ⟨Fa1, rfl, q1, q2, q3⟩ := sH; have hpm := hs1 r1.pm (aN ..); refine ⟨.inr n1, r1.pm :: Fa, ⟨Fa, rfl, h1.frame (fun _ h => h) (fun b9 hb => kS (fun e => ?_)), (kS (fun e => ?_)).trans q2, q3⟩, ?_, ?_⟩
  · have Qg := hb.resolve_right id; rw [e] at Qg; exact hno _ (aN ..) (an _ Qg)
  · exact n1 (e ▸ hpm)
  · refine bh.mpr ⟨fun h => hno _ (aU _ hpm) (an _ h), (ax.mp hF.1).1⟩
  · intro x hx; rcases bx.mp hx with rfl | hx
    · exact .inl (aN ..)
    · exact .inr (an _ hx)) (fun x hx => hno x (aU _ hx))
 refine ⟨m :: F3, ⟨m, clk, A ++ { r1 with av := av, l := l } :: B, ?_, rfl, F3, nW jD, rfl, k1, G5 JW rfl rfl⟩, ?_, ?_⟩
 · rw [← yg (r1 := r1) (g := fun r => { r with av := av, l := l }) hok.key]; exact yX (fun r hr hn => rfl)
 · refine bh.mpr ⟨fun h => ?_, k2⟩; rcases k3 m h with h | h
   · exact n1 h
   · exact hno m (aN ..) h
 · intro b hb; rcases bx.mp hb with rfl | hb
   · exact .inl (aN ..)
   · exact (k3 b hb).imp (aU _) id
theorem MM {mt et : TypeId} {x ky v : Operand} {m clk i : Nat} {n : Int} {c : C} {pl : Pl} {l : List α} {ps : List (Int × β)} {ls : List Nat} (ho : o.op = .mapUpdate mt x ky v) (hK : qD P mt et) (hx : mV K.ET σ x = .u (.c (.v (.map (some m))))) (hky : mV K.ET σ ky = .u (.c (.v (.int .i64 n)))) (hv : Src K σ v (.agg [.sl true Z.sz (l.map Z.fa), .x (Z.pE ps)]) ls)
    (hr : jb σ ls i = .u (.c c)) (hc : cellAt c pl = some (.x (Z.gQ K.ET m clk L))) (hown : ko c pl = true) (hm : ∀ r ∈ L, r.n ≠ n) (hd : o.dst = none) : Step P K σ o (jN (jb σ ls) i (.u (.c (setAt c pl (.x (Z.gE K.ET (L.map Rec.tell ++ [⟨n, l, ps⟩]))))))) := by
 refine qS hd ?_; rintro a w ⟨Fs, hs⟩; have e1 := j9 hs hx; have e2 := j9 hs hky; obtain ⟨F, Fs', hu, hs', hF, _, _⟩ := hs.take hv; generalize hev : a.eval v = vv at hu
 cases hu with
 | @agg arr _ _ hu =>
 obtain ⟨av, mv, Fa, Fm, rfl, rfl, h1, h2⟩ := wM (hu.mine (R' := fun _ => False) (Z.mine l _ trivial))
 cases h2 with
 | x h2 =>
 obtain ⟨pm, pclk, qs, hqs, rfl, hpb, rfl, hpok⟩ := h2; obtain ⟨y, Fx, hy, ML, hin⟩ := hs'.qE hr hc hown; obtain ⟨hy2, F', hb, hFx, hRs, hok⟩ := id ML; have hup := yY (P := P) (k := rk (α := α) (β := β)) (v := .agg #[av, .map (some pm)]) (x := ⟨n, clk, av, l, pm, pclk, qs⟩) hK hb hm rfl; refine ⟨ChangeMaps.setBlock w m (.map (rk.es (L ++ [⟨n, clk, av, l, pm, pclk, qs⟩])) (clk + 1)), by simp only [execOp, ho, e1, e2, hev, Sem.run_bind, hup, Result.andThen_ok, Sem.run_pure], ?_⟩; refine hs'.yW (G := Fa ++ [pm]) (m := m) hF hr hc hown lf (qT hb) (fun y' Fx' hy' hv' hnd hno => ?_); obtain ⟨rfl, F2, jD, rfl, JV, JW⟩ := hv'; obtain ⟨n1, n2⟩ := bh.mp hnd; have hmG := hno m (aN ..); obtain ⟨m1, m2, m3⟩ := ax.mp hF.1; refine ⟨aN .., m :: (F2 ++ ((pm :: Fa) ++ [])), ⟨m, clk + 1, L ++ [⟨n, clk, av, l, pm, pclk, qs⟩], ?_, rfl, _, nW jD, rfl, ?_, ?_⟩, ?_, ?_⟩
 · rw [bk, List.map_singleton]; simp only [Rec.tell, hqs]
 · refine (JV.frame (fun b Qg => kS (fun e => n1 (by rw [← e]; exact Qg)))).app ⟨pm :: Fa, [], rfl, ⟨Fa, rfl, h1.frame (fun _ h => h) (fun b9 hb => kS (fun e => ?_)), (kS (fun e => ?_)).trans hpb, hpok⟩, rfl⟩
   · have Qg := hb.resolve_right id; rw [e] at Qg; exact hmG (an _ Qg)
   · exact hmG (ah _ (aE.mpr e.symm))
 · exact JW.push rfl hm
 · rw [bA]; refine bh.mpr ⟨fun h => ?_, ax.mpr ⟨n2, bh.mpr ⟨fun h => m3 pm h pm (aE.mpr rfl) rfl, m1⟩, fun x hx z hz e => ?_⟩⟩
   · rcases aT.mp h with h | h
     · exact n1 h
     · rcases bx.mp h with h | h
       · exact hmG (ah _ (by rw [h]; exact aE.mpr rfl))
       · exact hmG (an _ h)
   · subst e; refine hno x (aU _ hx) ?_; rcases bx.mp hz with h | h
     · exact ah _ (by rw [h]; exact aE.mpr rfl)
     · exact an _ h
 · intro b hb; rw [bA] at hb; rcases bx.mp hb with rfl | hb
   · exact .inl (aN ..)
   · rcases aT.mp hb with hb | hb
     · exact .inl (aU _ hb)
     · rcases bx.mp hb with rfl | hb
       · exact .inr (ah _ (aE.mpr rfl))
       · exact .inr (an _ hb)
theorem Fl.j6.filter (p : Rec α β → Bool) : ∀ {L : List (Rec α β)} {F : List Nat}, Z.j6 ET w L F → ∃ F2, Z.j6 ET w (L.filter p) F2 ∧ F2.Sublist F
  | [], F, h => ⟨F, h, dU _⟩
  | r :: L, F, ⟨F1, F2, e, h1, h2⟩ => by
    obtain ⟨G, h3, h4⟩ := Fl.j6.filter p h2
    rw [e, dr]
    split
    · exact ⟨F1 ++ G, ⟨F1, G, rfl, h1, h3⟩, (dU _).append h4⟩
    · exact ⟨G, h3, h4.trans (dD _ _)⟩
theorem Qh {mt et kt' : TypeId} {x ky : Operand} {m clk i : Nat} {n : Int} {c : C} {pl : Pl} (ho : o.op = .call { callee := .builtin .delete, args := #[x, ky], argTypes := #[mt, kt'] }) (hK : qD P mt et) (hx : mV K.ET σ x = .u (.c (.v (.map (some m))))) (hky : mV K.ET σ ky = .u (.c (.v (.int .i64 n))))
    (hr : σ i = .u (.c c)) (hc : cellAt c pl = some (.x (Z.gQ K.ET m clk L))) (hown : ko c pl = true) (hd : o.dst = none) : Step P K σ o (jN σ i (.u (.c (setAt c pl (.x (Z.gE K.ET ((L.map Rec.tell).filter (fun s => s.n != n)))))))) := by
 refine yZ hd ?_; rintro a w ⟨Fs, hs⟩; have e1 := j9 hs hx; have e2 := j9 hs hky; obtain ⟨y, Fx, hy, ML, hin⟩ := hs.qE hr hc hown; obtain ⟨hy2, F', hb, hFx, hRs, hok⟩ := id ML; have hl := y5 (P := P) (kt' := kt') (n := n) (ty := o.type) hK hb hok.key; refine ⟨.tuple #[], _, ?_, hs.yW (w' := ChangeMaps.setBlock w m (.map (rk.es (L.filter fun y => rk.key y != n)) clk)) (G := []) (m := m) ⟨bu, by simp⟩ hr hc hown lf (qT hb) (fun y' Fx' hy' hv' hnd hno => ?_)⟩
 · simp [execOp, ho, e1, e2, Sem.run_bind, resolve, invoke, builtin, hl, Result.andThen, pure]
 · obtain ⟨rfl, F2, jD, rfl, JV, JW⟩ := hv'; obtain ⟨n1, n2⟩ := bh.mp hnd; obtain ⟨F3, k1, k2⟩ := JV.filter (fun y => rk.key y != n); refine ⟨aN .., m :: F3, ⟨m, clk, _, ?_, rfl, F3, nW jD, rfl, k1.frame (fun b hb => kS (fun e => n1 (k2.subset (e ▸ hb)))), JW.filter _⟩, bh.mpr ⟨fun h => n1 (k2.subset h), k2.nodup n2⟩, fun b hb => .inl ?_⟩
   · rw [List.filter_map]; rfl
   · rcases bx.mp hb with rfl | hb
     · exact aN ..
     · exact aU _ (k2.subset hb)
theorem MN (Z : Fl α β) {t : TypeId} (ho : o.op = .makeMap t none) (hd : o.dst = some d) (hn : mX K d = true) : Step P K σ o (put σ d (.u (.c (.x (Z.pE []))))) := by
 rintro a w ⟨Fs, hs⟩
 have hrun : (execOp a.eval o).run P w = .ok (.value (.map (some w.heap.size))) (w.alloc (.map #[] 0)) := by
  simp [execOp, ho, Instr.makeMap, newObj, Sem.run, pure]
 simp only [Oper.wp, hrun, Oper.upon_value, hd]
 exact ⟨_, hs.o6 hn (iB.alloc w _) (F := [w.heap.size]) (fun b hb => by
  rw [aE] at hb; subst hb
  exact ⟨fun j hj => bX _ ((hs.rep j).lt _ hj), fun hR => bX _ (bp (hs.ro _ hR).1 hs.keeps.size), .inr hs.keeps.size⟩) (by simp) (.u (.c (.x ⟨w.heap.size, 0, [], rfl, rfl, lV w _, rfl, .nil 0⟩)))⟩
theorem MO (Z : Fl α β) {t : TypeId} (ho : o.op = .makeMap t none) (hd : o.dst = some d) (hn : mX K d = true) : Step P K σ o (put σ d (.u (.c (.x (Z.gE K.ET []))))) := by
 rintro a w ⟨Fs, hs⟩
 have hrun : (execOp a.eval o).run P w = .ok (.value (.map (some w.heap.size))) (w.alloc (.map #[] 0)) := by
  simp [execOp, ho, Instr.makeMap, newObj, Sem.run, pure]
 simp only [Oper.wp, hrun, Oper.upon_value, hd]
 exact ⟨_, hs.o6 hn (iB.alloc w _) (F := [w.heap.size]) (fun b hb => by
  rw [aE] at hb; subst hb
  exact ⟨fun j hj => bX _ ((hs.rep j).lt _ hj), fun hR => bX _ (bp (hs.ro _ hR).1 hs.keeps.size), .inr hs.keeps.size⟩) (by simp) (.u (.c (.x ⟨w.heap.size, 0, [], rfl, rfl, [], lV w _, rfl, rfl, .nil 0⟩)))⟩
end
end Go.Proofs.Ytmjnenjeckeklaa.V
namespace Go.Proofs.Ytmjnenjeckeklaa.V
open Go Go.RowKit
def CG (P : Program) (K : Ctx) (ops : Array Oper) (i : Nat) (σ : St) (S : St → Prop) : Prop := ∀ a w, rC K σ a w → wpOp P ops (fun _ _ _ => False) i (fun a' w' => ∃ σ1, S σ1 ∧ rC K σ1 a' w') a w
section
variable {α β : Type} {Z : Fl α β} {P : Program} {ET : TypeId} {w w' : World} {R : Nat → Prop} {K : Ctx} {σ : St} {a : Act} {Fs : Nat → List Nat} {o : Oper} {d : Nat} {L A B : List (Rec α β)} {r1 r2 : Rec α β} {F : List Nat} {ops : Array Oper}
theorem I2 {id n : Nat} {S : St → Prop} {Q : Exit → St → Prop} (hn : ops.size = n + 1) (h0 : CG P K ops 0 σ S) (h : ∀ σ1, S σ1 → ∃ σ2, nG P K ops 1 n σ1 σ2 ∧ Q .normal σ2) : lC P K (.region id ops false) σ Q := by
 intro a w hs; refine wp_region ?_; rw [List.range_eq_range', hn, List.range'_succ, wpOps_cons]; refine zM (h0 a w hs) (fun a w ⟨σ1, h1, h2⟩ => ?_); obtain ⟨σ2, h3, h4⟩ := h σ1 h1; exact Bo h3 (fun a w hs => ⟨σ2, hs, h4⟩) a w h2
theorem rrN {id n : Nat} {S : St → Prop} {Q : Exit → St → Prop} (hn : ops.size = n + 1) (h0 : CG P K ops 0 σ S) (h : ∀ σ1, S σ1 → ∃ l σ2, nG P K ops 1 n σ1 σ2 ∧ at_ σ2 l = l ∧ Q .normal (St.of l)) : lC P K (.region id ops false) σ Q := by
 intro a w hs
 refine wp_mono (I2 (id := id) (Q := fun e s => e = .normal ∧ ∃ l, at_ s l = l ∧ Q .normal (St.of l)) hn h0 (fun σ1 h1 => by
  obtain ⟨l, σ2, h2, h3, h4⟩ := h σ1 h1
  exact ⟨σ2, h2, rfl, l, h3, h4⟩) a w hs) ?_
 rintro e a' w' ⟨s, h1, rfl, l, h2, h3⟩; exact ⟨St.of l, h1.weaken (gm h2), h3⟩
theorem KX {mt kt et : TypeId} {x : Operand} {m clk i : Nat} {c : C} {pl : Pl} (ho : o.op = .range mt x) (hm : P.underlying mt = some (.map kt et)) (hx : mV K.ET σ x = .u (.c (.v (.map (some r1.pm))))) (hr : σ i = .u (.c c)) (hc : cellAt c pl = some (.x (Z.gQ K.ET m clk L))) (hown : ko c pl = true) (hmem : r1 ∈ L)
    (hd : o.dst = some d) (hn : mX K d = true) : Step P K σ o (put σ d (.u (.c (.x (ov r1.pm r1.pclk [] r1.pclk))))) := by
 rintro a w ⟨Fs, hs⟩; have e1 := j9 hs hx; obtain ⟨y, Fx, hy, ⟨hy2, F', hb, hFx, hRs, hok⟩, hin⟩ := hs.qE hr hc hown; obtain ⟨F1, sH, Fa, rfl, E4, vw, AE⟩ := hRs.mem hmem
 have hrun : (execOp a.eval o).run P w = .ok (.value (.pointer (some ⟨w.heap.size, 0, none⟩))) (w.alloc (.mapIter (some r1.pm) r1.pclk #[] r1.pclk)) := by
  simp [execOp, ho, e1, Instr.range, run_underlying hm, MapKept.run_getObj_map vw, newObj, Sem.run, Sem.run_bind, Result.andThen, pure]
 simp only [Oper.wp, hrun, Oper.upon_value, hd]
 exact ⟨_, hs.o6 hn (iB.alloc w _) (F := [w.heap.size]) (fun b hb => by
  rw [aE] at hb; subst hb
  exact ⟨fun j hj => bX _ ((hs.rep j).lt _ hj), fun hR => bX _ (bp (hs.ro _ hR).1 hs.keeps.size), .inr hs.keeps.size⟩) (by simp) (.u (.c (.x ⟨w.heap.size, rfl, lV w _, rfl⟩)))⟩
theorem DX {X : Type} {k : Ko X} {xs : List X} {seen : List Nat} {e : MapEntry} (h : e ∈ (leftOf (k.es xs) seen.toArray).toList) : ∃ x ∈ xs, e = k.pS x ∧ k.born x ∉ seen := by
 unfold leftOf at h; have h1 := Array.mem_filter.mp (Array.mem_toList_iff.mp h); obtain ⟨h1, h2⟩ := h1
 have h3 : e ∈ xs.map k.pS := by
  have := Array.mem_toList_iff.mpr h1; exact this
 obtain ⟨x, hx, rfl⟩ := aX.mp h3; exact ⟨x, hx, rfl, by simpa [Ko.pS] using h2⟩
theorem Bp {X : Type} {k : Ko X} {xs : List X} {seen : List Nat} (h : (leftOf (k.es xs) seen.toArray).size = 0) : ∀ x ∈ xs, k.born x ∈ seen := by
 intro x hx; have h1 := eX h; unfold leftOf at h1; rw [Array.filter_eq_empty_iff] at h1
 have := h1 (k.pS x) (by
  show k.pS x ∈ (xs.map k.pS).toArray
  simpa using ⟨x, hx, rfl⟩)
 simpa [Ko.pS] using this
theorem NW {m clk i j : Nat} {since last : Nat} {seen : List Nat} {c : C} {pl : Pl} (h0 : ops[0]? = some o) (hg : o.guard = none) (ho : o.op = .next (.tmp j) false) (hj : σ j = .u (.c (.x (ov r1.pm since seen last)))) (hr : σ i = .u (.c c)) (hc : cellAt c pl = some (.x (Z.gQ K.ET m clk L))) (hown : ko c pl = true) (hmem : r1 ∈ L)
    (hsince : since = r1.pclk) (hlast : since ≤ last) (hd : o.dst = some d) (hn : mX K d = true) :
    CG P K ops 0 σ (fun σ1 => (σ1 = put σ d (.tup [.c (.v (.bool false))]) ∧ ∀ p ∈ r1.ps, p.born ∈ seen) ∨ ∃ p ∈ r1.ps, p.born ∉ seen ∧ σ1 = put (jN σ j (.u (.c (.x (ov r1.pm since (seen ++ [p.born]) r1.pclk))))) d (.tup [.c (.v (.bool true)), .c .dead, .c .dead])) := by
     rintro a w ⟨Fs, hs⟩; obtain ⟨y, Fx, hy, ⟨hy2, F', hb, hFx, hRs, hok⟩, hin⟩ := hs.qE hr hc hown; obtain ⟨F1, sH, Fa, rfl, E4, vw, AE⟩ := hRs.mem hmem; obtain ⟨v, Fi, hv, ⟨b, wR, jD, _⟩, _⟩ := hs.qE (pl := none) hj rfl rfl; simp only [nI, aC] at hv; unfold wpOp; rw [h0]; simp only; rw [aj (by simp [Region.wanted, hg])]; refine .inl ?_
     have hold : ∀ x ∈ (Z.pk.es r1.ps).toList, x.born < since := by
      intro x hx; obtain ⟨p, hp, rfl⟩ := aX.mp (show x ∈ r1.ps.map Z.pk.pS from hx); rw [hsince]; exact AE.lt p hp
     have he : (execOp a.eval o).run P w = ((Instr.next (.pointer (some ⟨b, 0, none⟩)) false o.type).run P w).andThen fun v w' => .ok (.value v) w' := by
      simp only [execOp, ho, kE, hv, wR, Sem.run_bind, Sem.run_pure]
     rcases run_next_at (P := P) w o.type b r1.pm since last seen.toArray (Z.pk.es r1.ps) r1.pclk jD vw hold hlast with ⟨h1, h2⟩ | ⟨e, YM, w1, hw1, h2⟩
     · rw [h2] at he; simp only [Oper.wp, he, Result.andThen, Oper.upon_value, hd]; exact ⟨_, .inl ⟨rfl, Bp h1⟩, _, hs.o6 hn (iB.refl _ _) (F := []) (by simp) bu (.tup (.cons (F := []) (.c (.v rfl)) .nil))⟩
     · obtain ⟨p, hp, rfl, hps⟩ := DX YM; rw [h2] at he; simp only [Oper.wp, he, Result.andThen, Oper.upon_value, hd]; have hw1h : w1.heap = w.heap := by rcases hw1 with rfl | rfl <;> rfl
       have KY : w1.heap[b]? = some (.mapIter (some r1.pm) since seen.toArray last) := by rw [hw1h]; exact jD
       have hk : iB w [b] (ChangeMaps.setBlock w1 b (.mapIter (some r1.pm) since (seen.toArray.push (Z.pk.pS p).born) r1.pclk)) := by
        rcases hw1 with rfl | rfl
        · exact lf
        · exact ⟨rfl, rfl, rfl, by
           show w.heap.size ≤ (w.heap.setIfInBounds b _).size
           rw [er]; exact aM _, fun x _ hx => by
           have : x ≠ b := fun e => hx (by simp [e]); show (w.heap.setIfInBounds b _)[x]? = _
           exact cE (dz this)⟩
       obtain ⟨xV, h3⟩ := hs.yW (G := []) (q' := ov r1.pm since (seen ++ [p.born]) r1.pclk) ⟨bu, by simp⟩ hj (pl := none) rfl rfl (w' := ChangeMaps.setBlock w1 b (.mapIter (some r1.pm) since (seen.toArray.push (Z.pk.pS p).born) r1.pclk)) (m := b) hk (fun ad v hc => by
           refine zo KY ad v ?_
           unfold World.cell? at hc ⊢
           rw [hw1h]; exact hc) (fun y' Fx' hy' ⟨b', KZ, hb2'', hFx'⟩ hnd hno => by
         simp only [nI, aC] at hy'
         have hbb : b' = b := by
           have e := hy'.symm.trans hv
           rw [KZ, wR] at e
           injection e with e; injection e with e; injection e
         subst hbb
         subst hFx'
         exact ⟨aE.mpr rfl, [b'], ⟨b', KZ, by rw [nW KY]; simp [Fl.pk, Ko.pS], rfl⟩, by simp, fun b hb => .inl hb⟩)
       exact ⟨_, .inr ⟨p, hp, hps, rfl⟩, _, h3.o6 hn (iB.refl _ _) (F := []) (by simp) bu (.tup (.cons (F := []) (.c (.v rfl)) (.cons (F := []) (.c (.dead _)) (.cons (F := []) (.c (.dead _)) .nil))))⟩
theorem K6 {m clk i j since : Nat} {seen : List Nat} {p : Pg β} {c : C} {pl : Pl} (ho : o.op = .entry (.tmp j)) (hj : σ j = .u (.c (.x (ov r1.pm since (seen ++ [p.born]) r1.pclk)))) (hr : σ i = .u (.c c)) (hc : cellAt c pl = some (.x (Z.gQ K.ET m clk L))) (hown : ko c pl = true) (hmem : r1 ∈ L) (hp : p ∈ r1.ps)
    (hd : o.dst = some d) (hn : mX K d = true) : Step P K σ o (put σ d (.tup [.c (.v (.int .i64 p.ku)), .agg (Z.fw p.ws)])) :=
  iH hd hn rfl (fun a w Fs hs => by
    obtain ⟨y, Fx, hy, ⟨hy2, F', hb, hFx, hRs, hok⟩, hin⟩ := hs.qE hr hc hown
    obtain ⟨F1, sH, Fa, rfl, E4, vw, AE⟩ := hRs.mem hmem
    obtain ⟨v, Fi, hv, ⟨b, wR, jD, _⟩, _⟩ := hs.qE (pl := none) hj rfl rfl
    simp only [nI, aC] at hv
    have hl := run_entry_at (P := P) w b r1.pm since seen.toArray (Z.pk.es r1.ps) r1.pclk (Z.pk.pS p) (by rw [jD]; simp [Fl.pk, Ko.pS]) vw (aX.mpr ⟨p, hp, rfl⟩) (by
      show ((r1.ps.map Z.pk.pS).map MapEntry.born).Nodup
      rw [bW]; exact AE.born)
    refine ⟨_, ?_, .tup (.cons (F := []) (.c (.v rfl)) (.cons (F := []) (.agg (Z.rep _ _ _ p.ws)) .nil))⟩
    simp only [execOp, ho, kE, hv, wR, Sem.run_bind, hl, Result.andThen_ok, Sem.run_pure]
    rfl)
theorem QL {x : Operand} {m clk i : Nat} {c : C} {pl : Pl} (hx : mV K.ET σ x = .u (.c (.x (q7 r1.av)))) (hr : σ i = .u (.c c)) (hc : cellAt c pl = some (.x (Z.gQ K.ET m clk L))) (hown : ko c pl = true) (hmem : r1 ∈ L) : xd K σ x (.c (.sl false Z.sz (r1.l.map Z.fa))) :=
  .sem (fun a w Fs hs => by
    obtain ⟨y, Fx, hy, ⟨hy2, F', hb, hFx, hRs, hok⟩, hin⟩ := hs.qE hr hc hown
    obtain ⟨F1, sH, Fa, rfl, E4, vw, AE⟩ := hRs.mem hmem
    have h1 := lE hs hx (by simp)
    generalize a.eval x = v at h1 ⊢
    cases h1 with
    | u h1 => cases h1 with
      | c h1 => cases h1 with
        | x h1 =>
          rw [h1.1]
          refine .c (E4.qm (fun r hr => ?_) (fun b hb => .inr ⟨i, hin b (by rw [hFx]; exact aU _ (sH b (aU _ hb)))⟩) (fun b hb => hb.elim))
          obtain ⟨z, _, rfl⟩ := aX.mp hr
          rw [aV]
          intro c hc
          have := aV.mp (Z.pl z) c hc
          cases c <;> first | rfl | cases this)
theorem Bq {args : Array Operand} {tys : Array TypeId} {f : FuncId} {res : List U} (ho : o.op = .call { callee := .value (.func f), args := args, argTypes := tys }) (hf : Is P f)
    (h : ∀ a w Fs, jP K σ a w Fs → Calls P f (args.toList.map a.eval).toArray w (fun e w' => ∃ rv H, e = .returned rv ∧ iB w [] w' ∧ qK K.ET w' (fun _ => False) rv res H ∧ H.Nodup ∧ ∀ b ∈ H, w.heap.size ≤ b)) (hm : tc res) (hd : o.dst = some d) (hn : mX K d = true) : Step P K σ o (put σ d (xU res)) := by
 rintro a w ⟨Fs, hsim⟩; obtain ⟨vc, hvc, hrun⟩ := zB (P := P) ho yh hf hsim; cases hvc; simp only [Oper.wp, hrun, Oper.upon_enter, bA]; refine (h a w Fs hsim).mono ?_; rintro e w2 ⟨rv, H, rfl, hk, hR, hnd, hlt⟩
 have hfree : rG K Fs H := ⟨hnd, fun b hb => by
  have h := hlt b hb; refine ⟨fun j hj => ?_, fun hR => ?_, .inr (bR hsim.keeps.size h)⟩
  · have := (hsim.rep j).lt b hj; omega
  · have := bp (hsim.ro b hR).1 hsim.keeps.size; omega⟩
 rw [hd]; exact ⟨_, hsim.o6 hn hk hfree.2 hfree.1 ((hR.mine hm).QK.Ca (xb res d))⟩
end
end Go.Proofs.Ytmjnenjeckeklaa.V
namespace Go.Proofs.Ytmjnenjeckeklaa.V
open Go Go.RowKit
section
variable {α β : Type}
def jQ (W : List (nj α β)) (n : Int) : Option (nj α β) := W.find? fun s => s.n == n
def jw (z : β) (ps : List (Int × β)) (n : Int) : β := ((ps.find? fun p => p.1 == n).map Prod.snd).getD z
variable {Z : Fl α β} {P : Program} {ET : TypeId} {w w' : World} {R : Nat → Prop} {K : Ctx} {σ : St} {a : Act} {Fs : Nat → List Nat} {o : Oper} {d : Nat} {L A B : List (Rec α β)} {r1 r2 : Rec α β} {F : List Nat} {W : List (nj α β)} {n : Int} {s1 : nj α β}
theorem lD (hL : L.map Rec.tell = W) (h : jQ W n = none) : ∀ r ∈ L, r.n ≠ n := by
 intro r hr e; subst hL; have := dy.mp h r.tell (aX.mpr ⟨r, hr, rfl⟩); exact this (by simpa [Rec.tell] using e)
theorem k8 (hL : L.map Rec.tell = W) (h : jQ W n = some s1) : ∃ r ∈ L, r.n = n ∧ r.tell = s1 := by
 subst hL; have h1 := cU h; have h2 := eY h; obtain ⟨r, hr, rfl⟩ := aX.mp h1; exact ⟨r, hr, by simpa [Rec.tell] using h2, rfl⟩
theorem elim_none {γ δ : Type} {x : Option γ} {f : δ} {g : γ → δ} {r : δ} (hx : x = none) (h : x.elim f g = r) : f = r := by subst hx; exact h
theorem elim_some {γ δ : Type} {x : Option γ} {y : γ} {f : δ} {g : γ → δ} {r : δ} (hx : x = some y) (h : x.elim f g = r) : g y = r := by subst hx; exact h
theorem iT {i m clk : Nat} {c : C} {pl : Pl} {x : Code} {Q : Exit → St → Prop} (hL : L.map Rec.tell = W) (hr : σ i = .u (.c c)) (hx : cellAt c pl = some (.x (Z.gQ K.ET m clk L))) (ho : ko c pl = true) (h : lC P K x (jN σ i (.u (.c (setAt c pl (.x (Z.gE K.ET W)))))) Q) : lC P K x σ Q := by
 subst hL; exact JU hr hx ho h
theorem jK {t i r off m clk : Nat} {s : kG} {p : List (Nat × kG)} {c : C} {cs : List C} (ho : o.op = .load t (.tmp i)) (ht : FC P t) (hi : jA i (σ i) = .addr r s p off) (hr : σ r = .u (.c c)) (hg : nx c s p = some cs)
    (hx : cs[off]? = some (.x (Z.gQ K.ET m clk L))) (hd : o.dst = some d) (hn : mX K d = true) : Step P K σ o (put σ d (.u (.c (.v (.map (some m)))))) :=
  iH hd hn rfl (fun a w Fs hs => by
    obtain ⟨b, o', arr, et, Fi, h1, h2, h3, h4, _⟩ := hs.place hi hr hg
    obtain ⟨y, F1, Fj, F2, hy, _, hrx, _⟩ := h4.at_ hx
    cases hrx with
    | x hrx =>
      obtain ⟨rfl, _⟩ := hrx
      have hcell := kT h2 hy
      refine ⟨_, ?_, .u (.c (.v rfl))⟩
      simp only [execOp, ho, h1, Sem.run_bind, tV ht hcell, Result.andThen_ok, Sem.run_pure])
theorem DE {mt et : TypeId} {x ky : Operand} {m clk i : Nat} {n : Int} {c : C} {pl : Pl} {z : β} (hs : r1.tell = s1) (ho : o.op = .lookup mt x ky false) (hK : qD P mt et) (hZ : DF P et (Z.fw z)) (hx : mV K.ET σ x = .u (.c (.v (.map (some r1.pm))))) (hky : mV K.ET σ ky = .u (.c (.v (.int .i64 n)))) (hr : σ i = .u (.c c))
    (hc : cellAt c pl = some (.x (Z.gQ K.ET m clk L))) (hown : ko c pl = true) (hm : r1 ∈ L) (hd : o.dst = some d) (hn' : mX K d = true) : Step P K σ o (put σ d (.u (.agg (Z.fw (jw z s1.ps n))))) := by
 subst hs; unfold jw
 cases hf : r1.tell.ps.find? (fun p => p.1 == n) with
 | none =>
  exact KC ho hK hZ hx hky hr hc hown hm (fun p hp e => dy.mp hf p.tell (aX.mpr ⟨p, hp, rfl⟩) (by simpa [Pg.tell] using e)) hd hn'
 | some q =>
  have h1 := cU hf; have h2 := eY hf; obtain ⟨p, hp, rfl⟩ := aX.mp h1; exact Ng ho hK hx hky hr hc hown hm hp (by simpa [Pg.tell] using h2) hd hn'
end
section
variable {α β : Type} {Z : Fl α β} {P : Program} {K : Ctx} {σ : St} {o : Oper} {d : Nat} {L : List (Rec α β)} {r1 : Rec α β} {W : List (nj α β)} {s1 : nj α β}
theorem Nh {mt et : TypeId} {x ky v : Operand} {m clk i : Nat} {n n0 : Int} {c : C} {pl : Pl} {b : β} {cs : List C} (hL : L.map Rec.tell = W) (hn0 : r1.n = n0) (ho : o.op = .mapUpdate mt x ky v) (hK : qD P mt et) (hx : mV K.ET σ x = .u (.c (.v (.map (some r1.pm))))) (hky : mV K.ET σ ky = .u (.c (.v (.int .i64 n)))) (hv : mV K.ET σ v = .u (.agg cs)) (hcs : qq cs = some (Z.va b).toList)
    (hr : σ i = .u (.c c)) (hc : cellAt c pl = some (.x (Z.gQ K.ET m clk L))) (hown : ko c pl = true) (hm : r1 ∈ L) (hd : o.dst = none) : Step P K σ o (jN σ i (.u (.c (setAt c pl (.x (Z.gE K.ET (oe n0 (fun s => { s with ps := uo n b s.ps }) W))))))) := by
 subst hL hn0; exact Qd ho hK hx hky hv hcs hr hc hown hm hd
theorem Nl {mt et : TypeId} {x ky v : Operand} {m clk i : Nat} {n : Int} {c : C} {pl : Pl} {l : List α} {ls : List Nat} (hL : L.map Rec.tell = W) (ho : o.op = .mapUpdate mt x ky v) (hK : qD P mt et) (hx : mV K.ET σ x = .u (.c (.v (.map (some m))))) (hky : mV K.ET σ ky = .u (.c (.v (.int .i64 n)))) (hv : Src K σ v (.agg [.sl true Z.sz (l.map Z.fa), .v (.map (some r1.pm))]) ls)
    (hr : jb σ ls i = .u (.c c)) (hc : cellAt c pl = some (.x (Z.gQ K.ET m clk L))) (hown : ko c pl = true) (hm : r1 ∈ L) (hn : r1.n = n) (hd : o.dst = none) : Step P K σ o (jN (jb σ ls) i (.u (.c (setAt c pl (.x (Z.gE K.ET (oe n (fun s => { s with l := l }) W))))))) := by
 subst hL; exact Qf ho hK hx hky hv hr hc hown hm hn hd
theorem zy {mt et : TypeId} {x ky v : Operand} {m clk i : Nat} {n : Int} {c : C} {pl : Pl} {l : List α} {ps : List (Int × β)} {ls : List Nat} (hL : L.map Rec.tell = W) (hm : jQ W n = none) (ho : o.op = .mapUpdate mt x ky v) (hK : qD P mt et) (hx : mV K.ET σ x = .u (.c (.v (.map (some m))))) (hky : mV K.ET σ ky = .u (.c (.v (.int .i64 n)))) (hv : Src K σ v (.agg [.sl true Z.sz (l.map Z.fa), .x (Z.pE ps)]) ls)
    (hr : jb σ ls i = .u (.c c)) (hc : cellAt c pl = some (.x (Z.gQ K.ET m clk L))) (hown : ko c pl = true) (hd : o.dst = none) : Step P K σ o (jN (jb σ ls) i (.u (.c (setAt c pl (.x (Z.gE K.ET (W ++ [⟨n, l, ps⟩]))))))) := by
 have := lD hL hm; subst hL; exact MM ho hK hx hky hv hr hc hown this hd
theorem No {mt et kt' : TypeId} {x ky : Operand} {m clk i : Nat} {n : Int} {c : C} {pl : Pl} (hL : L.map Rec.tell = W) (ho : o.op = .call { callee := .builtin .delete, args := #[x, ky], argTypes := #[mt, kt'] }) (hK : qD P mt et) (hx : mV K.ET σ x = .u (.c (.v (.map (some m))))) (hky : mV K.ET σ ky = .u (.c (.v (.int .i64 n))))
    (hr : σ i = .u (.c c)) (hc : cellAt c pl = some (.x (Z.gQ K.ET m clk L))) (hown : ko c pl = true) (hd : o.dst = none) : Step P K σ o (jN σ i (.u (.c (setAt c pl (.x (Z.gE K.ET (W.filter (fun s => s.n != n)))))))) := by
 subst hL; exact Qh ho hK hx hky hr hc hown hd
theorem rM {x : Operand} {m clk i : Nat} {c : C} {pl : Pl} (ht : r1.tell = s1) (hx : mV K.ET σ x = .u (.c (.x (q7 r1.av)))) (hr : σ i = .u (.c c)) (hc : cellAt c pl = some (.x (Z.gQ K.ET m clk L))) (hown : ko c pl = true) (hmem : r1 ∈ L) : xd K σ x (.c (.sl false Z.sz (s1.l.map Z.fa))) := by
 subst ht; exact QL hx hr hc hown hmem
end
section
variable {P : Program} {ET : TypeId} {w w' : World} {R : Nat → Prop} {K : Ctx} {σ : St} {a : Act} {Fs : Nat → List Nat} {o : Oper} {d : Nat}
def Pt (P : Program) (t : TypeId) (len : Nat) : Prop := ∃ el q, P.underlying t = some (.array len el) ∧ (P.info? el).map (·.size) = some 1 ∧ P.underlying el = some q ∧ q.isRow = false
theorem Np {xt len : Nat} {x y : Operand} {ik : IntKind} {e : Int} {cs : List C} {c : C} (ho : o.op = .index xt x y) (hu : Pt P xt len) (hx : mV K.ET σ x = .u (.agg cs)) (hy : mV K.ET σ y = .u (.c (.v (.int ik e)))) (h0 : 0 ≤ e) (h1 : e < len) (hc : cs[e.toNat]? = some c) (hcc : lR c = true) (hd : o.dst = some d) (hn : mX K d = true) : Step P K σ o (put σ d (.u (.c c))) :=
  iH hd hn rfl (fun a w Fs hs => by
    obtain ⟨el, q, u1, u2, u3, u4⟩ := hu
    rw [cg] at u2
    obtain ⟨inf, u2, u5⟩ := u2
    have hyv := j9 hs hy
    have h := lE hs hx (by simp)
    generalize hv : a.eval x = v at h
    cases h with
    | u h => cases h with
      | @agg arr _ _ h =>
        obtain ⟨z, F1, Fj, F2, hz, _, hrx, _⟩ := h.at_ hc
        rw [hrx.copy hcc] at hrx
        refine ⟨z, ?_, .u (.c hrx)⟩
        have hz' : arr[e.toNat]? = some z := by simpa using hz
        have ha := Bg (P := P) u3 w
        rw [u4] at ha
        have hsize : (sizeOf el).run P w = .ok 1 w := by simp [sizeOf, typeInfo, u2, u5]
        simp [execOp, ho, Sem.run_bind, hv, hyv, Instr.index, asIntOf, run_underlying u1, h0, h1, hsize, part, ha, hz', pure])
abbrev W8 := Nat → Int
def w8 (w : W8) : List C := [.v (.int .u64 (w 0)), .v (.int .u64 (w 1)), .v (.int .u64 (w 2)), .v (.int .u64 (w 3)), .v (.int .u64 (w 4)), .v (.int .u64 (w 5)), .v (.int .u64 (w 6)), .v (.int .u64 (w 7))]
def Yr (w : W8) : Array Value := #[.int .u64 (w 0), .int .u64 (w 1), .int .u64 (w 2), .int .u64 (w 3), .int .u64 (w 4), .int .u64 (w 5), .int .u64 (w 6), .int .u64 (w 7)]
def mY (w : W8) (k : Nat) (v : Int) : W8 := fun j => if j = k then v else w j
theorem KD (ET : TypeId) (w : World) (R : Nat → Prop) (b : W8) : ig ET w R (Yr b).toList (w8 b) [] :=
  .cons (F := []) (.v rfl) (.cons (F := []) (.v rfl) (.cons (F := []) (.v rfl) (.cons (F := []) (.v rfl) (.cons (F := []) (.v rfl) (.cons (F := []) (.v rfl) (.cons (F := []) (.v rfl) (.cons (F := []) (.v rfl) .nil)))))))
theorem lt8 {k : Nat} (h : k < 8) : k = 0 ∨ k = 1 ∨ k = 2 ∨ k = 3 ∨ k = 4 ∨ k = 5 ∨ k = 6 ∨ k = 7 := by omega
theorem Pu {w : W8} {k : Nat} (h : k < 8) : (w8 w)[k]? = some (.v (.int .u64 (w k))) := by
 rcases lt8 h with rfl | rfl | rfl | rfl | rfl | rfl | rfl | rfl <;> rfl
theorem QM {w : W8} {k : Nat} {v : Int} (h : k < 8) : (w8 w).take k ++ ([.v (.int .u64 v)] ++ (w8 w).drop (k + 1)) = w8 (mY w k v) := by
 rcases lt8 h with rfl | rfl | rfl | rfl | rfl | rfl | rfl | rfl <;> rfl
theorem IM {w : W8} {k : Nat} : (((w8 w).drop k).take 1).all tX = true := by
 have h : (w8 w).all tX = true := rfl; rw [aV] at h ⊢; exact fun c hc => h c (eU (dZ hc))
theorem zf {t i r k : Nat} {s : kG} {p : List (Nat × kG)} {c c' : C} {wd : W8} {v : Int} {x : Operand} (ho : o.op = .store t (.tmp i) x) (ht : (P.info? t).map (·.size) = some 1) (hi : jA i (σ i) = .addr r s p k) (hx : mV K.ET σ x = .u (.c (.v (.int .u64 v)))) (hr : σ r = .u (.c c)) (hg : nx c s p = some (w8 wd))
    (hown : uq c s p = true) (hk : k < 8) (hd : o.dst = none) (e : oE c s p (w8 (mY wd k v)) = c') : Step P K σ o (jN σ r (.u (.c c'))) :=
  p9 (f := fun (_ : Unit) => []) (n := 1) (k := 0) (sz := 0) ho ht hi hx rfl hr hg hown rfl rfl (by show k + 1 ≤ 8; omega) rfl IM rfl hd (by show oE c s p ((w8 wd).take k ++ ([.v (.int .u64 v)] ++ (w8 wd).drop (k + 1))) = c'; rw [QM hk]; exact e)
end
end Go.Proofs.Ytmjnenjeckeklaa.V
namespace Go.Proofs.Ytmjnenjeckeklaa.V
open Go Go.RowKit
section
variable {P : Program} {ET : TypeId} {w w' : World} {R : Nat → Prop} {K : Ctx} {σ : St} {a : Act} {Fs : Nat → List Nat} {o : Oper} {d : Nat}
theorem Dm {t ty sz bytes : Nat} {zs : List C} (hz : mS P t sz bytes zs) {vx vy : Value} {rows gV : List (List C)} {F G : List Nat} (hx : iz ET w R vx (.sl true sz rows) F) (hnd : F.Nodup) (hR : ∀ b ∈ F, ¬ R b) (hlt : ∀ b, R b → b < w.heap.size) {S : Nat → Prop} (hy : mQ ET w R S vy sz gV G) (hGn : (F ++ G).Nodup) (hGR : ∀ b ∈ G, ¬ R b) (hlv : vD gV.flatten = true)
    (hlen : rows.length + gV.length ≤ 1000000) (hby : bytes ≤ 100000) :
    ∃ v w1 F1, (Builtin.append_ #[t, t] ty #[vx, vy]).run P w = .ok v w1 ∧ iz ET w1 R v (.sl true sz (rows ++ gV)) F1 ∧ F1.Nodup ∧ (∀ b ∈ F1, (b ∈ F ∨ b ∈ G) ∨ w.heap.size ≤ b) ∧ ∃ E1, iB w E1 w1 ∧ ∀ b ∈ E1, b ∈ F := by
 obtain ⟨e, i, z, h1, h2, h3, h3b, h4, h5, h6, h7⟩ := hz; have hzs : z.cells.size = i.size := by omega
 by_cases hn : gV.length = 0
 · have yl : gV = [] := bB hn; subst yl
   obtain ⟨ad, c, hv⟩ : ∃ ad c, vy = .slice ad 0 c := by
    rcases hy with ⟨rfl, _⟩ | ⟨b, off, cap, arr, et, rfl, _⟩
    · exact ⟨_, _, rfl⟩
    · exact ⟨_, _, rfl⟩
   subst hv; rw [bA]
   obtain ⟨ad2, Tk, uR, Tl, Tm⟩ : ∃ ad len cap, vx = .slice ad len cap ∧ len ≤ cap := by
    cases hx with
    | nil => exact ⟨_, _, _, rfl, aM _⟩
    | sl _ _ hcap => exact ⟨_, _, _, rfl, hcap⟩
   subst Tl; exact ⟨_, w, F, sO h1 h2 Tm, hx, hnd, fun b hb => .inl (.inl hb), [], iB.refl _ _, by simp⟩
 · rcases hy with ⟨_, h⟩ | ⟨b2, off2, uR, vI, MZ, rfl, jD, k1, k2, k3, sP, lG, _, _⟩
   · subst h; simp at hn
   generalize hnews : (vI.toList.drop off2).take (gV.length * sz) = news at lG; have hnl : news.length = gV.length * i.size := by rw [lG.length, lH sP, h3]
   have hnc : ∀ j v, news[j]? = some v → w.cell? ((⟨b2, off2, none⟩ : Addr).add j) = some v := by rw [← hnews]; exact sQ jD
   cases hx with
   | nil =>
    have hrun := Go.run_append_nil w t ty e i z h1 h2 h5 ⟨b2, off2, none⟩ gV.length uR news hnl hnc (by omega) (by omega) (by
     have := sR (n := gV.length) (by simp at hlen; omega) hby
     rw [← h3b] at this; omega)
    have hg := iz.grown (w := w) (w1 := w.drew.alloc (.cells (news.toArray ++ Builtin.zeroCells z.cells (grownCap w gV.length 0 e - gV.length)) e)) (rows := []) (gV := gV) (sz := sz) (nc := grownCap w gV.length 0 e) (olds := []) (z := z.cells) (et := e) .nil lG (by simpa using sP) h4 h6
      (by simpa using grownCap_ge w gV.length 0 e) (by simp) hlt
    simp only [cW, aG, cn] at hg; refine ⟨_, _, _, hrun, hg, bh.mpr ⟨fun h => bX _ (lG.lt _ h), by simpa using hGn⟩, fun b hb => (bx.mp hb).elim (fun h => .inr (by rw [h]; exact aM _)) (fun h => .inl (.inr h)), [], (pY w []).trans (iB.alloc _ _) (by simp), by simp⟩
   | @sl b off len cap _ _ arr et _ F1 F' hb hl hcap hsz hfit hrow hrep ho hz =>
    rcases ho with ⟨_, rfl⟩ | ⟨h, _⟩
    case inr => cases h
    subst hl; have holdl : ((arr.toList.drop off).take (rows.length * sz)).length = rows.length * i.size := by rw [hrep.length, lH hrow, h3]
    have hrows : ∀ r ∈ rows ++ gV, r.length = sz := fun r hr => (aT.mp hr).elim (hrow r) (sP r); have hmul := bg sz hcap; by_cases hroom : rows.length + gV.length ≤ cap
    · have J5 := bg sz hroom; rw [bQ] at J5; have B4 : news.length = gV.length * sz := by rw [hnl, h3]
      have hst := run_storeCells_at (P := P) b (off + rows.length * sz) et.1 news 0 arr w (by rw [← hz rfl]; exact hb) (by rw [B4]; omega) (lG.rF hlv); rw [show off + rows.length * sz + 0 = off + rows.length * sz by rfl, B4] at hst; have hfc := run_firstCells_some (P := P) w i.size gV.length ⟨b2, off2, none⟩ gV.length uR news hnl hnc; rw [h3] at hfc; generalize hw' : w.setRow b ((arr.toList.take (off + rows.length * sz) ++ news ++ arr.toList.drop (off + rows.length * sz + gV.length * sz))).toArray = w' at hst; have hadd : (⟨b, off, none⟩ : Addr).add (rows.length * sz) = ⟨b, off + rows.length * sz, none⟩ := Addr.add_mid b off _
      have hrun : (Builtin.append_ #[t, t] ty #[.slice (some ⟨b, off, none⟩) rows.length cap, .slice (some ⟨b2, off2, none⟩) gV.length uR]).run P w = .ok (.slice (some ⟨b, off, none⟩) (rows.length + gV.length) cap) w' := by
       simp [Builtin.append_, run_underlying h1, sizeOf, typeInfo, h2, h3, Builtin.lenOf, hroom, hfc, hadd, hst, pure]
      have hbF : b ∈ b :: F1 := aN ..; have hsame : ∀ x, x ≠ b → w'.heap[x]? = w.heap[x]? := fun x hx => by rw [← hw']; exact qV hx
      have hnb : b ∉ F1 := (bh.mp hnd).1; refine ⟨_, w', b :: (F1 ++ G), hrun, .sl (rows := rows ++ gV) (et := et) (by rw [← hw']; exact tO hb) (by simp) hroom hsz ?_ hrows ?_ (.inl ⟨rfl, rfl⟩) hz, hGn, fun x hx => .inl ((aT.mp (show x ∈ (b :: F1) ++ G from hx)).imp id id), [b], by rw [← hw']; exact pJ, fun x hx => by rw [aE.mp hx]; exact hbF⟩
      · simp only [dV, aI, az, aQ, B4, bU]; omega
      · have e1 : ((arr.toList.take (off + rows.length * sz) ++ news ++ arr.toList.drop (off + rows.length * sz + gV.length * sz)).toArray.toList.drop off).take ((rows.length + gV.length) * sz) = (arr.toList.drop off).take (rows.length * sz) ++ news := by
         simp only [ek]; rw [aW, cJ (by rw [az]; simp; omega), dG, ez, ← aW]; rw [show (rows.length + gV.length) * sz = ((arr.toList.drop off).take (rows.length * sz) ++ news).length by rw [aI, holdl, B4, h3, bQ], cr]
        rw [e1, cN]; refine (hrep.frame (fun _ h => h) (fun x hx => hsame x ?_)).append (lG.frame (fun _ h => h) (fun x hx => hsame x ?_))
        · rintro rfl; exact hx.elim hnb (fun h => hR x hbF h)
        · rintro rfl; exact hx.elim (fun h => (ax.mp hGn).2.2 x hbF x h rfl) (fun h => hR x hbF h)
    · have hgr : cap < rows.length + gV.length := by omega
      have hrun := Go.run_append_grow w t ty e i z h1 h2 h5 ⟨b, off, none⟩ rows.length cap _ holdl (sQ hb) ⟨b2, off2, none⟩ gV.length uR news hnl hnc hgr (by omega) (growslice_fits hgr (by rw [h3b]; exact sR hlen hby)); have hg := iz.grown (w := w) (rows := rows) (gV := gV) (sz := sz) (nc := grownCap w (rows.length + gV.length) cap e) (z := z.cells) (et := e) hrep lG hrows h4 h6 (grownCap_ge w _ cap e) rfl hlt; refine ⟨_, _, _, hrun, hg, ?_, fun x hx => ?_, [], (pY w []).trans (iB.alloc _ _) (by simp), by simp⟩
      · rw [bh]; exact ⟨fun h => bX _ ((aT.mp h).elim (hrep.lt _) (lG.lt _)), (bh.mp (show (b :: (F1 ++ G)).Nodup from hGn)).2⟩
      · rcases bx.mp hx with rfl | hx
        · exact .inr (aM _)
        · exact .inl ((aT.mp hx).imp (aU _) id)
theorem jP.J0 {r : Nat} {pl : Pl} {c x : C} (hs : jP K σ a w Fs) (hr : σ r = .u (.c c)) (hx : cellAt c pl = some x) (ho : ko c pl = true) : ∃ y Fx Fs', nI w a.tmps r pl = some y ∧ iz K.ET w K.R y x Fx ∧ jP K (jN σ r (.u (.c (setAt c pl .dead)))) a w Fs' ∧ rG K Fs' Fx ∧ (∀ j, j ≠ r → Fs' j = Fs j) := by
 have hR := hs.rep r; rw [hr] at hR; have hnd := hs.nd r; have hdi := fun j b (hj : j ≠ r) (hb : b ∈ Fs r) (jD : b ∈ Fs j) => hj (hs.dis j r b jD hb); have how := hs.own r; have hout := hs.out r; generalize hv : a.tmps.getD r undef = v at hR; generalize hFr : Fs r = F at hR hnd hdi how
 cases hR with
 | u hR => cases hR with
   | c hR =>
     obtain ⟨y, Fo, Fx, k1, k2, k3, k4⟩ := iz.cell (tmps := a.tmps) (r := r) hv hR hnd hx ho
     obtain ⟨F2, k5, k6⟩ := k4 w .dead [] (fun _ _ => rfl) (.dead y)
     rw [bA] at k6
     have ql : (Fo ++ Fx).Nodup := k2.nodup_iff.mp hnd
     have AB := hout.MG (i := r) (t := .u (.c (setAt c pl .dead))) (F := F2) (by rw [hv]; exact .u (.c k5)) (k6.nodup_iff.mpr (ax.mp ql).1) (fun j hj b' hb' jD => by
       unfold jZ at jD
       try rw [ag hj] at jD
       exact hdi j b' hj (k2.mem_iff.mpr (an _ (k6.mem_iff.mp hb'))) jD) (fun b' hb' => how b' (k2.mem_iff.mpr (an _ (k6.mem_iff.mp hb'))))
     rw [rE] at AB
     refine ⟨y, Fx, _, k1, k3, AB, ⟨(ax.mp ql).2.1, fun b' hb' => ⟨fun j hj => ?_, how b' (k2.mem_iff.mpr (ah _ hb'))⟩⟩, fun j hj => ?_⟩
     · unfold jZ at hj
       split at hj
       · exact (ax.mp ql).2.2 b' (k6.mem_iff.mp hj) b' hb' rfl
       · rename_i hne
         try rw [ag hne] at hj
         exact hdi j b' hne (k2.mem_iff.mpr (ah _ hb')) hj
     · unfold jZ
       rw [ag hj, ag hj]
theorem Iw {t sz bytes i j r : Nat} {zs : List C} {pl : Pl} {c : C} {rows gV : List (List C)} (ho : o.op = .call { callee := .builtin .append, args := #[.tmp i, .tmp j], argTypes := #[t, t] }) (hz : mS P t sz bytes zs) (hi : jA i (σ i) = .whole r pl sz rows.length) (hj : σ j = .u (.c (.sl true sz gV))) (hjr : j ≠ r)
    (hr : σ r = .u (.c c)) (hc : cellAt c pl = some (.sl true sz rows)) (hown : ko c pl = true) (hlv : vD gV.flatten = true) (hlen : rows.length + gV.length ≤ 1000000) (hby : bytes ≤ 100000) (hd : o.dst = some d) (hn : mX K d = true) (hrd : refs (.u (.c (setAt c pl .dead))) d = false) :
    Step P K σ o (put (jN (fun q => jq (jN (jN σ j .junk) r .junk q)) r (.u (.c (setAt c pl .dead)))) d (.u (.c (.sl true sz (rows ++ gV))))) := by
     rintro a w ⟨Fs, hs⟩; have hal := (xz.tmp hi).rep hs; have hsj := hs.rep j; rw [hj] at hsj; obtain ⟨y, Fx, vE, k1, k2, hs1, sH, hsame⟩ := hs.J0 hr hc hown; generalize hvx : a.eval (.tmp i) = vx at hal
     cases hal with
     | whole h1 _ =>
     obtain rfl : vx = y := aZ (h1.symm.trans k1); have J6 := hs1.rep j; have hjj : jN σ r (.u (.c (setAt c pl .dead))) j = .u (.c (.sl true sz gV)) := by unfold jN; rw [ag hjr]; exact hj
     rw [hjj] at J6; have hnd := hs1.nd j; have hfj : ∀ b ∈ vE j, b ∉ Fx := fun b hb hx => (sH.2 b hx).1 j hb; have how := hs1.own j; have hdi := fun q b (hq : q ≠ j) (hb : b ∈ vE j) (jD : b ∈ vE q) => hq (hs1.dis q j b jD hb); have AB := hs1.out j; generalize hvy : a.tmps.getD j undef = vy at J6; generalize hFj : vE j = Fj at J6 hnd hfj how hdi
     cases J6 with | u J6 => cases J6 with | c J6 =>
     have hshow : ∃ G, mQ K.ET w K.R (fun _ => True) vy sz gV G ∧ G.Nodup ∧ ∀ b ∈ G, b ∈ Fj := by
      cases J6 with
      | nil => exact ⟨[], .inl ⟨rfl, rfl⟩, bu, by simp⟩
      | @sl b off len cap _ _ arr et _ G1 _ hb hlen hcap hsz hfit hrow hrep ho hz =>
       subst hlen; have := bg sz hcap; rcases ho with ⟨_, rfl⟩ | ⟨h, _⟩
       · exact ⟨G1, .inr ⟨b, off, cap, arr, et, rfl, hb, by omega, hfit, hcap, hrow, hrep, hsz, trivial⟩, (bh.mp hnd).2, fun x hx => aU _ hx⟩
       · cases h
     obtain ⟨G, hsh, hGn, hGs⟩ := hshow
     obtain ⟨v, w1, F1, hrun, hrep, BW, hsub, E1, hk, hE⟩ := Dm (P := P) (t := t) (ty := o.type) hz k2 sH.1 (fun b hb => (sH.2 b hb).2.1) (fun b hb => bp (hs1.ro b hb).1 hs1.keeps.size) hsh
       (ax.mpr ⟨sH.1, hGn, fun x hx y hy e => by subst e; exact hfj x (hGs x hy) hx⟩) (fun b hb => (how b (hGs b hb)).1) hlv hlen hby
     have hexec : (execOp a.eval o).run P w = .ok (.value v) w1 := by
      simp only [execOp, ho, resolve, Sem.run_bind, Sem.run_pure, Result.andThen_ok, invoke, builtin]; have hvy' : a.eval (.tmp j) = vy := by rw [kE]; exact hvy
      simp [Sem.run_bind, hvx, hvy', hrun, pure]
     simp only [Oper.wp, hexec, Oper.upon_value, hd]
     have h5 := AB.world hk (fun b hb => (sH.2 b (hE b hb)).2.2) (fun q b hb e => by
      unfold jZ at hb; split at hb
      · cases hb
      · exact (sH.2 b (hE b e)).1 q hb) (fun b hb => (sH.2 b (hE b hb)).2.1)
     have h6 := h5.o6 hn (iB.refl w1 _) (F := F1) (t := .u (.c (.sl true sz (rows ++ gV)))) (v := v) (fun b hb => by
      rcases hsub b hb with (h | h) | h
      · refine ⟨fun q hq => ?_, (sH.2 b h).2⟩; unfold jZ at hq; split at hq
        · cases hq
        · exact (sH.2 b h).1 q hq
      · refine ⟨fun q hq => ?_, how b (hGs b h)⟩; unfold jZ at hq; split at hq
        · cases hq
        · rename_i hne; exact hdi q b hne (hGs b h) hq
      · refine ⟨fun q hq => ?_, fun hR => ?_, .inr (bR hs1.keeps.size h)⟩
        · have := (AB.rep q).lt b hq; omega
        · have := bp (hs1.ro b hR).1 hs1.keeps.size; omega) BW (.u (.c hrep))
     have he : (fun q => jq (jN (jN σ r (.u (.c (setAt c pl .dead)))) j .junk q)) = jN (fun q => jq (jN (jN σ j .junk) r .junk q)) r (.u (.c (setAt c pl .dead))) := by
      funext q; by_cases h1 : q = r
      · subst h1; simp [jN, dz hjr, jq]
      · by_cases h2 : q = j
        · subst h2; simp [jN, h1]
        · simp [jN, h1, h2]
     rw [he] at h6; exact ⟨_, h6⟩
end
end Go.Proofs.Ytmjnenjeckeklaa.V
namespace Go.Proofs.Ytmjnenjeckeklaa.V
open Go Go.RowKit
section
variable {P : Program} {ET : TypeId} {w w' : World} {R : Nat → Prop} {K : Ctx} {σ : St} {a : Act} {Fs : Nat → List Nat} {o : Oper} {d : Nat}
theorem pW {D : List Nat} {r j d : Nat} {t t1 : T} {s : Spec} (hc : Clear s σ) (hf : s.fresh = some d) (hd : s.deep = true) (hr : refs t1 d = false) (hjr : (j == r) = false) (hD : D.all (fun j => Te (jq (σ j))) = true) (ha : s.asg = [(d, t), (r, t1)] ++ (j :: D).map fun j => (j, .junk)) : put (jN (fun q => jq (jN (jN σ j .junk) r .junk q)) r t1) d t = over σ s.asg := by
 have e : (fun q => jq (jN (jN σ j .junk) r .junk q)) = fun q => jq (jN (jb σ (j :: D)) r .junk q) := by
  funext q; by_cases h1 : q = r
  · subst h1; simp [jN]
  · by_cases h2 : q = j
    · subst h2; simp [jN, h1, jb]
    · simp only [jN, ag h1, ag h2]; rw [BZ hD q]; unfold jb; have : ((j :: D).contains q) = D.contains q := by simp [List.contains_cons, h2]
      rw [this]
 rw [e, qF (s := { s with asg := [(d, t), (r, t1)] }) (sN hc ha) hf hd hr rfl, uP, ha]
theorem nw {α : Type} {f : α → List C} {own : Bool} {sz k o2 : Nat} {s2 : kG} {p : List (Nat × kG)} {xs : List α} (dflt : α) {c2 : C} {cs : List C} (h : k < xs.length) (h2 : (f (xs.getD k dflt))[o2]? = some c2) (h3 : nx c2 s2 p = some cs) : nx (.sl own sz (xs.map f)) (.i k sz) ((o2, s2) :: p) = some cs := by
 have e : (xs.map f)[k]? = some (f (xs.getD k dflt)) := by
  rw [bD, aA h, aH, aA h]; rfl
 simp only [nx, qj, cB, e, aq, h2, h3]
theorem iY {ow : Bool} {cells cs : List C} {so : Nat} {c' : C} {sel : kG} {p : List (Nat × kG)} (h : cells[so]? = some c') (hg : nx c' sel p = some cs) : nx (.pt ow cells) .d ((so, sel) :: p) = some cs := by
 simp only [nx, qj, aq, h]; exact hg
theorem wO {α : Type} {f : α → List C} {sz k o2 : Nat} {s2 : kG} {p : List (Nat × kG)} {xs : List α} (dflt : α) {c2 : C} (h : k < xs.length) (h2 : (f (xs.getD k dflt))[o2]? = some c2) (h3 : uq c2 s2 p = true) : uq (.sl true sz (xs.map f)) (.i k sz) ((o2, s2) :: p) = true := by
 have e : (xs.map f)[k]? = some (f (xs.getD k dflt)) := by
  rw [bD, aA h, aH, aA h]; rfl
 simp only [uq, B0, qj, cB, e, h2, h3, Bool.and_true]
theorem vB {cells : List C} {so : Nat} {c' : C} {sel : kG} {p : List (Nat × kG)} (h : cells[so]? = some c') (hg : uq c' sel p = true) : uq (.pt true cells) .d ((so, sel) :: p) = true := by
 simp only [uq, B0, qj, h, hg, Bool.and_true]
theorem tM {α : Type} {f : α → List C} {own : Bool} {sz k : Nat} {xs : List α} {y : α} {new : List C} (h : f y = new) : oE (.sl own sz (xs.map f)) (.i k sz) [] new = .sl own sz ((xs.set k y).map f) := by
 subst h; simp only [oE, E6, fU]
theorem wQ {α : Type} {f : α → List C} {own : Bool} {sz k o2 : Nat} {s2 : kG} {p : List (Nat × kG)} {xs : List α} (dflt : α) {y : α} {c2 : C} {new : List C} (h : k < xs.length) (h2 : (f (xs.getD k dflt))[o2]? = some c2) (h3 : (f (xs.getD k dflt)).set o2 (oE c2 s2 p new) = f y) : oE (.sl own sz (xs.map f)) (.i k sz) ((o2, s2) :: p) new = .sl own sz ((xs.set k y).map f) := by
 have e : (xs.map f)[k]? = some (f (xs.getD k dflt)) := by
  rw [bD, aA h, aH, aA h]; rfl
 simp only [oE, qj, cB, e, h2, E6, h3, fU]
theorem vC {ow : Bool} {cells : List C} {so : Nat} {c' c2 : C} {sel : kG} {p : List (Nat × kG)} {new : List C} (h : cells[so]? = some c') (hs : oE c' sel p new = c2) : oE (.pt ow cells) .d ((so, sel) :: p) new = .pt ow (cells.set so c2) := by
 subst hs; simp only [oE, qj, h, E6]
theorem JX {t i r off n : Nat} {s : kG} {p : List (Nat × kG)} {c c' : C} {cs : List C} {x : Operand} {u : U} {l : List Nat} (ho : o.op = .store t (.tmp i) x) (ht : (P.info? t).map (·.size) = some n) (hi : jA i (σ i) = .addr r s p off) (hx : Src K σ x u l) (hr : jb σ l r = .u (.c c)) (hg : nx c s p = some cs)
    (hown : uq c s p = true) (hn : (lN u).length = n) (hle : off + n ≤ cs.length) (hlv : vD (lN u) = true) (hd : o.dst = none) (e : oE c s p (cs.take off ++ (lN u ++ cs.drop (off + n))) = c') : Step P K σ o (jN (fun j => jq (jb σ l j)) r (.u (.c c'))) := by
 subst e; exact jt ho ht hi hx hr hg hown hn hle hlv hd
theorem rC.JY {ι : Type} {x : C} {x' : ι → C} {good : ι → Prop} {i : Nat} {c : C} {pl : Pl} (h : rC K σ a w) (hr : σ i = .u (.c c)) (hx : cellAt c pl = some x) (ho : ko c pl = true) (hq : ∀ v F, iz K.ET w K.R v x F → ∃ z, good z ∧ iz K.ET w K.R v (x' z) F) : ∃ z, good z ∧ rC K (jN σ i (.u (.c (setAt c pl (x' z))))) a w := by
 obtain ⟨Fs, hs⟩ := h; have h1 := hs.rep i; rw [hr] at h1; have hnd := hs.nd i; have hdi := fun j b (hj : j ≠ i) (hb : b ∈ Fs i) (jD : b ∈ Fs j) => hj (hs.dis j i b jD hb); have how := hs.own i; have hout := hs.out i; generalize AA : a.tmps.getD i undef = v0 at h1; generalize hFi : Fs i = F at h1 hnd hdi how
 cases h1 with
 | u h1 => cases h1 with
   | c h1 =>
     obtain ⟨y, Fo, Fx, e1, e2, h2, h3⟩ := iz.cell (tmps := a.tmps) (r := i) AA h1 hnd hx ho
     obtain ⟨z, hg, h4⟩ := hq _ _ h2
     obtain ⟨F2, h7, h8⟩ := h3 w (x' z) Fx (fun b hb => rfl) h4
     have hp : F2.Perm F := h8.trans e2.symm
     have h9 := hout.MG (i := i) (t := .u (.c (setAt c pl (x' z)))) (F := F2) (by rw [AA]; exact .u (.c h7)) (hp.nodup_iff.mpr hnd) (fun j hj b hb jD => by
       unfold jZ at jD
       rw [ag hj] at jD
       exact hdi j b hj (hp.mem_iff.mp hb) jD) (fun b hb => how b (hp.mem_iff.mp hb))
     rw [rE] at h9
     exact ⟨z, hg, _, h9⟩
theorem Dk {ι : Type} {x : C} {x' : ι → C} {good : ι → Prop} {i : Nat} {c : C} {pl : Pl} {cd : Code} {Q : Exit → St → Prop} (hr : σ i = .u (.c c)) (hx : cellAt c pl = some x) (ho : ko c pl = true) (hq : ∀ w v F, iz K.ET w K.R v x F → ∃ z, good z ∧ iz K.ET w K.R v (x' z) F)
    (h : ∀ z, good z → lC P K cd (jN σ i (.u (.c (setAt c pl (x' z))))) Q) : lC P K cd σ Q := fun a w hs => by
  obtain ⟨z, h1, h2⟩ := hs.JY hr hx ho (fun v F => hq w v F)
  exact h z h1 a w h2
theorem AT {t i r off n : Nat} {s : kG} {p : List (Nat × kG)} {c : C} {cs xs ys : List C} (ho : o.op = .load t (.tmp i)) (ht : B1 P t n) (hi : jA i (σ i) = .addr r s p off) (hr : σ r = .u (.c c)) (hg : nx c s p = some cs)
    (hx : (cs.drop off).take n = xs) (hl : xs.length = n) (hc : ∀ w zs F, ig K.ET w K.R zs xs F → ig K.ET w K.R zs ys []) (hd : o.dst = some d) (hn : mX K d = true) : Step P K σ o (put σ d (.u (.agg ys))) :=
  iH hd hn rfl (fun a w Fs hs => by
    obtain ⟨b, o', arr, et, Fi, h1, h2, h3, h4, _⟩ := hs.place hi hr hg
    have hle : off + n ≤ cs.length := by
     have := ht.2.2; rw [← hx, az, aQ] at hl; omega
    obtain ⟨ya, yz, F1, F2, e1, e2, Qj, hz⟩ := ig.split (cs := cs.take off) (ds := cs.drop off) (by rw [bl]; exact h4)
    obtain ⟨yx, yb, F3, F4, e3, e4, hxx, _⟩ := ig.split (cs := (cs.drop off).take n) (ds := (cs.drop off).drop n) (by rw [bl]; exact hz)
    rw [hx] at hxx
    have hya : ya.length = off := by rw [Qj.length, az]; omega
    have hyx : yx.length = n := by rw [hxx.length, hl]
    have hw : (arr.toList.drop (o' + off)).take n = yx := by
     have e5 : ((arr.toList.drop o').take cs.length).drop off = yx ++ yb := by rw [e1, e3, ← hya, cR]
     have e6 : (((arr.toList.drop o').take cs.length).drop off).take n = yx := by rw [e5, ← hyx, cr]
     rw [← e6, dG, cG, dW, cj (by omega)]
    refine ⟨.agg yx.toArray, ?_, .u (.agg (by simpa using hc _ _ _ hxx))⟩
    have := qU (P := P) ht h2 (show o' + off + n ≤ arr.size by omega)
    rw [hw] at this
    simp only [execOp, ho, h1, Sem.run_bind, this, Result.andThen_ok, Sem.run_pure])
theorem rC.JZ {i r : Nat} {pl : Pl} {c x : C} {u u' : U} (h : rC K σ a w) (hir : i ≠ r) (hi : σ i = .u u) (hr : σ r = .u (.c c)) (hx : cellAt c pl = some x) (ho : ko c pl = true) (hq : ∀ v y F G, kY K.ET w K.R v u F → iz K.ET w K.R y x G → (F ++ G).Nodup → ∃ F', kY K.ET w K.R v u' F' ∧ F'.Nodup ∧ ∀ b ∈ F', b ∈ F ∨ b ∈ G) : rC K (jN (jN σ r (.u (.c (setAt c pl .dead)))) i (.u u')) a w := by
 obtain ⟨Fs, hs⟩ := h; obtain ⟨y, Fx, vE, k1, k2, hs1, sH, _⟩ := hs.J0 hr hx ho; have h1 := hs1.rep i; rw [show jN σ r (.u (.c (setAt c pl .dead))) i = .u u by unfold jN; rw [ag hir]; exact hi] at h1; have hnd := hs1.nd i; have how := hs1.own i; have hdi := fun q b (hq : q ≠ i) (hb : b ∈ vE i) (jD : b ∈ vE q) => hq (hs1.dis q i b jD hb); have AB := hs1.out i; have hfx : ∀ b ∈ Fx, b ∉ vE i := fun b hb jD => (sH.2 b hb).1 i jD; generalize hv : a.tmps.getD i undef = v at h1; generalize hFi : vE i = F at h1 hnd how hdi hfx
 cases h1 with
 | u h1 =>
  obtain ⟨F', g1, g2, g3⟩ := hq _ _ _ _ h1 k2 (ax.mpr ⟨hnd, sH.1, fun x hx y hy e => by subst e; exact hfx x hy hx⟩)
  have h9 := AB.MG (i := i) (t := .u u') (F := F') (by rw [hv]; exact .u g1) g2 (fun j hj b hb jD => by
   unfold jZ at jD; rw [ag hj] at jD; rcases g3 b hb with h | h
   · exact hdi j b hj h jD
   · exact (sH.2 b h).1 j jD) (fun b hb => (g3 b hb).elim (how b) (fun h => (sH.2 b h).2))
  rw [rE] at h9; exact ⟨_, h9⟩
end
end Go.Proofs.Ytmjnenjeckeklaa.V
namespace Go.Proofs.Ytmjnenjeckeklaa.V
open Go Go.RowKit
section
variable {α β : Type} {Z : Fl α β} {P : Program} {ET : TypeId} {w w' : World} {R : Nat → Prop} {K : Ctx} {σ : St} {a : Act} {Fs : Nat → List Nat} {o : Oper} {d : Nat} {L A B : List (Rec α β)} {r1 r2 : Rec α β} {F : List Nat} {ops : Array Oper}
theorem Ky {mt kt et : TypeId} {x : Operand} {m clk i : Nat} {c : C} {pl : Pl} (ho : o.op = .range mt x) (hm : P.underlying mt = some (.map kt et)) (hx : mV K.ET σ x = .u (.c (.v (.map (some m))))) (hr : σ i = .u (.c c)) (hc : cellAt c pl = some (.x (Z.gQ K.ET m clk L))) (hown : ko c pl = true)
    (hd : o.dst = some d) (hn : mX K d = true) : Step P K σ o (put σ d (.u (.c (.x (ov m clk [] clk))))) := by
 rintro a w ⟨Fs, hs⟩; have e1 := j9 hs hx; obtain ⟨y, Fx, hy, ⟨hy2, F', hb, hFx, hRs, hok⟩, hin⟩ := hs.qE hr hc hown
 have hrun : (execOp a.eval o).run P w = .ok (.value (.pointer (some ⟨w.heap.size, 0, none⟩))) (w.alloc (.mapIter (some m) clk #[] clk)) := by
  simp [execOp, ho, e1, Instr.range, run_underlying hm, MapKept.run_getObj_map hb, newObj, Sem.run, Sem.run_bind, Result.andThen, pure]
 simp only [Oper.wp, hrun, Oper.upon_value, hd]
 exact ⟨_, hs.o6 hn (iB.alloc w _) (F := [w.heap.size]) (fun b hb => by
  rw [aE] at hb; subst hb
  exact ⟨fun j hj => bX _ ((hs.rep j).lt _ hj), fun hR => bX _ (bp (hs.ro _ hR).1 hs.keeps.size), .inr hs.keeps.size⟩) (by simp) (.u (.c (.x ⟨w.heap.size, rfl, lV w _, rfl⟩)))⟩
theorem Kz {m clk i j : Nat} {last : Nat} {seen : List Nat} {c : C} {pl : Pl} (h0 : ops[0]? = some o) (hg : o.guard = none) (ho : o.op = .next (.tmp j) false) (hj : σ j = .u (.c (.x (ov m clk seen last)))) (hr : σ i = .u (.c c)) (hc : cellAt c pl = some (.x (Z.gQ K.ET m clk L))) (hown : ko c pl = true)
    (hlast : clk ≤ last) (hd : o.dst = some d) (hn : mX K d = true) :
    CG P K ops 0 σ (fun σ1 => (σ1 = put σ d (.tup [.c (.v (.bool false))]) ∧ ∀ p ∈ L, p.born ∈ seen) ∨ ∃ p ∈ L, p.born ∉ seen ∧ σ1 = put (jN σ j (.u (.c (.x (ov m clk (seen ++ [p.born]) clk))))) d (.tup [.c (.v (.bool true)), .c .dead, .c .dead])) := by
     rintro a w ⟨Fs, hs⟩; obtain ⟨y, Fx, hy, ⟨hy2, F', vw, hFx, hRs, AE⟩, hin⟩ := hs.qE hr hc hown; obtain ⟨v, Fi, hv, ⟨b, wR, jD, _⟩, _⟩ := hs.qE (pl := none) hj rfl rfl; simp only [nI, aC] at hv; unfold wpOp; rw [h0]; simp only; rw [aj (by simp [Region.wanted, hg])]; refine .inl ?_
     have hold : ∀ x ∈ (rk.es L).toList, x.born < clk := by
      intro x hx; obtain ⟨p, hp, rfl⟩ := aX.mp (show x ∈ L.map rk.pS from hx); exact AE.lt p hp
     have he : (execOp a.eval o).run P w = ((Instr.next (.pointer (some ⟨b, 0, none⟩)) false o.type).run P w).andThen fun v w' => .ok (.value v) w' := by
      simp only [execOp, ho, kE, hv, wR, Sem.run_bind, Sem.run_pure]
     rcases run_next_at (P := P) w o.type b m clk last seen.toArray (rk.es L) clk jD vw hold hlast with ⟨h1, h2⟩ | ⟨e, YM, w1, hw1, h2⟩
     · rw [h2] at he; simp only [Oper.wp, he, Result.andThen, Oper.upon_value, hd]; exact ⟨_, .inl ⟨rfl, Bp h1⟩, _, hs.o6 hn (iB.refl _ _) (F := []) (by simp) bu (.tup (.cons (F := []) (.c (.v rfl)) .nil))⟩
     · obtain ⟨p, hp, rfl, hps⟩ := DX YM; rw [h2] at he; simp only [Oper.wp, he, Result.andThen, Oper.upon_value, hd]; have hw1h : w1.heap = w.heap := by rcases hw1 with rfl | rfl <;> rfl
       have KY : w1.heap[b]? = some (.mapIter (some m) clk seen.toArray last) := by rw [hw1h]; exact jD
       have hk : iB w [b] (ChangeMaps.setBlock w1 b (.mapIter (some m) clk (seen.toArray.push (rk.pS p).born) clk)) := by
        rcases hw1 with rfl | rfl
        · exact lf
        · exact ⟨rfl, rfl, rfl, by
           show w.heap.size ≤ (w.heap.setIfInBounds b _).size
           rw [er]; exact aM _, fun x _ hx => by
           have : x ≠ b := fun e => hx (by simp [e]); show (w.heap.setIfInBounds b _)[x]? = _
           exact cE (dz this)⟩
       obtain ⟨xV, h3⟩ := hs.yW (G := []) (q' := ov m clk (seen ++ [p.born]) clk) ⟨bu, by simp⟩ hj (pl := none) rfl rfl (w' := ChangeMaps.setBlock w1 b (.mapIter (some m) clk (seen.toArray.push (rk.pS p).born) clk)) (m := b) hk (fun ad v hc => by
           refine zo KY ad v ?_
           unfold World.cell? at hc ⊢
           rw [hw1h]; exact hc) (fun y' Fx' hy' ⟨b', KZ, hb2'', hFx'⟩ hnd hno => by
         simp only [nI, aC] at hy'
         have hbb : b' = b := by
           have e := hy'.symm.trans hv
           rw [KZ, wR] at e
           injection e with e; injection e with e; injection e
         subst hbb
         subst hFx'
         exact ⟨aE.mpr rfl, [b'], ⟨b', KZ, by rw [nW KY]; simp [rk, Ko.pS], rfl⟩, by simp, fun b hb => .inl hb⟩)
       exact ⟨_, .inr ⟨p, hp, hps, rfl⟩, _, h3.o6 hn (iB.refl _ _) (F := []) (by simp) bu (.tup (.cons (F := []) (.c (.v rfl)) (.cons (F := []) (.c (.dead _)) (.cons (F := []) (.c (.dead _)) .nil))))⟩
theorem KA {m clk i j : Nat} {seen : List Nat} {c : C} {pl : Pl} (ho : o.op = .entry (.tmp j)) (hj : σ j = .u (.c (.x (ov m clk (seen ++ [r1.born]) clk)))) (hr : σ i = .u (.c c)) (hc : cellAt c pl = some (.x (Z.gQ K.ET m clk L))) (hown : ko c pl = true) (hmem : r1 ∈ L)
    (hd : o.dst = some d) (hn : mX K d = true) : Step P K σ o (put σ d (.tup [.c (.v (.int .i64 r1.n)), .agg [.x (q7 r1.av), .v (.map (some r1.pm))]])) :=
  iH hd hn rfl (fun a w Fs hs => by
    obtain ⟨y, Fx, hy, ⟨hy2, F', hb, hFx, hRs, hok⟩, hin⟩ := hs.qE hr hc hown
    obtain ⟨F1, sH, Fa, rfl, E4, vw, AE⟩ := hRs.mem hmem
    obtain ⟨v, Fi, hv, ⟨b, wR, jD, _⟩, _⟩ := hs.qE (pl := none) hj rfl rfl
    simp only [nI, aC] at hv
    have hl := run_entry_at (P := P) w b m clk seen.toArray (rk.es L) clk (rk.pS r1) (by rw [jD]; simp [rk, Ko.pS]) hb (aX.mpr ⟨r1, hmem, rfl⟩) (by
      show ((L.map rk.pS).map MapEntry.born).Nodup
      rw [bW]; exact hok.born)
    refine ⟨_, ?_, .tup (.cons (F := []) (.c (.v rfl)) (.cons (F := []) (.agg (.cons (F := []) (G := []) (.x ⟨rfl, zU E4, rfl⟩) (.cons (F := []) (G := []) (.v rfl) .nil))) .nil))⟩
    simp only [execOp, ho, kE, hv, wR, Sem.run_bind, hl, Result.andThen_ok, Sem.run_pure]
    rfl)
def Fl.gP {α β : Type} (Z : Fl α β) (ET : TypeId) (W : List (nj α β)) : Az where
  rep := fun w v F => ∃ W', W'.Perm W ∧ (Z.gE ET W').rep w v F
  frame := by rintro w w' v F ⟨W', e, h⟩ hw; exact ⟨W', e, (Z.gE ET W').frame h hw⟩
  lt := by rintro w v F ⟨W', e, h⟩; exact (Z.gE ET W').lt h
  one := by rintro w v F ⟨W', e, h⟩; exact (Z.gE ET W').one h
  isp := false
  ptr := by intro h; cases h
theorem TC {i : Nat} {c : C} {pl : Pl} {W W' : List (nj α β)} {x : Code} {Q : Exit → St → Prop} (hp : W'.Perm W) (hr : σ i = .u (.c c)) (hx : cellAt c pl = some (.x (Z.gE K.ET W'))) (ho : ko c pl = true) (h : lC P K x (jN σ i (.u (.c (setAt c pl (.x (Z.gP K.ET W)))))) Q) : lC P K x σ Q := fun a w hs => by
  obtain ⟨_, _, h3⟩ := hs.EZ (ι := Unit) (q' := fun _ => Z.gP K.ET W) (good := fun _ => True) hr hx ho (fun v F hv => ⟨(), trivial, W', hp, hv⟩)
  exact h a w h3
theorem Lf {W : List (nj α β)} {v : Value} (h : (Z.gE ET W).rep w v F) : (W.map nj.n).Nodup := by
 obtain ⟨m, clk, L, rfl, _, F', _, _, _, hk⟩ := h; rw [bW]; exact hk.key
theorem AC.TA {f : FuncId} {W : List (nj α β)} {ins : List U} {outs : List (Option U)} {res : List U} (h : ∀ W', W'.Perm W → (W'.map nj.n).Nodup → AC P ET f (.c (.pt true [.x (Z.gE ET W')]) :: ins) outs res) : AC P ET f (.c (.pt true [.x (Z.gP ET W)]) :: ins) outs res := by
 intro R w vs F hin hnd hR hlt
 cases hin with
 | cons hu ht =>
  cases hu with
  | c hp =>
   cases hp with
   | pt hb hrep hwh =>
    generalize hL : Array.toList _ = xs at hrep
    cases hrep with
    | cons hx hn =>
     cases hx with
     | x hq =>
      obtain ⟨W', hp, hq⟩ := hq; exact h W' hp (Lf hq) R w _ _ (.cons (.c (.pt hb (by rw [hL]; exact .cons (.x hq) hn) hwh)) ht) hnd hR hlt
theorem kY.Pr {v : Value} {W W' : List (nj α β)} (hp : W'.Perm W) (h : kY ET w R v (.c (.pt true [.x (Z.gE ET W')])) F) : kY ET w R v (.c (.pt true [.x (Z.gP ET W)])) F := by
 cases h with
 | c h =>
  cases h with
  | pt hb hrep hwh =>
   generalize hL : Array.toList _ = xs at hrep
   cases hrep with
   | cons hx hn =>
    cases hx with
    | x hq => exact .c (.pt hb (by rw [hL]; exact .cons (.x ⟨W', hp, hq⟩) hn) hwh)
theorem AC.Pr {f : FuncId} {W W' : List (nj α β)} {ins : List U} {outs : List (Option U)} {res : List U} (hp : W'.Perm W) (h : AC P ET f ins (some (.c (.pt true [.x (Z.gE ET W')])) :: outs) res) : AC P ET f ins (some (.c (.pt true [.x (Z.gP ET W)])) :: outs) res := by
 intro R w vs F hin hnd hR hlt; refine (h R w vs F hin hnd hR hlt).mono ?_; rintro e w' ⟨rv, H1, H2, e1, hO, hrest⟩
 cases hO with
 | cons hu ht => exact ⟨rv, _, H2, e1, .cons (hu.Pr hp) ht, hrest⟩
theorem AC.Yq {f : FuncId} {W W' : List (nj α β)} {ins : List U} {outs : List (Option U)} (hp : W'.Perm W) (h : AC P ET f ins outs [.c (.pt true [.x (Z.gE ET W')])]) : AC P ET f ins outs [.c (.pt true [.x (Z.gP ET W)])] := by
 intro R w vs F hin hnd hR hlt; refine (h R w vs F hin hnd hR hlt).mono ?_; rintro e w' ⟨rv, H1, H2, e1, hO, hr, hrest⟩
 cases hr with
 | one hu => exact ⟨rv, H1, _, e1, hO, .one (hu.Pr hp), hrest⟩
 | many hl _ => exact absurd rfl hl
theorem AC.T0 {f : FuncId} {W W' : List (nj α β)} {ins : List U} {outs : List (Option U)} (hp : W'.Perm W) (h : AC P ET f ins outs [.c (.pt true [.x (Z.gP ET W')])]) : AC P ET f ins outs [.c (.pt true [.x (Z.gP ET W)])] := by
 have e : Z.gP ET W' = Z.gP ET W := by
  have : (fun (w : World) (v : Value) F => ∃ W1, W1.Perm W' ∧ (Z.gE ET W1).rep w v F) = fun w v F => ∃ W1, W1.Perm W ∧ (Z.gE ET W1).rep w v F := by
   funext w v F; exact propext ⟨fun ⟨W1, h1, h2⟩ => ⟨W1, h1.trans hp, h2⟩, fun ⟨W1, h1, h2⟩ => ⟨W1, h1.trans hp.symm, h2⟩⟩
  unfold Fl.gP; congr
 rw [← e]; exact h
theorem kJ {W W' : List (nj α β)} (hp : W'.Perm W) (hn : (W'.map nj.n).Nodup) (n : Int) : jQ W' n = jQ W n := by
 unfold jQ
 cases h : List.find? (fun s => s.n == n) W with
 | none =>
  rw [dy] at h ⊢; exact fun x hx => h x (hp.mem_iff.mp hx)
 | some s =>
  have h1 := hp.mem_iff.mpr (cU h); have h2 := eY h
  cases h' : List.find? (fun s => s.n == n) W' with
  | none => exact absurd h2 (dy.mp h' s h1)
  | some t =>
   have h3 := cU h'; have h4 := eY h'; rw [nk hn h3 h1 (by rw [bG] at h2 h4; rw [h2, h4])]
end
end Go.Proofs.Ytmjnenjeckeklaa.V
