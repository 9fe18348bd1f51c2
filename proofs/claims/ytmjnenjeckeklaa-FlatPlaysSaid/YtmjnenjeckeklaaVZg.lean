import Derived.Test.YtmjnenjeckeklaaVI
import Derived.NoCompiler
import Derived.Maps.RangeRun
import Derived.WideShapes
import Derived.ChangeShapes
import Derived.Deep.Slices
import Derived.Lib.AppendZerosOnto
import Derived.Lib.Overlaps
import Derived.KernelRfl
import Derived.MapKept
set_option linter.unusedVariables false
set_option linter.unusedSimpArgs false
namespace Go.Proofs.Ytmjnenjeckeklaa.V
open Go Go.RowKit
structure Spec where
  anc : List Nat
  need : List Nat
  asg : List (Nat × T)
  fresh : Option Nat
  deep : Bool
def has (A : List (Nat × T)) (t : Nat) : Bool := (A.lookup t).isSome
def lJ : T → Bool
  | .addr _ _ (_ :: _) _ => true
  | .view _ (some _) _ _ _ => true
  | .whole _ (some _) _ _ => true
  | _ => false
def nP (D : Nat → Bool) (t : Nat) : Nat → T → List Spec → T
  | _, x, [] => x
  | k, x, s :: S => nP D t (k + 1) (bif D k then (s.asg.lookup t).getD x else x) S
def gW (S : List Spec) (j : Nat) : List Nat := match S[j]? with
  | some s => s.anc
  | none => []
def xG (S : List Spec) (σ0 : St) (D : Nat → Bool) : St := fun t => nP D t 0 (σ0 t) S
def gS (S : List Spec) (σ0 : St) (s : Spec) : List (Nat × T) := s.need.map fun t => (t, nP (fun i => s.anc.contains i) t 0 (σ0 t) S)
def ue (tab : List (List Nat)) (S : List Spec) (j : Nat) (s : Spec) : Bool :=
  ((tab.getD j []).all fun i => Nat.blt i j) && s.anc.all fun i => Nat.blt i j && ((tab.getD j []).contains i || (tab.getD j []).any fun k => (gW S k).contains i)
def jk (A : List (Nat × T)) (t : Nat) : Bool := match A.lookup t with
  | some .junk => true
  | _ => false
theorem KP {A : List (Nat × T)} {t : Nat} (h : jk A t = true) : A.lookup t = some .junk := by
 unfold jk at h; split at h
 · rename_i e; exact e
 · cases h
def l5 (i : Nat) (si : Spec) (j : Nat) (sj : Spec) : Bool :=
  (si.asg.all fun p => (!(sj.need.contains p.1) && !has sj.asg p.1) || sj.anc.contains i || si.anc.contains j) &&
  (match sj.fresh with
   | none => true
   | some d => si.asg.all fun p => p.1 == d || !refs p.2 d || si.anc.contains j || jk sj.asg p.1) &&
  (!sj.deep || si.asg.all fun p => !lJ p.2 || has sj.asg p.1 || si.anc.contains j)
def Gd (tab : List (List Nat)) (S : List Spec) : Bool :=
  S.length == tab.length && (List.range S.length).all fun j => match S[j]? with
    | none => true
    | some sj => ue tab S j sj && (List.range S.length).all fun i => i == j || match S[i]? with
      | none => true
      | some si => l5 i si j sj
def UJ (l : List (Nat × T)) (S : List Spec) : Bool := S.all fun s =>
  (match s.fresh with
   | none => true
   | some d => l.all fun p => p.1 == d || !refs p.2 d || jk s.asg p.1) &&
  (!s.deep || l.all fun p => !lJ p.2 || has s.asg p.1)
def Clear (s : Spec) (σ : St) : Prop := (∀ d, s.fresh = some d → ∀ t, t ≠ d → refs (σ t) d = true → s.asg.lookup t = some .junk) ∧ (s.deep = true → ∀ t, lJ (σ t) = true → has s.asg t = true)
theorem Clear.ref {s : Spec} {σ : St} {d t : Nat} (hc : Clear s σ) (hf : s.fresh = some d) (ht : t ≠ d) (hn : s.asg.lookup t ≠ some .junk) : refs (σ t) d = false := by
 cases h : refs (σ t) d with
 | false => rfl
 | true => exact absurd (hc.1 d hf t ht h) hn
inductive wz (Q : Nat → Spec → Prop) : Nat → List Spec → Prop
  | nil {k : Nat} : wz Q k []
  | cons {k : Nat} {s : Spec} {S : List Spec} (h : Q k s) (t : wz Q (k + 1) S) : wz Q k (s :: S)
theorem wz.get {Q : Nat → Spec → Prop} {k : Nat} {S : List Spec} (h : wz Q k S) : ∀ j s, S[j]? = some s → Q (k + j) s := by
 induction h with
 | nil => intro j s hs; simp at hs
 | @cons k s' S h t ih =>
  intro j s hs
  cases j with
  | zero => simp only [List.getElem?_cons_zero, Option.some.injEq] at hs; subst hs; exact h
  | succ j => have := ih j s (by simpa using hs); rw [show k + (j + 1) = k + 1 + j by omega]; exact this
theorem oM {D D' : Nat → Bool} {t : Nat} {S : List Spec} : ∀ {k : Nat} {x : T}, (∀ i s, S[i]? = some s → has s.asg t = true → D (k + i) = D' (k + i)) → nP D t k x S = nP D' t k x S := by
 induction S with
 | nil => intros; rfl
 | cons s S ih =>
  intro k x h; simp only [nP]
  have h0 : (bif D k then (s.asg.lookup t).getD x else x) = (bif D' k then (s.asg.lookup t).getD x else x) := by
   cases hl : s.asg.lookup t with
   | none => cases D k <;> cases D' k <;> rfl
   | some y => rw [show D k = D' k from h 0 s rfl (by simp [has, hl])]
  rw [h0]; exact ih (fun i s' hi ha => by have := h (i + 1) s' (by simpa using hi) ha; rw [show k + (i + 1) = k + 1 + i by omega] at this; exact this)
theorem vL {D : Nat → Bool} {t : Nat} {S : List Spec} : ∀ {k : Nat} {x : T}, (∀ i s, S[i]? = some s → has s.asg t = true → D (k + i) = false) → nP D t k x S = x := by
 induction S with
 | nil => intros; rfl
 | cons s S ih =>
  intro k x h; simp only [nP]
  have h0 : (bif D k then (s.asg.lookup t).getD x else x) = x := by
   cases hl : s.asg.lookup t with
   | none => cases D k <;> rfl
   | some y => rw [show D k = false from h 0 s rfl (by simp [has, hl])]; rfl
  rw [h0]; exact ih (fun i s' hi ha => by have := h (i + 1) s' (by simpa using hi) ha; rw [show k + (i + 1) = k + 1 + i by omega] at this; exact this)
theorem DK {D : Nat → Bool} {t : Nat} {s : Spec} {y : T} {S : List Spec} : ∀ {j k : Nat} {x : T}, S[j]? = some s → D (k + j) = true → s.asg.lookup t = some y → (∀ i s', j < i → S[i]? = some s' → has s'.asg t = true → D (k + i) = false) → nP D t k x S = y := by
 induction S with
 | nil => intro j k x h; simp at h
 | cons s' S ih =>
  intro j k x hj hD hy h
  cases j with
  | zero =>
   simp only [List.getElem?_cons_zero, Option.some.injEq] at hj; subst hj; simp only [nP]; rw [show D k = true from hD, hy]; exact vL (fun i s' hi ha => by have := h (i + 1) s' (by omega) (by simpa using hi) ha; rw [show k + (i + 1) = k + 1 + i by omega] at this; exact this)
  | succ j =>
   simp only [nP]; exact ih (j := j) (by simpa using hj) (by rw [show k + 1 + j = k + (j + 1) by omega]; exact hD) hy (fun i s' hi hs ha => by have := h (i + 1) s' (by omega) (by simpa using hs) ha; rw [show k + (i + 1) = k + 1 + i by omega] at this; exact this)
theorem hU {A : List (Nat × T)} {t : Nat} {y : T} (h : A.lookup t = some y) : (t, y) ∈ A := by
 induction A with
 | nil => simp at h
 | cons p A ih =>
  obtain ⟨k, x⟩ := p; simp only [List.lookup] at h; split at h
  · rename_i hb; simp only [beq_iff_eq] at hb; cases h; rw [hb]; exact List.mem_cons_self
  · exact List.mem_cons_of_mem _ (ih h)
theorem uf {D : Nat → Bool} {t : Nat} {S : List Spec} : ∀ {k : Nat} {x : T}, nP D t k x S = x ∨ ∃ j s, S[j]? = some s ∧ D (k + j) = true ∧ (t, nP D t k x S) ∈ s.asg := by
 induction S with
 | nil => intros; exact .inl rfl
 | cons s S ih =>
  intro k x; simp only [nP]; rcases ih (k := k + 1) (x := bif D k then (s.asg.lookup t).getD x else x) with h | ⟨j, s', h1, h2, h3⟩
  · rw [h]
    cases hD : D k with
    | false => exact .inl rfl
    | true =>
     cases hl : s.asg.lookup t with
     | none => exact .inl rfl
     | some y =>
      refine .inr ⟨0, s, rfl, hD, ?_⟩; simp only [cond_true, Option.getD_some]; exact hU hl
  · exact .inr ⟨j + 1, s', by simpa using h1, by rw [show k + (j + 1) = k + 1 + j by omega]; exact h2, h3⟩
section
variable {P : Program} {K : Ctx} {ops : Array Oper} {S : List Spec} {tab : List (List Nat)} {σ0 : St}
theorem lz.drew {σ : St} {a : Act} {w : World} (h : lz K σ a w) : lz K σ a w.drew := by
 obtain ⟨Fs, h⟩ := h; exact ⟨Fs, fun i => (h.rep i).turn (w' := w.drew) (fun _ _ => rfl) (fun _ _ _ _ hq => nq (w := w) (w' := w.drew) (fun _ _ => rfl) hq) (fun _ _ _ _ _ _ hc _ => hc) (fun _ _ => rfl), h.nd, h.dis, h.own, ⟨h.keeps.os, h.keeps.tape, h.keeps.output, h.keeps.size, h.keeps.block⟩, h.ro, h.size, h.pin, h.defers⟩
def Down (tab : List (List Nat)) (D : Nat → Bool) : Prop := ∀ j, D j = true → ∀ i ∈ tab.getD j [], D i = true
theorem xH (hc : Gd tab S = true) {j : Nat} {s : Spec} (hj : S[j]? = some s) : ue tab S j s = true := by
 simp only [Gd, Bool.and_eq_true, List.all_eq_true, List.mem_range] at hc; have hlt : j < S.length := (List.getElem?_eq_some_iff.mp hj).1; have := hc.2 j hlt; rw [hj] at this; simp only [Bool.and_eq_true] at this; exact this.1
theorem mX (hc : Gd tab S = true) {i j : Nat} {si sj : Spec} (hi : S[i]? = some si) (hj : S[j]? = some sj) (hne : i ≠ j) : l5 i si j sj = true := by
 simp only [Gd, Bool.and_eq_true, List.all_eq_true, List.mem_range] at hc; have hlt : j < S.length := (List.getElem?_eq_some_iff.mp hj).1; have hlt' : i < S.length := (List.getElem?_eq_some_iff.mp hi).1; have := hc.2 j hlt; rw [hj] at this; simp only [Bool.and_eq_true, List.all_eq_true, List.mem_range, Bool.or_eq_true, beq_iff_eq] at this; have := this.2 i hlt'; rw [hi] at this; exact this.resolve_left hne
theorem ug (hc : Gd tab S = true) {j i : Nat} (h : i ∈ gW S j) : i < j := by
 unfold gW at h
 cases hj : S[j]? with
 | none => rw [hj] at h; cases h
 | some s =>
  rw [hj] at h; have := xH hc hj; simp only [ue, Bool.and_eq_true, List.all_eq_true] at this; have := (this.2 i h).1; simpa using this
theorem zF (hc : Gd tab S = true) {D : Nat → Bool} (hD : Down tab D) : ∀ (n j : Nat), j < n → (∀ i ∈ tab.getD j [], D i = true) → ∀ i ∈ gW S j, D i = true := by
 intro n
 induction n with
 | zero => intro j h; omega
 | succ n ih =>
  intro j hjn hdir i hi; unfold gW at hi
  cases hj : S[j]? with
  | none => rw [hj] at hi; cases hi
  | some s =>
   rw [hj] at hi; have := xH hc hj; simp only [ue, Bool.and_eq_true, List.all_eq_true] at this; have h2 := (this.2 i hi).2; simp only [Bool.or_eq_true] at h2; rcases h2 with h2 | h2
   · exact hdir i (by simpa using h2)
   · obtain ⟨k, hk, h3⟩ := List.any_eq_true.mp h2; have hkj : k < j := by simpa using this.1 k hk
     exact ih k (by omega) (hD k (hdir k hk)) i (by simpa using h3)
theorem BB (hc : Gd tab S = true) {D : Nat → Bool} (hD : Down tab D) {j : Nat} {s : Spec} (hj : S[j]? = some s) (hnot : D j = false) (hdir : ∀ i ∈ tab.getD j [], D i = true)
    (h0 : ∀ s ∈ S, Clear s σ0) (hst : Clear s (over (xG S σ0 D) (gS S σ0 s)) → fH P K ops j (over (xG S σ0 D) (gS S σ0 s)) (over (over (xG S σ0 D) (gS S σ0 s)) s.asg)) :
    fH P K ops j (xG S σ0 D) (xG S σ0 (fun i => D i || i == j)) := by
     have hanc : ∀ i ∈ s.anc, D i = true := by
      have := zF hc hD (j + 1) j (by omega) hdir; unfold gW at this; rw [hj] at this; exact this
     have hdn : ∀ i, j ∈ gW S i → D i = false := by
      intro i hi
      cases hDi : D i with
      | false => rfl
      | true =>
       have := zF hc hD (i + 1) i (by omega) (hD i hDi) j hi; rw [hnot] at this; cases this
     have hneed : over (xG S σ0 D) (gS S σ0 s) = xG S σ0 D := by
      funext t; unfold over
      cases hl : (gS S σ0 s).lookup t with
      | none => rfl
      | some y =>
       have hm := hU hl; unfold gS at hm; obtain ⟨t', ht', e⟩ := List.mem_map.mp hm; injection e with e1 e2; subst e1; rw [Option.getD_some, ← e2]; refine oM (fun i si hi ha => ?_); rw [Nat.zero_add]; rcases Nat.lt_trichotomy i j with hij | hij | hij
       · have hp := mX hc hi hj (by omega); simp only [l5, Bool.and_eq_true, List.all_eq_true] at hp; obtain ⟨y', hy'⟩ : ∃ y', si.asg.lookup t' = some y' := Option.isSome_iff_exists.mp ha; have h1 := hp.1.1 _ (hU hy'); simp only [Bool.or_eq_true, Bool.and_eq_true, Bool.not_eq_true'] at h1; rcases h1 with (h1 | h1) | h1
         · have := List.contains_iff_mem.mpr ht'; rw [h1.1] at this; cases this
         · rw [h1, hanc i (by simpa using h1)]
         · exact absurd (ug hc (show j ∈ gW S i by unfold gW; rw [hi]; simpa using h1)) (by omega)
       · subst hij; rw [hnot]
         cases hcn : s.anc.contains i with
         | false => rfl
         | true => exact absurd (ug hc (show i ∈ gW S i by unfold gW; rw [hj]; simpa using hcn)) (by omega)
       · have hp := mX hc hi hj (by omega); simp only [l5, Bool.and_eq_true, List.all_eq_true] at hp; obtain ⟨y', hy'⟩ : ∃ y', si.asg.lookup t' = some y' := Option.isSome_iff_exists.mp ha; have h1 := hp.1.1 _ (hU hy'); simp only [Bool.or_eq_true, Bool.and_eq_true, Bool.not_eq_true'] at h1; rcases h1 with (h1 | h1) | h1
         · have := List.contains_iff_mem.mpr ht'; rw [h1.1] at this; cases this
         · exact absurd (ug hc (show i ∈ gW S j by unfold gW; rw [hj]; simpa using h1)) (by omega)
         · rw [hdn i (by unfold gW; rw [hi]; simpa using h1)]
           cases hcn : s.anc.contains i with
           | false => rfl
           | true => exact absurd (ug hc (show i ∈ gW S j by unfold gW; rw [hj]; simpa using hcn)) (by omega)
     have hclear : Clear s (xG S σ0 D) := by
      have hs0 := h0 s (List.mem_of_getElem? hj); refine ⟨fun d hd t ht hrf => ?_, fun hdp t ht => ?_⟩
      · unfold xG at hrf; rcases uf (D := D) (t := t) (S := S) (k := 0) (x := σ0 t) with h | ⟨i, si, h1, h2, h3⟩
        · rw [h] at hrf; exact hs0.1 d hd t ht hrf
        · rw [Nat.zero_add] at h2; have hij : i ≠ j := by rintro rfl; rw [hnot] at h2; cases h2
          have hp := mX hc h1 hj hij; simp only [l5, Bool.and_eq_true, hd, List.all_eq_true] at hp; have h4 := hp.1.2 _ h3; simp only [Bool.or_eq_true, Bool.not_eq_true', beq_iff_eq] at h4; rcases h4 with ((h4 | h4) | h4) | h4
          · exact absurd h4 ht
          · rw [hrf] at h4; cases h4
          · have := hdn i (by unfold gW; rw [h1]; simpa using h4); rw [h2] at this; cases this
          · exact KP h4
      · unfold xG at ht; rcases uf (D := D) (t := t) (S := S) (k := 0) (x := σ0 t) with h | ⟨i, si, h1, h2, h3⟩
        · rw [h] at ht; exact hs0.2 hdp t ht
        · rw [Nat.zero_add] at h2; have hij : i ≠ j := by rintro rfl; rw [hnot] at h2; cases h2
          have hp := mX hc h1 hj hij; simp only [l5, Bool.and_eq_true, hdp, Bool.not_true, Bool.false_or, List.all_eq_true] at hp; have h4 := hp.2 _ h3; simp only [Bool.or_eq_true, Bool.not_eq_true'] at h4; rcases h4 with (h4 | h4) | h4
          · rw [ht] at h4; cases h4
          · exact h4
          · have := hdn i (by unfold gW; rw [h1]; simpa using h4); rw [h2] at this; cases this
     have h1 := hst (by rw [hneed]; exact hclear); rw [hneed] at h1
     have h2 : over (xG S σ0 D) s.asg = xG S σ0 (fun i => D i || i == j) := by
      funext t; unfold over
      cases hl : s.asg.lookup t with
      | none =>
       refine oM (fun i si hi ha => ?_); rw [Nat.zero_add]; by_cases hij : i = j
       · subst hij; rw [hj] at hi; cases hi; simp [has, hl] at ha
       · simp [hij]
      | some y =>
       refine (DK (j := j) hj (by simp) hl (fun i si hij hi ha => ?_)).symm; rw [Nat.zero_add]; have hp := mX hc hi hj (by omega); simp only [l5, Bool.and_eq_true, List.all_eq_true] at hp; obtain ⟨y', hy'⟩ : ∃ y', si.asg.lookup t = some y' := Option.isSome_iff_exists.mp ha; have h1 := hp.1.1 _ (hU hy'); simp only [Bool.or_eq_true, Bool.and_eq_true, Bool.not_eq_true'] at h1; rcases h1 with (h1 | h1) | h1
       · simp [has, hl] at h1
       · exact absurd (ug hc (show i ∈ gW S j by unfold gW; rw [hj]; simpa using h1)) (by omega)
       · rw [hdn i (by unfold gW; rw [hi]; simpa using h1)]; simp; omega
     rw [h2] at h1; exact h1
theorem CE (hT : Region.tabAfter .any ops = tab) {j : Nat} {o : Oper} (ho : ops[j]? = some o) {i : Nat} : i ∈ tab.getD j [] ↔ ∃ e ∈ o.after, Region.binds .any e = true ∧ e.on = i := by
 subst hT; unfold Region.tabAfter; rw [List.getD_eq_getElem?_getD, List.getElem?_map, Array.getElem?_toList, ho]; simp [List.mem_map, List.mem_filter]; constructor
 · rintro ⟨e, ⟨h1, h2⟩, h3⟩; exact ⟨e, h1, h2, h3⟩
 · rintro ⟨e, h1, h2, h3⟩; exact ⟨e, ⟨h1, h2⟩, h3⟩
theorem MC (hT : Region.tabAfter .any ops = tab) (hc : Gd tab S = true) (h0 : ∀ s ∈ S, Clear s σ0) {Q : Exit → Act → World → Prop}
    (hst : ∀ j s, S[j]? = some s → ∀ σ, Clear s (over σ (gS S σ0 s)) → fH P K ops j (over σ (gS S σ0 s)) (over (over σ (gS S σ0 s)) s.asg))
    (hq : ∀ a w, lz K (xG S σ0 (fun _ => true)) a w → Q .normal a w) : ∀ (fuel : Nat) (listed : Array Bool) (a : Act) (w : World), listed.size = ops.size → Down tab (fun i => listed.getD i false) →
      (∃ l : List Nat, l.Nodup ∧ l.length + fuel = ops.size ∧ ∀ i ∈ l, listed.getD i false = true) → lz K (xG S σ0 (fun i => listed.getD i false)) a w → wpAny P .any ops Q fuel listed a w := by
 have hlen : S.length = ops.size := by
  have := hc; simp only [Gd, Bool.and_eq_true, beq_iff_eq] at this; rw [this.1, ← hT]; simp [Region.tabAfter]
 have hfin : ∀ (listed : Array Bool) (a : Act) (w : World), listed.size = ops.size → Down tab (fun i => listed.getD i false) → Region.ready .any ops listed = [] → lz K (xG S σ0 (fun i => listed.getD i false)) a w → Q .normal a w := by
  intro listed a w hsz hD hr hs
  have hall : ∀ n j, j < n → j < ops.size → listed.getD j false = true := by
   intro n
   induction n with
   | zero => intro j h; omega
   | succ n ih =>
    intro j hjn hj
    cases hl : listed.getD j false with
    | true => rfl
    | false =>
     exfalso; have hj' : ops[j]? = some ops[j] := Array.getElem?_eq_getElem hj
     have hmem : j ∈ Region.ready .any ops listed := by
      rw [mem_ready]; refine ⟨?_, _, hj', fun e he hb => ?_⟩
      · rw [Array.getD_eq_getD_getElem?] at hl ⊢; rw [Array.getElem?_eq_getElem (by omega)] at hl ⊢; exact hl
      · have h1 := (CE hT hj').mpr ⟨e, he, hb, rfl⟩; have h2 := xH hc (List.getElem?_eq_getElem (show j < S.length by omega)); simp only [ue, Bool.and_eq_true, List.all_eq_true] at h2; have h3 := h2.1 _ h1; have h3 : e.on < j := by simpa using h3
        exact ih e.on (by omega) (by omega)
     rw [hr] at hmem; cases hmem
  refine hq a w ?_
  have : xG S σ0 (fun i => listed.getD i false) = xG S σ0 (fun _ => true) := by
   funext t; refine oM (fun i s hi _ => ?_); rw [Nat.zero_add]; exact hall (i + 1) i (by omega) (by have := (List.getElem?_eq_some_iff.mp hi).1; omega)
  rw [← this]; exact hs
 intro fuel
 induction fuel with
 | zero =>
  intro listed a w hsz hD ⟨l, hnd, hl, hall⟩ hs
  have hr : Region.ready .any ops listed = [] := by
   apply List.eq_nil_iff_forall_not_mem.mpr; intro j hj; obtain ⟨h1, o, ho, _⟩ := mem_ready.mp hj; have hjs : j < ops.size := (Array.getElem?_eq_some_iff.mp ho).1
   have hjl : j ∉ l := by
    intro h; have h2 := hall j h; rw [Array.getD_eq_getD_getElem?, Array.getElem?_eq_getElem (by omega)] at h1 h2; simp at h1 h2; rw [h1] at h2; cases h2
   have h3 : (j :: l).length ≤ (List.range ops.size).length := by
    apply List.Nodup.length_le_of_subset (List.nodup_cons.mpr ⟨hjl, hnd⟩); intro x hx; rw [List.mem_range]; rcases List.mem_cons.mp hx with rfl | hx
    · exact hjs
    · have h2 := hall x hx; rcases Nat.lt_or_ge x ops.size with h | h
      · exact h
      · rw [Array.getD_eq_getD_getElem?, Array.getElem?_eq_none (by omega)] at h2; cases h2
   simp at h3; omega
  exact ⟨hr, hfin listed a w hsz hD hr hs⟩
 | succ fuel ih =>
  intro listed a w hsz hD ⟨l, hnd, hl, hall⟩ hs; refine ⟨fun hr => hfin listed a w hsz hD hr hs, fun j hj => ?_⟩; obtain ⟨h1, o, ho, hdep⟩ := mem_ready.mp hj; have hjs : j < ops.size := (Array.getElem?_eq_some_iff.mp ho).1; have hjS : S[j]? = some S[j] := List.getElem?_eq_getElem (by omega)
  have hjf : listed.getD j false = false := by
   rw [Array.getD_eq_getD_getElem?, Array.getElem?_eq_getElem (by omega)] at h1 ⊢; exact h1
  have hdir : ∀ i ∈ tab.getD j [], listed.getD i false = true := by
   intro i hi; obtain ⟨e, he, hb, rfl⟩ := (CE hT ho).mp hi; exact hdep e he hb
  have hstep := BB hc hD hjS hjf hdir h0 (hst j _ hjS _)
  have hset : ∀ i, (listed.setIfInBounds j true).getD i false = (listed.getD i false || i == j) := by
   intro i; by_cases hij : j = i
   · subst hij; simp [Array.getD_eq_getD_getElem?, show j < listed.size by omega]
   · rw [getD_set_ne false hij]; simp [show i ≠ j from fun h => hij h.symm]
  have hfun : (fun i => (listed.setIfInBounds j true).getD i false) = fun i => listed.getD i false || i == j := funext hset; refine tv (hstep a w hs) (fun a' w' hs' => ih _ a' w' (by simpa using hsz) ?_ ⟨j :: l, List.nodup_cons.mpr ⟨fun h => ?_, hnd⟩, by simp; omega, fun i hi => ?_⟩ (by rw [hfun]; exact hs'))
  · rw [hfun]; intro i hi k hk; simp only [Bool.or_eq_true, beq_iff_eq] at hi ⊢; rcases hi with hi | rfl
    · exact .inl (hD i hi k hk)
    · exact .inl (hdir k hk)
  · have := hall j h; rw [hjf] at this; cases this
  · rw [hset]; rcases List.mem_cons.mp hi with rfl | hi
    · simp
    · simp [hall i hi]
def Gf (S : List Spec) (σ : St) : St := S.foldl (fun σ s => over σ s.asg) σ
theorem Gg (t : Nat) : ∀ (S : List Spec) (k : Nat) (σ : St), nP (fun _ => true) t k (σ t) S = Gf S σ t := by
 intro S
 induction S with
 | nil => intros; rfl
 | cons s S ih =>
  intro k σ; simp only [nP, cond_true, Gf, List.foldl_cons]; exact ih (k + 1) (over σ s.asg)
theorem PL {id : Nat} {Q : Exit → St → Prop} {σ' : St} (S : List Spec) (hm : P.follows .mixedOrders = true) (hT : Region.tabAfter .any ops = tab) (hc : Gd tab S = true) (h0 : ∀ s ∈ S, Clear s σ0)
    (hst : wz (fun j s => ∀ σ, Clear s (over σ (gS S σ0 s)) → fH P K ops j (over σ (gS S σ0 s)) (over (over σ (gS S σ0 s)) s.asg)) 0 S) (hw : ∀ i, σ' i = Gf S σ0 i ∨ σ' i = .junk) (hq : Q .normal σ') : fX P K (.region id ops true) σ0 Q := by
 intro a w hs
 have hrep : ∀ i, (Array.replicate ops.size false).getD i false = false := by
  intro i; simp only [Array.getD_eq_getD_getElem?, Array.getElem?_replicate]; split <;> rfl
 have hinit : xG S σ0 (fun i => (Array.replicate ops.size false).getD i false) = σ0 := by
  funext t; exact vL (fun i s hi _ => hrep _)
 have hall : xG S σ0 (fun _ => true) = Gf S σ0 := funext fun t => Gg t S 0 σ0; refine wp_region_any hm (MC (K := K) (Q := post K Q) hT hc h0 (fun j s hj => ?_) (fun a w hs => ?_) ops.size _ a _ (by simp) ?_ ⟨[], List.nodup_nil, by simp, by simp⟩ ?_)
 · have := hst.get j s hj; rwa [Nat.zero_add] at this
 · rw [hall] at hs; exact ⟨σ', hs.weaken hw, hq⟩
 · intro j hj; simp only [hrep] at hj; cases hj
 · rw [hinit]; exact hs.drew
end
end Go.Proofs.Ytmjnenjeckeklaa.V
namespace Go.Proofs.Ytmjnenjeckeklaa.V
open Go Go.RowKit
section
variable {P : Program} {ET : TypeId} {w w' : World} {R : Nat → Prop} {K : Ctx} {σ σ' : St} {a : Act} {Fs : Nat → List Nat} {o : Oper} {d : Nat} {ops : Array Oper} {i : Nat}
theorem dI {x : Operand} {u : U} {l : List Nat} (ho : o.op = .move x ∨ o.op = .assign x) (hx : Src K σ x u l) (hd : o.dst = some d) (hn : gF K d = true) : Step P K σ o (put (cn σ l) d (.u u)) := by
 rintro a w ⟨Fs, hs⟩; obtain ⟨F, Fs', hu, hs', hF, _, _⟩ := hs.take hx
 have hrun : (execOp a.eval o).run P w = .ok (.value (a.eval x)) w := by
  rcases ho with ho | ho <;> simp [execOp, ho, pure]
 simp only [Oper.wp, hrun, Oper.upon_value, hd]; exact ⟨_, hs'.jS hn (bU.refl _ _) hF.2 hF.1 (.u hu)⟩
theorem dO.pick {xs : List Value} {us : List U} {F : List Nat} (h : dO ET w R xs us F) {j : Nat} {u : U} (hj : us[j]? = some u) : ∃ x F1 F2, xs[j]? = some x ∧ eU ET w R x u F1 ∧ dO ET w R xs (us.set j (.c .dead)) F2 ∧ (∀ b, b ∈ F1 → b ∈ F) ∧ (∀ b, b ∈ F2 → b ∈ F) ∧ (F.Nodup → F1.Nodup ∧ F2.Nodup ∧ ∀ b ∈ F1, b ∉ F2) := by
 induction us generalizing xs F j with
 | nil => simp at hj
 | cons u' us ih =>
  cases h with
  | @cons x _ xs _ F1 G h t =>
   cases j with
   | zero =>
    simp only [List.getElem?_cons_zero, Option.some.injEq] at hj; subst hj; exact ⟨x, F1, [] ++ G, rfl, h, .cons (.c (.dead _)) t, fun b hb => List.mem_append_left _ hb, fun b hb => List.mem_append_right _ (by simpa using hb), fun hn => ⟨(List.nodup_append.mp hn).1, by simpa using (List.nodup_append.mp hn).2.1, fun b hb de => (List.nodup_append.mp hn).2.2 b hb b (by simpa using de) rfl⟩⟩
   | succ j =>
    obtain ⟨x', G1, G2, h1, h2, h3, h4, h5, h6⟩ := ih t (by simpa using hj); refine ⟨x', G1, F1 ++ G2, by simpa using h1, h2, .cons h h3, fun b hb => List.mem_append_right _ (h4 b hb), fun b hb => ?_, fun hn => ?_⟩
    · rcases List.mem_append.mp hb with hb | hb
      · exact List.mem_append_left _ hb
      · exact List.mem_append_right _ (h5 b hb)
    · obtain ⟨n1, n2, n3⟩ := List.nodup_append.mp hn; obtain ⟨m1, m2, m3⟩ := h6 n2; refine ⟨m1, List.nodup_append.mpr ⟨n1, m2, fun x hx y hy e => ?_⟩, fun b hb de => ?_⟩
      · subst e; exact n3 x hx x (h5 x hy) rfl
      · rcases List.mem_append.mp de with de | de
        · exact n3 b de b (h4 b hb) rfl
        · exact m3 b hb de
theorem j9 {i j : Nat} {us : List U} {u : U} (ho : o.op = .extract (.tmp i) j) (hi : σ i = .tup us) (hj : us[j]? = some u) (hd : o.dst = some d) (hn : gF K d = true) : Step P K σ o (put (dn σ i (.tup (us.set j (.c .dead)))) d (.u u)) := by
 rintro a w ⟨Fs, hs⟩; have h1 := hs.rep i; rw [hi] at h1; have hnd := hs.nd i; have hdi := hs.dis i; have how := hs.own i; have hout := hs.out i; generalize hv : a.tmps.getD i undef = v at h1; generalize hFi : Fs i = F at h1 hnd hdi how
 cases h1 with
 | @tup arr _ _ h =>
  obtain ⟨x, F1, F2, h1, h2, h3, h4, h5, h6⟩ := h.pick hj; obtain ⟨m1, m2, m3⟩ := h6 hnd
  have hrun : (execOp a.eval o).run P w = .ok (.value x) w := by
   have TU : arr[j]? = some x := by simpa using h1
   simp [execOp, ho, eL, hv, Instr.extract, TU, pure]
  simp only [Oper.wp, hrun, Oper.upon_value, hd]
  have uy : dw K (dn (dn σ i .junk) i (.tup (us.set j (.c .dead)))) a w (dK (dK Fs i []) i F2) := by
   refine hout.Hq (by rw [hv]; exact .tup h3) m2 (fun k hk b hb de => ?_) (fun b hb => how b (h5 b hb)); unfold dK at de; (try rw [if_neg hk] at de); exact hk (hdi k b (h5 b hb) de).symm
  have he : dn (dn σ i .junk) i (.tup (us.set j (.c .dead))) = dn σ i (.tup (us.set j (.c .dead))) := by
   funext k; unfold dn; split <;> rfl
  rw [he] at uy
  exact ⟨_, uy.jS hn (bU.refl _ _) (fun b hb => ⟨fun k hk => by
   unfold dK at hk; split at hk
   · exact m3 b hb hk
   · rename_i hne; (try rw [if_neg hne] at hk)
     exact hne (hdi k b (h4 b hb) hk).symm, how b (h4 b hb)⟩) m1 (.u h2)⟩
theorem FI {t : T} (h : ∀ i, i ≠ d → refs (σ i) d = false) : put σ d t = over σ [(d, t)] := by
 funext i; unfold put over; by_cases hi : i = d
 · subst hi; simp [List.lookup]
 · rw [if_neg hi]; unfold me; rw [h i hi]; simp [List.lookup, show (i == d) = false by simpa using hi]
theorem bh {t : T} {s : Spec} {j : Nat} (hc : Clear s σ) (hf : s.fresh = some d) (ha : s.asg = [(d, t)]) (h : fH P K ops j σ (put σ d t)) : fH P K ops j σ (over σ s.asg) := by
 rw [ha, ← FI (fun i hi => hc.ref hf hi (by rw [ha, List.lookup_cons, show (i == d) = false by simpa using hi]; simp))]; exact h
theorem gR.app {i n m : Nat} {σ1 σ2 σ3 : St} (h : gR P K ops i n σ1 σ2) (t : gR P K ops (i + n) m σ2 σ3) : gR P K ops i (n + m) σ1 σ3 := by
 induction h with
 | nil => simpa using t
 | cons h _ ih =>
  rename_i i n _ _ _ _; rw [show n + 1 + m = (n + m) + 1 by omega]; exact .cons h (ih (by rw [show i + 1 + n = i + (n + 1) by omega]; exact t))
end
end Go.Proofs.Ytmjnenjeckeklaa.V
namespace Go.Proofs.Ytmjnenjeckeklaa.V
open Go Go.RowKit
abbrev Ent := Option (Value × Nat × List C)
def tw (m since : Nat) (seen : List Nat) (last : Nat) : uN where
  rep := fun w v F => ∃ b, v = .pointer (some ⟨b, 0, none⟩) ∧ w.heap[b]? = some (.mapIter (some m) since seen.toArray last) ∧ F = [b]
  frame := by rintro w w' v F ⟨b, rfl, h1, rfl⟩ hw; exact ⟨b, rfl, (hw b (List.mem_cons_self ..)).trans h1, rfl⟩
  lt := by rintro w v F ⟨b, rfl, h1, rfl⟩ b' hb; rw [List.mem_singleton.mp hb]; exact dY h1
  one := by rintro w v F ⟨b, rfl, _⟩; exact ⟨rfl, rfl⟩
  isp := false
  ptr := by intro h; cases h
section
variable {P : Program} {ET : TypeId} {w w' : World} {R : Nat → Prop} {K : Ctx} {σ : St} {a : Act} {Fs : Nat → List Nat} {o : Oper} {d : Nat}
theorem dw.Px {q q' : uN} {c : C} {pl : Pl} {r m : Nat} {G : List Nat} {S : Value → List Nat → Prop} (hs : dw K σ a w Fs) (hG : lG K Fs G) (hr : σ r = .u (.c c)) (hx : cellAt c pl = some (.x q)) (ho : ek c pl = true) (hk : bU w [m] w') (hcell : ∀ ad v, w.cell? ad = some v → w'.cell? ad = some v)
    (hq : ∀ y Fx, iu w a.tmps r pl = some y → q.rep w y Fx → Fx.Nodup → (∀ b ∈ Fx, b ∉ G) → m ∈ Fx ∧ ∃ Fx' H, q'.rep w' y Fx' ∧ (Fx' ++ H).Nodup ∧ (∀ b ∈ Fx' ++ H, b ∈ Fx ∨ b ∈ G) ∧ S y H) : ∃ Fs' y H, S y H ∧ dw K (dn σ r (.u (.c (setAt c pl (.x q'))))) a w' Fs' ∧ lG K Fs' H := by
 have h1 := hs.rep r; rw [hr] at h1; have hnd := hs.nd r; have hdi := fun j b (hj : j ≠ r) (hb : b ∈ Fs r) (de : b ∈ Fs j) => hj (hs.dis j r b de hb); have how := hs.own r; have hout := hs.out r; have hGd := hG.2; generalize hv : a.tmps.getD r undef = v at h1; generalize hFr : Fs r = F at h1 hnd hdi how
 cases h1 with
 | u h1 => cases h1 with
   | c h1 =>
     obtain ⟨y, Fo, Fx, e1, e2, h2, h3⟩ := bP.cell (tmps := a.tmps) (r := r) hv h1 hnd hx ho
     have jU : (Fo ++ Fx).Nodup := e2.nodup_iff.mp hnd
     obtain ⟨n1, n2, n3⟩ := List.nodup_append.mp jU
     have hFx : ∀ b ∈ Fx, b ∈ F := fun b hb => e2.mem_iff.mpr (List.mem_append_right _ hb)
     have hFo : ∀ b ∈ Fo, b ∈ F := fun b hb => e2.mem_iff.mpr (List.mem_append_left _ hb)
     cases h2 with
     | x h2 =>
       obtain ⟨hm, Fx', H, h4, h5', Ur, hS⟩ := hq y Fx e1 h2 n2 (fun b hb hg => (hGd b hg).1 r (by rw [hFr]; exact hFx b hb))
       obtain ⟨h5, h5H, h5d⟩ := List.nodup_append.mp h5'
       have h6 : ∀ b ∈ Fx', b ∈ Fx ∨ b ∈ G := fun b hb => Ur b (List.mem_append_left _ hb)
       have hRm : ∀ b, K.R b → b ≠ m := fun b hb e => by subst e; exact (how b (hFx b hm)).1 hb
       have hRlt : ∀ b, K.R b → b < w.heap.size := fun b hb => Nat.lt_of_lt_of_le (hs.ro b hb).1 hs.keeps.size
       have hFlt : ∀ b ∈ F, b < w.heap.size := by intro b hb; rw [← hFr] at hb; exact (hs.rep r).lt b hb
       obtain ⟨F2, h7, h8⟩ := h3 w' (.x q') Fx' (fun b hb => by
         rcases hb with hb | hb
         · exact hk.block b (hFlt b (hFo b hb)) (fun e => by rw [List.mem_singleton] at e; subst e; exact n3 b hb b hm rfl)
         · exact hk.block b (hRlt b hb) (fun e => by rw [List.mem_singleton] at e; exact hRm b hb e)) (.x h4)
       have hmF : m ∈ F := hFx m hm
       have h9 := hout.Fk (E1 := [m]) (w' := w') hk (fun b hb => by rw [List.mem_singleton.mp hb]; exact (how m hmF).2) (fun j b hb e => by
         rw [List.mem_singleton] at e; subst e
         unfold dK at hb
         split at hb
         · cases hb
         · rename_i hne; exact hdi j b hne hmF hb) (fun b hb => by rw [List.mem_singleton.mp hb]; exact (how m hmF).1) (fun ad v h _ => hcell ad v h)
       have hsub : ∀ b ∈ F2, b ∈ F ∨ b ∈ G := by
         intro b hb
         rcases List.mem_append.mp (h8.mem_iff.mp hb) with hb | hb
         · exact .inl (hFo b hb)
         · exact (h6 b hb).imp (hFx b) id
       have Us : F2.Nodup := by
         rw [h8.nodup_iff, List.nodup_append]
         refine ⟨n1, h5, fun b hb b2 de e => ?_⟩
         subst e
         rcases h6 b de with h | h
         · exact n3 b hb b h rfl
         · exact (hGd b h).1 r (by rw [hFr]; exact hFo b hb)
       have h10 := h9.Hq (i := r) (t := .u (.c (setAt c pl (.x q')))) (F := F2) (by rw [hv]; exact .u (.c h7)) Us (fun j hj b hb de => by
         unfold dK at de
         try rw [if_neg hj] at de
         rcases hsub b hb with h | h
         · exact hdi j b hj h de
         · exact (hGd b h).1 j de) (fun b hb => (hsub b hb).elim (how b) (fun h => (hGd b h).2))
       rw [lD] at h10
       refine ⟨_, y, H, hS, h10, h5H, fun b hb => ⟨fun j hj => ?_, ?_⟩⟩
       · have hbG := Ur b (List.mem_append_right _ hb)
         unfold dK at hj
         split at hj
         · rcases List.mem_append.mp (h8.mem_iff.mp hj) with h | h
           · rcases hbG with hx | hg
             · exact n3 b h b hx rfl
             · exact (hGd b hg).1 r (by rw [hFr]; exact hFo b h)
           · exact h5d b h b hb rfl
         · rename_i hne
           try rw [if_neg hne] at hj
           rcases hbG with hx | hg
           · exact hdi j b hne (hFx b hx) hj
           · exact (hGd b hg).1 j hj
       · rcases Ur b (List.mem_append_right _ hb) with hx | hg
         · exact how b (hFx b hx)
         · exact (hGd b hg).2
theorem dw.uO {q q' : uN} {c : C} {pl : Pl} {r m : Nat} {G : List Nat} (hs : dw K σ a w Fs) (hG : lG K Fs G) (hr : σ r = .u (.c c)) (hx : cellAt c pl = some (.x q)) (ho : ek c pl = true) (hk : bU w [m] w') (hcell : ∀ ad v, w.cell? ad = some v → w'.cell? ad = some v)
    (hq : ∀ y Fx, iu w a.tmps r pl = some y → q.rep w y Fx → Fx.Nodup → (∀ b ∈ Fx, b ∉ G) → m ∈ Fx ∧ ∃ Fx', q'.rep w' y Fx' ∧ Fx'.Nodup ∧ ∀ b ∈ Fx', b ∈ Fx ∨ b ∈ G) : ∃ Fs', dw K (dn σ r (.u (.c (setAt c pl (.x q'))))) a w' Fs' := by
 obtain ⟨Fs', _, _, _, h, _⟩ := hs.Px (S := fun _ _ => True) hG hr hx ho hk hcell (fun y Fx h1 h2 h3 h4 => by
  obtain ⟨h5, Fx', h6, h7, h8⟩ := hq y Fx h1 h2 h3 h4
  exact ⟨h5, Fx', [], h6, by simpa using h7, by simpa using h8, trivial⟩)
 exact ⟨Fs', h⟩
theorem dw.nL {q : uN} {c : C} {pl : Pl} {r : Nat} (hs : dw K σ a w Fs) (hr : σ r = .u (.c c)) (hx : cellAt c pl = some (.x q)) (ho : ek c pl = true) : ∃ y Fx, iu w a.tmps r pl = some y ∧ q.rep w y Fx ∧ ∀ b ∈ Fx, b ∈ Fs r := by
 have h1 := hs.rep r; rw [hr] at h1; have hnd := hs.nd r; generalize hv : a.tmps.getD r undef = v at h1; generalize Fs r = F at h1 hnd
 cases h1 with
 | u h1 => cases h1 with
   | c h1 =>
     obtain ⟨y, Fo, Fx, e1, e2, h2, h3⟩ := bP.cell (tmps := a.tmps) (r := r) hv h1 hnd hx ho
     cases h2 with
     | x h2 => exact ⟨y, Fx, e1, h2, fun b hb => e2.mem_iff.mpr (List.mem_append_right _ hb)⟩
theorem kL {m : Nat} {es : Array MapEntry} {clock : Nat} {o' : Obj} (hb : w.heap[m]? = some (.map es clock)) : ∀ ad v, w.cell? ad = some v → (ChangeMaps.setBlock w m o').cell? ad = some v := by
 intro ad v h; by_cases e : ad.block = m
 · unfold World.cell? at h; rw [e, hb] at h; cases h
 · rw [← h]; apply jF; simp [ChangeMaps.setBlock, Ne.symm e]
theorem fu {m : Nat} {o' : Obj} : bU w [m] (ChangeMaps.setBlock w m o') := ⟨rfl, rfl, rfl, by simp [ChangeMaps.setBlock], fun b _ hb => by
  have : b ≠ m := fun e => hb (by simp [e])
  simp [ChangeMaps.setBlock, Ne.symm this]⟩
theorem iY {m : Nat} {o o' : Obj} (h : w.heap[m]? = some o) : (ChangeMaps.setBlock w m o').heap[m]? = some o' := by
 have := dY h; simp [ChangeMaps.setBlock, this]
theorem eA {b m : Nat} {o' : Obj} (h : b ≠ m) : (ChangeMaps.setBlock w m o').heap[b]? = w.heap[b]? := by
 simp [ChangeMaps.setBlock, Ne.symm h]
end
end Go.Proofs.Ytmjnenjeckeklaa.V
namespace Go.Proofs.Ytmjnenjeckeklaa.V
open Go Go.RowKit
def Oy : uN where
  rep := fun _ v F => (v.cells = #[v] ∧ v.oneCell' = true) ∧ F = []
  frame := fun h _ => h
  lt := by rintro w v F ⟨_, rfl⟩ b hb; cases hb
  one := fun h => h.1
  isp := false
  ptr := by intro h; cases h
def B5 : C → C
  | .v x => .v x
  | .err t => .err t
  | .dead => .dead
  | _ => .x Oy
section
variable {P : Program} {ET : TypeId} {w w' : World} {R R' : Nat → Prop} {K : Ctx} {σ : St} {a : Act} {Fs : Nat → List Nat} {o : Oper} {d : Nat}
theorem bP.drop {x : Value} {c : C} {F : List Nat} (h : bP ET w R x c F) : bP ET w R' x (B5 c) [] := by
 cases h with
 | v h => exact .v h
 | err t => exact .err t
 | dead x => exact .dead x
 | _ => first
   | exact .x ⟨⟨rfl, rfl⟩, rfl⟩
   | (rename_i q h; exact .x ⟨q.one h, rfl⟩)
theorem bG.dropped {xs : List Value} {cs : List C} {F : List Nat} (h : bG ET w R xs cs F) : bG ET w R' xs (cs.map B5) [] := by
 induction cs generalizing xs F with
 | nil => cases h; exact .nil
 | cons c cs ih => cases h with | cons h t => exact .cons (F := []) (G := []) h.drop (ih t)
theorem Au {b m s l : Nat} {sn : Array Nat} {o' : Obj} (hb : w.heap[b]? = some (.mapIter (some m) s sn l)) : ∀ ad v, w.cell? ad = some v → (ChangeMaps.setBlock w b o').cell? ad = some v := by
 intro ad v h; by_cases e : ad.block = b
 · unfold World.cell? at h; rw [e, hb] at h; cases h
 · rw [← h]; apply jF; simp [ChangeMaps.setBlock, Ne.symm e]
end
end Go.Proofs.Ytmjnenjeckeklaa.V
namespace Go.Proofs.Ytmjnenjeckeklaa.V
open Go Go.RowKit
section
variable {P : Program} {ET : TypeId} {w w' : World} {R R' : Nat → Prop} {K : Ctx} {σ : St} {a : Act} {Fs : Nat → List Nat} {o : Oper} {d : Nat}
theorem qL {ks : List Value} (h : ks.all iB = true) : bG ET w R ks (ks.map C.v) [] := by
 induction ks with
 | nil => exact .nil
 | cons k ks ih =>
  simp only [List.all_cons, Bool.and_eq_true] at h; exact .cons (F := []) (G := []) (.v h.1) (ih h.2)
theorem EN {t i r n : Nat} {cs : List C} (ho : o.op = .load t (.tmp i)) (ht : wo P t n) (hi : cR i (σ i) = .addr r .d [] 0) (hr : σ r = .u (.c (.pt true cs))) (hl : cs.length = n) (hd : o.dst = some d) (hn : gF K d = true) :
    Step P K σ o (put (dn σ r (.u (.c (.pt true (cs.map B5))))) d (.u (.agg cs))) := by
     rintro a w ⟨Fs, hs⟩; have hal := (qI.tmp hi).rep hs; have h1 := hs.rep r; rw [hr] at h1; have hnd := hs.nd r; have hdi := fun j b (hj : j ≠ r) (hb : b ∈ Fs r) (de : b ∈ Fs j) => hj (hs.dis j r b de hb); have how := hs.own r; have hout := hs.out r; generalize hv : a.tmps.getD r undef = v at h1; generalize hFr : Fs r = F at h1 hnd hdi how; generalize Oi : a.eval (.tmp i) = v2 at hal
     cases hal with
     | @addr _ _ b2 o2 _ _ yD =>
     cases h1 with
     | u h1 => cases h1 with
       | c h1 => cases h1 with
         | @pt b own arr et cs F1 F' hb hrep hown =>
           rcases hown with ⟨_, rfl⟩ | ⟨h, _⟩
           · rw [hv] at yD
             simp only [walk, l9, Option.some.injEq, Prod.mk.injEq] at yD
             obtain ⟨rfl, rfl⟩ := yD
             have hsz : arr.size = n := by rw [← hl, ← hrep.length]; simp
             have hrun : (execOp a.eval o).run P w = .ok (.value (.agg arr)) w := by
               have := kO (P := P) ht hb (o := 0 + 0) (by omega)
               rw [show ((arr.toList.drop (0 + 0)).take n).toArray = arr by rw [Nat.zero_add, List.drop_zero, ← hsz, ← Array.length_toList, List.take_length]] at this
               simp only [execOp, ho, Oi, Sem.run_bind, this, Result.andThen_ok, Sem.run_pure]
             simp only [Oper.wp, hrun, Oper.upon_value, hd]
             obtain ⟨n1, n2⟩ := List.nodup_cons.mp hnd
             have h2 := hout.Hq (i := r) (t := .u (.c (.pt true (cs.map B5)))) (F := [b]) (by rw [hv]; exact .u (.c (.pt hb hrep.dropped (.inl ⟨rfl, rfl⟩)))) (by simp) (fun j hj b' hb' de => by
               rw [List.mem_singleton] at hb'
               subst hb'
               unfold dK at de
               try rw [if_neg hj] at de
               exact hdi j _ hj (List.mem_cons_self ..) de) (fun b' hb' => by rw [List.mem_singleton.mp hb']; exact how b (List.mem_cons_self ..))
             rw [lD] at h2
             exact ⟨_, h2.jS hn (bU.refl _ _) (F := F1) (fun b' hb' => ⟨fun j hj => by
               unfold dK at hj
               split at hj
               · rw [List.mem_singleton] at hj; subst hj; exact n1 hb'
               · rename_i hne
                 try rw [if_neg hne] at hj
                 exact hdi j b' hne (List.mem_cons_of_mem _ hb') hj, how b' (List.mem_cons_of_mem _ hb')⟩) n2 (.u (.agg hrep))⟩
           · cases h
end
end Go.Proofs.Ytmjnenjeckeklaa.V
namespace Go.Proofs.Ytmjnenjeckeklaa.V
open Go Go.RowKit
section
variable {P : Program} {K : Ctx} {σ σ' : St} {o : Oper} {d : Nat} {ops : Array Oper} {t : T}
def ME (P : Program) (t : TypeId) : Bool := (match P.underlying t with
  | some q => !q.isRow
  | none => false) && (P.info? t).map (·.size) == some 1
def FF (P : Program) (t : TypeId) (n : Nat) : Bool := (match P.underlying t with
  | some q => q.isRow
  | none => false) && (P.info? t).map (·.size) == some n && Nat.blt 0 n
def k9 (P : Program) (t : TypeId) : Nat := match P.info? t with
  | some i => i.size
  | none => 0
def MF (P : Program) (s f : Nat) : Option Nat := match P.underlying s with
  | some (.struct fields) => match fields[f]? with
    | some fd => if Nat.blt 0 (k9 P fd.type) then some fd.offset else none
    | none => none
  | _ => none
theorem bw {t : TypeId} (h : ME P t = true) : Az P t := by
 unfold ME at h; simp only [Bool.and_eq_true, beq_iff_eq] at h; obtain ⟨h1, h2⟩ := h; refine ⟨?_, h2⟩
 cases hq : P.underlying t with
 | none => rw [hq] at h1; cases h1
 | some q => rw [hq] at h1; exact ⟨q, rfl, by simpa using h1⟩
theorem jZ {t n : Nat} (h : FF P t n = true) : wo P t n := by
 unfold FF at h; simp only [Bool.and_eq_true, beq_iff_eq] at h; obtain ⟨⟨h1, h2⟩, h3⟩ := h; refine ⟨?_, h2, Nat.lt_of_succ_le (by simpa [Nat.blt] using h3)⟩
 cases hq : P.underlying t with
 | none => rw [hq] at h1; cases h1
 | some q => rw [hq] at h1; exact ⟨q, rfl, h1⟩
theorem Gh {t : Nat} (h : Nat.blt 0 (k9 P t) = true) : (P.info? t).map (·.size) = some (k9 P t) ∧ ∃ i, P.info? t = some i ∧ i.size = k9 P t ∧ i.size ≠ 0 := by
 unfold k9 at *
 cases hi : P.info? t with
 | none => rw [hi] at h; cases h
 | some i =>
  rw [hi] at h; refine ⟨rfl, i, rfl, rfl, ?_⟩; have : 1 ≤ i.size := by simpa [Nat.blt] using h
  omega
theorem Jl {s f off : Nat} (h : MF P s f = some off) : Gi P s f off := by
 unfold MF at h; split at h
 · rename_i fields hu; split at h
   · rename_i fd hf; split at h
     · rename_i hs; injection h with h; obtain ⟨_, i, h1, _, h2⟩ := Gh hs; exact ⟨fields, fd, i, hu, hf, h, h1, h2⟩
     · cases h
   · cases h
 · cases h
def Wm (r : Nat) (s : ef) (p : List (Nat × ef)) (off : Nat) (x : C) : Option T := match x with
  | .v v => some (.u (.c (.v v)))
  | .err e => some (.u (.c (.err e)))
  | .sl true sz rows => some (.whole r (some (s, p, off)) sz rows.length)
  | .sl false sz rows => some (.u (.c (.sl false sz rows)))
  | .pt true _ => some (.addr r s (p ++ [(off, .d)]) 0)
  | .pt false cs => some (.u (.c (.pt false cs)))
  | .x q => if q.dup then some (.u (.c (.x q))) else none
  | _ => none
def sJ (P : Program) (K : Ctx) (σ : St) (o : Oper) (d : Nat) : Option T := match o.op with
  | .load t (.tmp i) => match cR i (σ i) with
    | .addr r s p off => match σ r with
      | .u (.c c) => match gK c s p with
        | some cs => if Nat.beq r d then none else if ME P t then (match cs[off]? with
            | some x => Wm r s p off x
            | none => none)
          else if FF P t (k9 P t) && Nat.beq ((cs.drop off).take (k9 P t)).length (k9 P t) && ((cs.drop off).take (k9 P t)).all fl then some (.u (.agg ((cs.drop off).take (k9 P t)))) else none
        | none => none
      | _ => none
    | _ => none
  | _ => none
theorem uR (h : sJ P K σ o d = some t) (hd : o.dst = some d) (hn : gF K d = true) : Step P K σ o (put σ d t) := by
 unfold sJ at h; split at h
 · rename_i ty i ho; split at h
   · rename_i r s p off hi; split at h
     · rename_i c hr; split at h
       · rename_i cs hg; split at h
         · cases h
         · rename_i hrd; have hrd : (r == d) = false := by simpa using hrd
           split at h
           · rename_i ht; split at h
             · rename_i x hx; unfold Wm at h; split at h
               · injection h with h; subst h; exact dz ho (bw ht) hi hr hg hx rfl hd hn
               · injection h with h; subst h; exact dz ho (bw ht) hi hr hg hx rfl hd hn
               · injection h with h; subst h; exact gL ho (bw ht) hi hr hg hx hd hn hrd
               · injection h with h; subst h; exact dz ho (bw ht) hi hr hg hx rfl hd hn
               · injection h with h; subst h; exact Jm ho (bw ht) hi hr hg hx hd hn hrd
               · injection h with h; subst h; exact dz ho (bw ht) hi hr hg hx rfl hd hn
               · split at h
                 · rename_i hq; injection h with h; subst h; exact dz ho (bw ht) hi hr hg hx hq hd hn
                 · cases h
               · cases h
             · cases h
           · split at h
             · rename_i hb; simp only [Bool.and_eq_true] at hb; injection h with h; subst h; exact rC ho (jZ hb.1.1) hi hr hg rfl (Nat.eq_of_beq_eq_true hb.1.2) hb.2 hd hn
             · cases h
       · cases h
     · cases h
   · cases h
 · cases h
def o4 (P : Program) (σ : St) (o : Oper) (d : Nat) : Option T := match o.op with
  | .fieldAddr s (.tmp i) f => match cR i (σ i) with
    | .addr r sl p off => match MF P s f with
      | some foff => if Nat.beq r d then none else some (.addr r sl p (off + foff))
      | none => none
    | _ => none
  | _ => none
theorem sK (h : o4 P σ o d = some t) (hd : o.dst = some d) (hn : gF K d = true) : Step P K σ o (put σ d t) := by
 unfold o4 at h; split at h
 · rename_i s i f ho; split at h
   · rename_i r sl p off hi; split at h
     · rename_i foff hf; split at h
       · cases h
       · rename_i hrd; injection h with h; subst h; exact Jn ho (Jl hf) hi hd hn (by simpa using hrd)
     · cases h
   · cases h
 · cases h
def isEq : BinOp → Option Bool
  | .eql => some true
  | .neq => some false
  | _ => none
def MG (P : Program) (t : TypeId) : Bool := (P.info? t).map (·.comparable) == some true && match P.underlying t with
  | some (.int _) => true
  | _ => false
def BC (P : Program) (t : TypeId) : Bool := match P.underlying t with
  | some (.interface _) => true
  | _ => false
def Jo (P : Program) (t : TypeId) : Bool := match P.underlying t with
  | some (.pointer _) => true
  | _ => false
def Gj (P : Program) (t : TypeId) : Bool := match P.underlying t with
  | some .bool => true
  | _ => false
def Jp : Operand → Bool
  | .const (.pointer none) => true
  | _ => false
def isConst : Operand → Bool
  | .const _ => true
  | _ => false
theorem Jq {op : BinOp} {b : Bool} (h : isEq op = some b) : op = .eql ∧ b = true ∨ op = .neq ∧ b = false := by
 cases op <;> simp [isEq] at h <;> simp [h]
def EB (P : Program) (K : Ctx) (σ : St) (o : Oper) : Option T := match o.op with
  | .binOp op xt x y _ => match isEq op with
    | some e => match gp K.ET σ x, gp K.ET σ y with
      | .u (.c (.v (.bool p))), .u (.c (.v (.bool q))) => if Gj P xt then some (.u (.c (.v (.bool (if e then p == q else !(p == q)))))) else none
      | .u (.c (.err p)), .u (.c (.err q)) => if BC P xt && MG P K.ET && (isConst x || isConst y || q.isSome) then some (.u (.c (.v (.bool (if e then p == q else !(p == q)))))) else none
      | .addr _ _ _ _, _ => if Jp y && Jo P xt then some (.u (.c (.v (.bool (!e))))) else none
      | .u (.c (.v (.pointer none))), _ => if Jp y && Jo P xt then some (.u (.c (.v (.bool e)))) else none
      | _, _ => none
    | none => none
  | _ => none
theorem CF {y : Operand} (h : Jp y = true) : y = .const (.pointer none) := by
 unfold Jp at h; split at h
 · rfl
 · cases h
theorem uh {y : Operand} (h : isConst y = true) : ∃ v, y = .const v := by
 unfold isConst at h; split at h
 · exact ⟨_, rfl⟩
 · cases h
theorem rT {t : TypeId} (h : Jo P t = true) : L3 P t := by
 unfold Jo at h; split at h
 · rename_i h1; exact ⟨_, h1⟩
 · cases h
theorem vM {t : TypeId} (h : BC P t = true) : AK P t := by
 unfold BC at h; split at h
 · rename_i h1; exact ⟨_, h1⟩
 · cases h
theorem zG {t : TypeId} (h : Gj P t = true) : Kv P t := by
 unfold Gj at h; split at h
 · rename_i h1; exact h1
 · cases h
theorem cL {t : TypeId} (h : MG P t = true) : IP P t := by
 unfold MG at h; simp only [Bool.and_eq_true, beq_iff_eq] at h; obtain ⟨h1, h2⟩ := h; refine ⟨h1, ?_⟩; split at h2
 · rename_i h3; exact ⟨_, h3⟩
 · cases h2
theorem BY (h : EB P K σ o = some t) (hd : o.dst = some d) (hn : gF K d = true) : Step P K σ o (put σ d t) := by
 unfold EB at h; split at h
 · rename_i op xt x y yt ho; split at h
   · rename_i e he; have hop := Jq he; split at h
     · rename_i p q hx hy; split at h
       · rename_i hb; injection h with h; subst h; rcases hop with ⟨rfl, rfl⟩ | ⟨rfl, rfl⟩
         · exact Kw ho (.inl rfl) (zG hb) hx hy hd hn
         · exact Kw ho (.inr rfl) (zG hb) hx hy hd hn
       · cases h
     · rename_i p q hx hy; split at h
       · rename_i hb; simp only [Bool.and_eq_true, Bool.or_eq_true] at hb; injection h with h; subst h; have hg : p ≠ none ∨ q ≠ none ∨ (∃ v, x = .const v) ∨ ∃ v, y = .const v := hb.2.elim (fun h => h.elim (fun h => .inr (.inr (.inl (uh h)))) (fun h => .inr (.inr (.inr (uh h))))) (fun h => .inr (.inl (fun e => by rw [e] at h; cases h))); rcases hop with ⟨rfl, rfl⟩ | ⟨rfl, rfl⟩
         · exact Kx ho (.inl rfl) (vM hb.1.1) (cL hb.1.2) hx hy hg hd hn
         · exact Kx ho (.inr rfl) (vM hb.1.1) (cL hb.1.2) hx hy hg hd hn
       · cases h
     · rename_i hx; split at h
       · rename_i hb; simp only [Bool.and_eq_true] at hb; injection h with h; subst h; have := CF hb.1; subst this; rcases hop with ⟨rfl, rfl⟩ | ⟨rfl, rfl⟩
         · exact Ky ho (.inl rfl) (rT hb.2) hx hd hn
         · exact Ky ho (.inr rfl) (rT hb.2) hx hd hn
       · cases h
     · rename_i hx; split at h
       · rename_i hb; simp only [Bool.and_eq_true] at hb; injection h with h; subst h; have := CF hb.1; subst this; rcases hop with ⟨rfl, rfl⟩ | ⟨rfl, rfl⟩
         · exact Fu ho (.inl rfl) (rT hb.2) hx hd hn
         · exact Fu ho (.inr rfl) (rT hb.2) hx hd hn
       · cases h
     · cases h
   · cases h
 · cases h
def SM (P : Program) (K : Ctx) (ops : Array Oper) (j : Nat) (σ : St) (d : Nat) : Option T :=
  match ops[j]? with
  | some o => match o.guard with
    | none => match o.dst with
      | some d' => if Nat.beq d' d && gF K d then (match uQ K.ET σ o.op with
        | some t => if refs t d then none else some t
        | none => match sJ P K σ o d with
          | some t => some t
          | none => match o4 P σ o d with
            | some t => some t
            | none => EB P K σ o)
        else none
      | none => none
    | some _ => none
  | none => none
theorem SN {j : Nat} (h : SM P K ops j σ d = some t) : fH P K ops j σ (put σ d t) := by
 unfold SM at h; split at h
 · rename_i o ho; split at h
   · rename_i hg; split at h
     · rename_i d' hd; split at h
       · rename_i hb; simp only [Bool.and_eq_true] at hb; obtain ⟨uz, de⟩ := hb; have : d' = d := Nat.eq_of_beq_eq_true uz; subst this; refine aa ho hg ?_; split at h
         · rename_i t' hp; split at h
           · cases h
           · rename_i hr; cases h; exact QH hp hd de (by simpa using hr)
         · split at h
           · rename_i t' hp; cases h; exact uR hp hd de
           · split at h
             · rename_i t' hp; cases h; exact sK hp hd de
             · exact BY h hd de
       · cases h
     · cases h
   · cases h
 · cases h
def at_ (σ : St) (l : List (Nat × T)) : List (Nat × T) := l.map fun p => (p.1, σ p.1)
theorem au {l : List (Nat × T)} (h : at_ σ l = l) : ∀ i, St.of l i = σ i ∨ St.of l i = .junk := by
 intro i; unfold St.of
 cases hl : l.lookup i with
 | none => exact .inr rfl
 | some t =>
  left; have hm := hU hl
  have : ∀ p ∈ l, (p.1, σ p.1) = p := by
   unfold at_ at h; clear hm hl
   induction l with
   | nil => simp
   | cons q l ih =>
    simp only [List.map_cons, List.cons.injEq] at h; intro p hp; rcases List.mem_cons.mp hp with rfl | hp
    · exact h.1
    · exact ih h.2 p hp
  have := this _ hm; injection this with _ this; exact this.symm
theorem Ov {id n : Nat} {Q : Exit → St → Prop} {σ1 : St} {l : List (Nat × T)} (h : gR P K ops 0 n σ σ1) (hn : n = ops.size) (hl : at_ σ1 l = l) (hq : Q .normal (St.of l)) : fX P K (.region id ops false) σ Q := by
 subst hn; intro a w hs; refine wp_mono (Gk (id := id) (Q := fun e s => e = .normal ∧ s = σ1) h ⟨rfl, rfl⟩ a w hs) ?_; rintro e a' w' ⟨s, h1, rfl, rfl⟩; exact ⟨St.of l, h1.weaken (au hl), hq⟩
theorem aN {c : Operand} {x y : Code} {b : Bool} {Q : Exit → St → Prop} (hb : b = true) (hc : gp K.ET σ c = .u (.c (.v (.bool b)))) (h : fX P K x σ Q) : fX P K (.cond c x y) σ Q := by
 subst hb; exact Gl hc (by simpa using h)
theorem aW {c : Operand} {x y : Code} {b : Bool} {Q : Exit → St → Prop} (hb : b = false) (hc : gp K.ET σ c = .u (.c (.v (.bool b)))) (h : fX P K y σ Q) : fX P K (.cond c x y) σ Q := by
 subst hb; exact Gl hc (by simpa using h)
def Gm (P : Program) (t : TypeId) : Option (List (Nat × Nat)) := match P.underlying t with
  | some (.struct fields) => if fields.toList.all (fun f => (P.info? f.type).isSome) then some (fields.toList.map fun f => (f.offset, k9 P f.type)) else none
  | _ => none
theorem Gn {α β : Type} {f : α → Sem β} {g : α → β} {w : World} : ∀ {l : List α}, (∀ x ∈ l, (f x).run P w = .ok (g x) w) → (l.mapM f).run P w = .ok (l.map g) w := by
 intro l
 induction l with
 | nil => intro _; rfl
 | cons x l ih =>
  intro h; rw [List.mapM_cons, Sem.run_bind, h x (List.mem_cons_self ..), Result.andThen_ok, Sem.run_bind, ih (fun y hy => h y (List.mem_cons_of_mem _ hy)), Result.andThen_ok]; rfl
theorem iK {t : TypeId} {pl : List (Nat × Nat)} (h : Gm P t = some pl) : lE P t pl := by
 unfold Gm at h; split at h
 · rename_i fields hu; split at h
   · rename_i hall; injection h with h; subst h; refine ⟨fields, hu, fun w => ?_⟩; rw [← Array.toArray_toList (xs := fields), List.mapM_toArray, List.toList_toArray]
     have := Gn (P := P) (w := w) (f := (fun f => do pure (f.offset, ← sizeOf f.type) : Field → Sem (Nat × Nat))) (g := fun f => (f.offset, k9 P f.type)) (l := fields.toList) (fun x hx => by
      have h1 := List.all_eq_true.mp hall x hx; obtain ⟨i, hi⟩ := Option.isSome_iff_exists.mp h1
      simp [sizeOf, typeInfo, hi, k9, Result.andThen])
     rw [Sem.run_map, this]; rfl
   · cases h
 · cases h
def CG (P : Program) (t : TypeId) : Option (List Value) := match P.info? t with
  | some i => match i.zero with
    | some z => some z.cells.toList
    | none => none
  | none => none
theorem iz {t : TypeId} {vs : List Value} {cs : List C} (h : CG P t = some vs) (hr : ∀ ET w R, bG ET w R vs cs []) : kM P t cs := by
 unfold CG at h; split at h
 · rename_i i hi; split at h
   · rename_i z hz; injection h with h; subst h; exact ⟨i, z, hi, hz, hr⟩
   · cases h
 · cases h
def UK (P : Program) (t sz bytes : Nat) : Bool := match P.underlying t with
  | some (.slice e) => match P.info? e with
    | some i => Nat.beq i.size sz && Nat.beq i.bytes bytes && Nat.blt 0 sz
    | none => false
  | _ => false
theorem ou {t sz bytes : Nat} (h : UK P t sz bytes = true) : g8 P t sz bytes := by
 unfold UK at h; split at h
 · rename_i e hu; split at h
   · rename_i i hi; simp only [Bool.and_eq_true] at h; exact ⟨e, i, hu, hi, Nat.eq_of_beq_eq_true h.1.1, Nat.eq_of_beq_eq_true h.1.2, Nat.lt_of_succ_le (by simpa [Nat.blt] using h.2)⟩
   · cases h
 · cases h
end
end Go.Proofs.Ytmjnenjeckeklaa.V
namespace Go.Proofs.Ytmjnenjeckeklaa.V
open Go Go.RowKit
section
variable {P : Program} {ET : TypeId} {w w' : World} {R : Nat → Prop} {K : Ctx} {σ σ' : St} {a : Act} {Fs : Nat → List Nat} {o : Oper} {d : Nat} {ops : Array Oper}
theorem BL {c : Code} {Q : Exit → St → Prop} {α : Type} (L : α → List (Nat × T)) (g : Nat → α → Prop) (hstep : ∀ n x, g (n + 1) x → fX P K c (St.of (L x)) (yw (fun σ' => ∃ y, g n y ∧ ∀ i, St.of (L y) i = σ' i ∨ St.of (L y) i = .junk) Q)) (h0 : ∀ x, ¬ g 0 x) : ∀ n x, g n x → xW P K c n (St.of (L x)) Q := by
 intro n
 induction n with
 | zero => intro x h; exact absurd h (h0 x)
 | succ n ih =>
  intro x h; refine fun a w hs => wp_mono (hstep n x h a w hs) ?_; rintro e a' w' ⟨s, h1, h2⟩
  cases e <;> first
    | exact ⟨s, h1, h2⟩
    | (obtain ⟨y, h3, h4⟩ := h2; exact zU h4 (ih y h3) _ _ h1)
theorem gZ {c : Code} {Q : Exit → St → Prop} {α : Type} (L : α → List (Nat × T)) (g : Nat → α → Prop) (n : Nat) (x : α) (hx : g n x) (h0 : ∀ x, ¬ g 0 x) (hstep : ∀ n x, g (n + 1) x → fX P K c (St.of (L x)) (yw (fun σ' => ∃ y, g n y ∧ ∀ i, St.of (L y) i = σ' i ∨ St.of (L y) i = .junk) Q)) : fX P K (.loop c) (St.of (L x)) Q :=
  M3 n (BL L g hstep h0 n x hx)
theorem bl {α : Type} {b : Bool} {x y : Option α} {r : α} (hb : b = true) (h : (bif b then x else y) = some r) : x = some r := by subst hb; exact h
theorem bp {α : Type} {b : Bool} {x y : Option α} {r : α} (hb : b = false) (h : (bif b then x else y) = some r) : y = some r := by subst hb; exact h
theorem bind_some {α β : Type} {x : Option α} {f : α → Option β} {r : β} (h : x.bind f = some r) : ∃ y, x = some y ∧ f y = some r := by
 cases x with
 | none => cases h
 | some y => exact ⟨y, rfl, h⟩
theorem aV {α : Type} {b : Bool} {x : Option α} {r : α} (h : (bif b then x else none) = some r) : b = true ∧ x = some r := by
 cases b with
 | false => cases h
 | true => exact ⟨rfl, h⟩
def JH : U → Option Value
  | .c (.v x) => some x
  | .agg cs => (jY cs).map fun xs => .agg xs.toArray
  | _ => none
def zV : List U → Option (List Value)
  | [] => some []
  | u :: us => match JH u, zV us with
    | some x, some xs => some (x :: xs)
    | _, _ => none
theorem bG.vals {xs : List Value} {cs : List C} {F : List Nat} (h : bG ET w R xs cs F) {ys : List Value} (hy : jY cs = some ys) : xs = ys ∧ F = [] := by
 induction cs generalizing xs ys F with
 | nil => cases h; simp only [jY, Option.some.injEq] at hy; exact ⟨hy, rfl⟩
 | cons c cs ih =>
  cases h with
  | @cons x0 _ zs _ F0 G h t =>
   simp only [jY] at hy; split at hy
   · rename_i y ys' h1 h2; injection hy with hy; subst hy; obtain ⟨e1, e2⟩ := ih t h2; cases c <;> simp only [IQ] at h1 <;> try cases h1
     cases h with
     | v h => exact ⟨by rw [e1], by rw [e2]; rfl⟩
   · cases hy
theorem dO.vals {xs : List Value} {us : List U} {F : List Nat} (h : dO ET w R xs us F) {ys : List Value} (hy : zV us = some ys) : xs = ys ∧ F = [] := by
 induction us generalizing xs ys F with
 | nil => cases h; simp only [zV, Option.some.injEq] at hy; exact ⟨hy, rfl⟩
 | cons u us ih =>
  cases h with
  | @cons x0 _ zs _ F0 G h t =>
   simp only [zV] at hy; split at hy
   · rename_i y ys' h1 h2; injection hy with hy; subst hy; obtain ⟨e1, e2⟩ := ih t h2
     cases h with
     | c h => cases h <;> simp only [JH] at h1 <;> try cases h1
              exact ⟨by rw [e1], by rw [e2]; rfl⟩
     | @agg arr cs _ h =>
      simp only [JH] at h1
      cases hv : jY cs with
      | none => rw [hv] at h1; cases h1
      | some xs' =>
       rw [hv] at h1; simp only [Option.map_some, Option.some.injEq] at h1; obtain ⟨e3, e4⟩ := h.vals hv; subst h1; refine ⟨?_, by rw [e2, e4]; rfl⟩; rw [e1, ← e3]
     | fn h => simp only [JH] at h1; cases h1
   · cases hy
theorem Qa {vs : List Value} {ins : List U} (h : vs.length = ins.length) : ko ET w R vs (ins.map fun _ => none) [] := by
 induction ins generalizing vs with
 | nil => cases vs with
   | nil => exact .nil
   | cons _ _ => simp at h
 | cons u ins ih => cases vs with
   | nil => simp at h
   | cons v vs => exact .skip (ih (by simpa using h))
theorem Gb {f : FuncId} {ins : List U} {vals : List Value} {res : List U} {rv : Value} (hi : zV ins = some vals) (hr : ∀ w R, kz ET w R rv res [])
    (h : ∀ w, Calls P f vals.toArray w fun e w' => e = .returned rv ∧ Below w.heap.size w w') : AC P ET f ins (ins.map fun _ => none) res := by
 intro R w vs F hrep hnd hR hRlt; have hlen := hrep.len; obtain ⟨rfl, rfl⟩ := hrep.vals hi; refine (h w).mono ?_; rintro e w' ⟨rfl, hb⟩; exact ⟨rv, [], [], rfl, Qa hlen, hr w' R, List.nodup_nil, by simp, bU.eX hb []⟩
theorem bA {α : Type} {f : α → List C} {own : Bool} {sz k : Nat} {xs : List α} (dflt : α) (h : k < xs.length) : gK (.sl own sz (xs.map f)) (.i k sz) [] = some (f (xs.getD k dflt)) := by
 simp only [gK, jT, if_true, List.getElem?_map, List.getElem?_eq_getElem h, Option.map_some, List.getD_eq_getElem?_getD, Option.getD_some]
end
end Go.Proofs.Ytmjnenjeckeklaa.V
namespace Go.Proofs.Ytmjnenjeckeklaa.V
open Go Go.RowKit
section
variable {P : Program} {ET : TypeId} {w w' : World} {R : Nat → Prop} {K : Ctx} {σ σ' : St} {a : Act} {Fs : Nat → List Nat} {o : Oper} {d : Nat} {ops : Array Oper}
theorem cv {i j t : Nat} {b : Bool} (h : ops[i]? = some o) (hg : o.guard = some (j, b)) (hj : (ops[j]?).bind (·.dst) = some t) (ht : σ t = .u (.c (.v (.bool b)))) (hs : Step P K σ o σ') : fH P K ops i σ σ' := Ak h hg hj ht hs
abbrev Al : T := .tup []
theorem Am {a : Act} {w : World} {j t : Nat} {b : Bool} {F : List Nat} {x : T} (hj : (ops[j]?).bind (·.dst) = some t) (h3 : ej K.ET w K.R a.tmps (a.tmps.getD t undef) x F) (hx : (∃ v, x = .u (.c (.v v)) ∧ v ≠ .bool b) ∨ ∃ us, x = .tup us) : yielded ops a.tmps j ≠ some b := by
 unfold yielded; rw [hj]; simp only [Option.bind_some]
 cases h5 : a.tmps[t]? with
 | none => simp
 | some v =>
  rw [Array.getD_eq_getD_getElem?, h5] at h3; simp only [Option.getD_some] at h3; intro h6; split at h6
  · rename_i c hc; injection hc with hc; injection h6 with h6; subst h6; subst hc; rcases hx with ⟨v, rfl, hv⟩ | ⟨us, rfl⟩
    · exact hv h3.Ez.1.symm
    · cases h3
  · cases h6
theorem EA {i j t : Nat} {b : Bool} (h : ops[i]? = some o) (hg : o.guard = some (j, b)) (hj : (ops[j]?).bind (·.dst) = some t) (ht : (∃ v, σ t = .u (.c (.v v)) ∧ v ≠ .bool b) ∨ ∃ us, σ t = .tup us) (hd : o.dst = some d) (hn : gF K d = true) : fH P K ops i σ (put σ d Al) := by
 intro a w h1; unfold wpOp; rw [h]; simp only; obtain ⟨Fs, hs⟩ := h1; have h2 := Am hj (hs.rep t) ht; rw [if_neg (by simpa [Region.wanted, hg] using h2)]; rw [hd]; exact ⟨_, hs.put hn (bU.refl w _) (by simp) List.nodup_nil (.tup (arr := #[]) .nil)⟩
def Lj (P : Program) (K : Ctx) (ops : Array Oper) (i : Nat) (σ : St) (d : Nat) : Option T :=
  match ops[i]? with
  | some o => match o.guard with
    | some (j, b) => match (ops[j]?).bind (·.dst) with
      | some t => match σ t with
        | .u (.c (.v (.bool c))) => (match o.dst with
          | some d' => if Nat.beq d' d && gF K d then (match b, c with
            | true, true | false, false => match uQ K.ET σ o.op with
              | some t => if refs t d then none else some t
              | none => match sJ P K σ o d with
                | some t => some t
                | none => match o4 P σ o d with
                  | some t => some t
                  | none => EB P K σ o
            | _, _ => some Al)
            else none
          | none => none)
        | .tup _ => (match o.dst with
          | some d' => if Nat.beq d' d && gF K d then some Al else none
          | none => none)
        | _ => none
      | none => none
    | none => SM P K ops i σ d
  | none => none
theorem Lk {i : Nat} {t : T} (h : Lj P K ops i σ d = some t) : fH P K ops i σ (put σ d t) := by
 unfold Lj at h; split at h
 · rename_i o ho; split at h
   · rename_i j b hg; split at h
     · rename_i tt hj; split at h
       · rename_i c ht; split at h
         · rename_i d' hd; split at h
           · rename_i hb; simp only [Bool.and_eq_true] at hb; obtain ⟨uz, de⟩ := hb; have : d' = d := Nat.eq_of_beq_eq_true uz; subst this
             have key : ∀ t : T, (match uQ K.ET σ o.op with
                 | some t => if refs t d' = true then none else some t
                 | none => match sJ P K σ o d' with
                   | some t => some t
                   | none => match o4 P σ o d' with
                     | some t => some t
                     | none => EB P K σ o) = some t → Step P K σ o (put σ d' t) := by
               intro t h
               split at h
               · rename_i t' hp
                 split at h
                 · cases h
                 · rename_i hr
                   cases h
                   exact QH hp hd de (by simpa using hr)
               · split at h
                 · rename_i t' hp
                   cases h
                   exact uR hp hd de
                 · split at h
                   · rename_i t' hp
                     cases h
                     exact sK hp hd de
                   · exact BY h hd de
             split at h
             · exact Ak ho hg hj ht (key _ h)
             · exact Ak ho hg hj ht (key _ h)
             · rename_i h1 h2; injection h with h; subst h; refine EA ho hg hj (.inl ⟨_, ht, fun e => ?_⟩) hd de; injection e with e; subst e; cases c <;> first | exact (h1 rfl rfl).elim | exact (h2 rfl rfl).elim
           · cases h
         · cases h
       · rename_i u ht; split at h
         · rename_i d' hd; split at h
           · rename_i hb; simp only [Bool.and_eq_true] at hb; obtain ⟨uz, de⟩ := hb; have : d' = d := Nat.eq_of_beq_eq_true uz; subst this; injection h with h; subst h; exact EA ho hg hj (.inr ⟨_, ht⟩) hd de
           · cases h
         · cases h
       · cases h
     · cases h
   · exact SN h
 · cases h
theorem kN {j : Nat} {t t' : T} (h : fH P K ops j σ (put σ d t)) (e : t = t') : fH P K ops j σ (put σ d t') := by subst e; exact h
theorem bN {j : Nat} {t t' : T} (h : Lj P K ops j σ d = some t) (e : t = t') : fH P K ops j σ (put σ d t') := by subst e; exact Lk h
def Oc (P : Program) (K : Ctx) (ops : Array Oper) : Nat → List Nat → St → Bool
  | _, [], _ => true
  | j, d :: ds, σ => match Lj P K ops j σ d with
    | some t => Oc P K ops (j + 1) ds (put σ d t)
    | none => false
def Od (P : Program) (K : Ctx) (ops : Array Oper) : Nat → List Nat → St → St
  | _, [], σ => σ
  | j, d :: ds, σ => Od P K ops (j + 1) ds (put σ d ((Lj P K ops j σ d).getD .junk))
theorem c_g {ds : List Nat} : ∀ {j : Nat} {σ : St}, Oc P K ops j ds σ = true → gR P K ops j ds.length σ (Od P K ops j ds σ) := by
 induction ds with
 | nil => intro j σ _; exact .nil
 | cons d ds ih =>
  intro j σ h; simp only [Oc] at h; split at h
  · rename_i t ht; simp only [Od, ht, Option.getD_some]; exact .cons (Lk ht) (ih h)
  · cases h
theorem rD {f : FuncId} : jo K σ (.value (.func f)) f [] :=  .func
theorem bV {args : Array Operand} {tys : Array TypeId} {f : FuncId} {ins : List U} {hs : List (Option o5)} {outs : List (Option U)} {res : List U} (hac : HF K P f ins outs res) (hf : CX P f) (ho : o.op = .call { callee := .value (.func f), args := args, argTypes := tys })
    (hA : jm (uA K σ') σ args.toList ins hs σ') (hok : eo hs outs = true) (hd : HG K o.dst = true) : Step P K σ o (sL (back hs outs (fun j => cE (σ' j))) o.dst (q8 res)) :=
  HH (caps := []) ho hf rD hA (by simpa using hac) hok hd
theorem ct {args : Array Operand} {tys : Array TypeId} {f : FuncId} {ins : List U} {outs : List (Option U)} {res : List U} (hac : HF K P f ins outs res) (hf : CX P f) (ho : o.op = .call { callee := .value (.func f), args := args, argTypes := tys })
    (hA : Hs (uA K σ) args.toList ins) (hd : HG K o.dst = true) : Step P K σ o (sL σ o.dst (q8 res)) :=
  HI (caps := []) ho hf rD hA (by simpa using hac) hd
def oy (σ : St) (pins : List Nat) : Nat → List (Option U) → Prop
  | _, [] => True
  | i, none :: l => oy σ pins (i + 1) l
  | i, some u :: l => (σ i = .u u ∧ pins.contains i = true) ∧ oy σ pins (i + 1) l
theorem HJ {pins : List Nat} {l : List (Option U)} : ∀ {k : Nat}, oy σ pins k l → ∀ (i : Nat) (u : U), l[i]? = some (some u) → σ (k + i) = .u u ∧ pins.contains (k + i) = true := by
 induction l with
 | nil => intro k _ i u h; simp at h
 | cons x l ih =>
  intro k h i u hi
  cases i with
  | zero =>
   simp only [List.getElem?_cons_zero, Option.some.injEq] at hi; subst hi; exact h.1
  | succ i =>
   have h2 : oy σ pins (k + 1) l := by
    cases x with
    | none => exact h
    | some u => exact h.2
   have := ih h2 i u (by simpa using hi); rw [show k + (i + 1) = k + 1 + i by omega]; exact this
theorem aE {pins : List Nat} {l : List (Option U)} (h : oy σ pins 0 l) : ∀ (i : Nat) (u : U), l[i]? = some (some u) → σ i = .u u ∧ pins.contains i = true := by
 intro i u hi; have := HJ h i u hi; rwa [Nat.zero_add] at this
theorem cz {pins : List Nat} {n : Nat} (h : pins.all (fun i => Nat.blt i n) = true) : ∀ i, pins.contains i = true → i < n := by
 intro i hi; have := List.all_eq_true.mp h i (by simpa using hi); exact Nat.lt_of_succ_le (by simpa [Nat.blt] using this)
theorem bg {AR : Operand → U → Prop} {i r : Nat} {own : Bool} {c : C} {cs : List C} {xs : List Operand} {us : List U} {hs : List (Option o5)} (h : cR i (σ i) = .addr r .d [] 0) (hr : σ r = .u (.c c)) (hc : c = .pt own cs) (t : jm AR (dn σ r .junk) xs us hs σ') : jm AR σ (.tmp i :: xs) (.c c :: us) (some (r, none, c) :: hs) σ' := by
 subst hc; exact .hand (.ptr h hr) hr rfl rfl t
theorem HL {j m : Nat} {ds : List Nat} {σ2 : St} (k : Nat) (hk : j + ds.length = k) (h : Oc P K ops j ds σ = true) (t : gR P K ops k m (Od P K ops j ds σ) σ2) : gR P K ops j (ds.length + m) σ σ2 := by
 subst hk; exact (c_g h).app t
theorem HM {j m : Nat} {σ1 σ2 : St} (k : Nat) (hk : j + 1 = k) (h : fH P K ops j σ σ1) (t : gR P K ops k m σ1 σ2) : gR P K ops j (m + 1) σ σ2 := by
 subst hk; exact .cons h t
theorem sM {α : Type} {c : Code} {Q : Exit → St → Prop} (F : α → List (Nat × T)) {x y : α} (e : x = y) (h : fX P K c (St.of (F y)) Q) : fX P K c (St.of (F x)) Q := by subst e; exact h
end
end Go.Proofs.Ytmjnenjeckeklaa.V
namespace Go.Proofs.Ytmjnenjeckeklaa.V
open Go Go.RowKit
section
variable {P : Program} {ET : TypeId} {w w' : World} {R : Nat → Prop} {K : Ctx} {σ σ' : St} {a : Act} {Fs : Nat → List Nat} {o : Oper} {d : Nat} {ops : Array Oper}
theorem b7 {i : Nat} {us : List U} (ho : o.op = .move (.tmp i) ∨ o.op = .assign (.tmp i)) (hi : σ i = .tup us) (hd : o.dst = some d) (hn : gF K d = true) : Step P K σ o (put (dn σ i .junk) d (.tup us)) := by
 rintro a w ⟨Fs, hs⟩; have h1 := hs.rep i; rw [hi] at h1
 have hrun : (execOp a.eval o).run P w = .ok (.value (a.eval (.tmp i))) w := by
  rcases ho with ho | ho <;> simp [execOp, ho, pure]
 simp only [Oper.wp, hrun, Oper.upon_value, hd]; have h2 := hs.out i; refine ⟨_, h2.jS hn (bU.refl _ _) (F := Fs i) (fun b hb => ⟨fun j hj => ?_, hs.own i b hb⟩) (hs.nd i) ?_⟩
 · unfold dK at hj; split at hj
   · cases hj
   · rename_i hne; exact hne (hs.dis j i b hj hb)
 · rw [eL]; generalize a.tmps.getD i undef = v at h1 ⊢; generalize Fs i = F at h1 ⊢
   cases h1 with
   | tup h => exact .tup h
theorem e_g {t : T} {s : Spec} {j : Nat} (hc : Clear s σ) (hf : s.fresh = some d) (ha : s.asg = [(d, t)]) (h : Lj P K ops j σ d = some t) : fH P K ops j σ (over σ s.asg) := bh hc hf ha (Lk h)
theorem gu {A : List (Nat × T)} {i : Nat} : over σ A i = (A.lookup i).getD (σ i) := rfl
theorem fP {l : List Nat} {i : Nat} : (l.map fun j => (j, T.junk)).lookup i = if l.contains i then some .junk else none := by
 induction l with
 | nil => rfl
 | cons j l ih =>
  simp only [List.map_cons, List.lookup_cons, ih]; by_cases h : i = j
  · subst h; simp
  · have h1 : (i == j) = false := by simpa using h
    rw [h1]; simp [h, Ne.symm h]
theorem fD {l : List Nat} {t : T} {s : Spec} (hc : Clear s σ) (hf : s.fresh = some d) (ha : s.asg = (d, t) :: l.map fun j => (j, .junk) := by rfl) : put (cn σ l) d t = over σ ((d, t) :: l.map fun j => (j, .junk)) := by
 funext i; rw [gu, List.lookup_cons]; unfold put cn; by_cases hi : i = d
 · subst hi; simp
 · have h1 : (i == d) = false := by simpa using hi
   rw [h1, if_neg hi, fP]; simp only; by_cases h3 : l.contains i = true
   · simp only [h3, if_true, Option.getD_some]; rfl
   · have h4 : l.contains i = false := by simpa using h3
     have h2 := hc.ref hf hi (by rw [ha, List.lookup_cons, h1]; simp only; rw [fP, h4]; simp); simp only [h4, Bool.false_eq_true, if_false, Option.getD_none]; unfold me; rw [h2]; simp
theorem gr {l : List Nat} {r : Nat} {t : T} : dn (cn σ l) r t = over σ ((r, t) :: l.map fun j => (j, .junk)) := by
 funext i; rw [gu, List.lookup_cons]; unfold dn cn; by_cases hi : i = r
 · subst hi; simp
 · have h1 : (i == r) = false := by simpa using hi
   rw [h1, if_neg hi, fP]; simp only; by_cases h3 : l.contains i = true
   · simp only [h3, if_true, Option.getD_some]
   · have h4 : l.contains i = false := by simpa using h3
     simp only [h4, Bool.false_eq_true, if_false, Option.getD_none]
theorem je {l : List Nat} {r : Nat} {t : T} {s : Spec} (hc : Clear s σ) (hd : s.deep = true) (ha : s.asg = (r, t) :: l.map fun j => (j, .junk)) : dn (fun j => cE (cn σ l j)) r t = over σ s.asg := by
 rw [ha, ← gr]; funext i; unfold dn; split
 · rfl
 · rename_i hi; unfold cn; simp only; by_cases hl : l.contains i = true
   · simp only [hl, if_true]; rfl
   · have hl : l.contains i = false := by simpa using hl
     simp only [hl, Bool.false_eq_true, if_false]; have h1 := hc.2 hd i
     cases h : lJ (σ i) with
     | false =>
      revert h; generalize σ i = x; intro h
      cases x with
      | addr r s p off => cases p with
        | nil => rfl
        | cons _ _ => cases h
      | view r pl sz lo n => cases pl with
        | none => rfl
        | some _ => cases h
      | whole r pl sz n => cases pl with
        | none => rfl
        | some _ => cases h
      | _ => rfl
     | true =>
      have h2 := h1 h; rw [ha] at h2; unfold has at h2; rw [List.lookup_cons, show (i == r) = false by simpa using hi, fP] at h2; simp only [hl] at h2; cases h2
theorem l8 {i : Nat} {t y : T} {s : Spec} (hc : Clear s σ) (hf : s.fresh = some d) (hy : refs y d = false) (ha : s.asg = [(d, t), (i, y)] := by rfl) : put (dn σ i y) d t = over σ [(d, t), (i, y)] := by
 funext j; rw [gu, List.lookup_cons]; unfold put dn; by_cases hj : j = d
 · subst hj; simp
 · have h1 : (j == d) = false := by simpa using hj
   rw [h1, if_neg hj]; unfold me; by_cases h3 : j = i
   · subst h3; simp [List.lookup, hy]
   · have h4 : (j == i) = false := by simpa using h3
     have h2 := hc.ref hf hj (by rw [ha]; simp [List.lookup_cons, h1, h4]); simp [List.lookup, h3, h4, h2]
theorem jd {s : Spec} {j : Nat} (h : fH P K ops j σ σ') (he : σ' = over σ s.asg) : fH P K ops j σ (over σ s.asg) := he ▸ h
theorem dQ {id : Nat} {Q : Exit → St → Prop} {tab : List (List Nat)} {l0 l : List (Nat × T)} (S : List Spec) (hm : P.follows .mixedOrders = true) (hT : Region.tabAfter .any ops = tab) (hc : Gd tab S = true) (h0 : UJ l0 S = true)
    (hst : wz (fun j s => ∀ σ, Clear s (over σ (gS S (St.of l0) s)) → fH P K ops j (over σ (gS S (St.of l0) s)) (over (over σ (gS S (St.of l0) s)) s.asg)) 0 S) (hl : at_ (Gf S (St.of l0)) l = l) (hq : Q .normal (St.of l)) : fX P K (.region id ops true) (St.of l0) Q := by
 refine PL S hm hT hc (fun s hs => ?_) hst (au hl) hq; have h1 := List.all_eq_true.mp h0 s hs; simp only [Bool.and_eq_true] at h1
 have key : ∀ t, (∃ p ∈ l0, p.1 = t ∧ p.2 = St.of l0 t) ∨ St.of l0 t = .junk := by
  intro t; unfold St.of
  cases hl : l0.lookup t with
  | none => exact .inr rfl
  | some y => exact .inl ⟨_, hU hl, rfl, rfl⟩
 refine ⟨fun d hd t ht hrf => ?_, fun hdp t ht => ?_⟩
 · rcases key t with ⟨p, hp, rfl, e⟩ | e
   · have h2 := h1.1; rw [hd] at h2; have h3 := List.all_eq_true.mp h2 p hp; simp only [Bool.or_eq_true, beq_iff_eq, Bool.not_eq_true'] at h3; rcases h3 with (h3 | h3) | h3
     · exact absurd h3 ht
     · rw [← e, h3] at hrf; cases hrf
     · exact KP h3
   · rw [e] at hrf; cases hrf
 · rcases key t with ⟨p, hp, rfl, e⟩ | e
   · have h2 := h1.2; rw [hdp] at h2; simp only [Bool.not_true, Bool.false_or] at h2; have h3 := List.all_eq_true.mp h2 p hp; simp only [Bool.or_eq_true, Bool.not_eq_true'] at h3; rcases h3 with h3 | h3
     · rw [← e, h3] at ht; cases ht
     · exact h3
   · rw [e] at ht; cases ht
def Qs (P : Program) (t : TypeId) : Option (List Value) := match P.underlying t with
  | some (.slice e) => CG P e
  | _ => none
theorem sH {t sz bytes : Nat} {vs : List Value} {zs : List C} (h : UK P t sz bytes = true) (hv : Qs P t = some vs) (hl : vs.length = sz) (hr : ∀ ET w R, bG ET w R vs zs []) : gl P t sz bytes zs := by
 obtain ⟨e, i, h1, h2, h3, h4, h5⟩ := ou h; unfold Qs at hv; rw [h1] at hv; simp only [CG, h2] at hv; split at hv
 · rename_i z hz; injection hv with hv; subst hv; exact ⟨e, i, z, h1, h2, h3, h4, h5, hz, by simpa using hl, hr⟩
 · cases hv
end
end Go.Proofs.Ytmjnenjeckeklaa.V
namespace Go.Proofs.Ytmjnenjeckeklaa.V
open Go Go.RowKit
def M1 (K : Ctx) (P : Program) (b t : Nat) (outs : List (Option U)) (cs : List C) (e : Exit) (σ : St) : Prop :=
  (e = .normal ∨ e = .ret) ∧ σ b = .u (.c (.pt true cs)) ∧ wo P t cs.length ∧ ∀ (i : Nat) (u : U), outs[i]? = some (some u) → dn σ b .junk i = .u u ∧ K.pins.contains i = true
section
variable {P : Program} {ET : TypeId} {w w' : World} {R : Nat → Prop} {K : Ctx} {σ σ' : St} {a : Act} {Fs : Nat → List Nat}
theorem zR {fn : Func} {b t blk : Nat} {arr : Array Value} {et : TypeId} (h : fn.results = #[.cell b t]) (tmps : Array Value) (w : World) (hp : tmps.getD b undef = .pointer (some ⟨blk, 0, none⟩)) (hb : w.heap[blk]? = some (.cells arr et (0, 0))) (ht : wo P t arr.size) :
    (results fn tmps).run P w = .ok (.agg arr) w := by
 have h1 := kO (P := P) (w := w) ht hb (o := 0) (by omega); rw [List.drop_zero, ← Array.length_toList, List.take_length] at h1; simp only [Instr.loadAt, Instr.sureAddr, Sem.run_bind, Sem.run_pure, Result.andThen_ok] at h1; unfold results; rw [h]; rw [Array.getD_eq_getD_getElem?] at hp; simp [hp, asAddr, h1, Result.andThen]
theorem tQ {T : (Nat → Prop) → World → Prop} {f : FuncId} {fn : Func} {c : Code} {ins : List U} {outs : List (Option U)} {cs : List C} {b t : Nat} {n : Nat} {pins : List Nat} (hf : P.funcs[f]? = some fn) (hb : fn.body = some c) (hn : fn.ntmps = n) (hr : fn.results = #[.cell b t]) (hin : ins.length ≤ n) (hpin : ∀ i, pins.contains i = true → i < ins.length) (hout : outs.length = ins.length)
    (h : ∀ (w : World) (R : Nat → Prop) (E : List Nat) (vs : Nat → Value), T R w → fX P ⟨ET, w, R, E, n, pins, vs⟩ c (mg ins) (M1 ⟨ET, w, R, E, n, pins, vs⟩ P b t outs cs)) : Oz T P ET f ins outs [.agg cs] := by
 intro R w vs F hT hrep hnd hR hRlt; obtain ⟨Fs, f1, f2, f3, f4, f5⟩ := hrep.fs hnd; have hlen := hrep.len
 have htm : ∀ i, i < vs.length → (vs.toArray ++ Array.replicate (fn.ntmps - vs.toArray.size) undef).getD i undef = vs.getD i undef := by
  intro i hi; simp [Array.getD_eq_getD_getElem?, List.getD_eq_getElem?_getD, Array.getElem?_append, hi]
 refine calls_of_wp hf hb ?_
 have hs : lz ⟨ET, w, R, F, n, pins, fun i => vs.getD i undef⟩ (mg ins) { tmps := vs.toArray ++ Array.replicate (fn.ntmps - vs.toArray.size) undef, defers := [] } w := by
  refine ⟨Fs, ?_, f3, f4, fun i b hb => ⟨hR b (f5 i b hb), .inl (f5 i b hb)⟩, bU.refl w F, fun b hb => ⟨hRlt b hb, fun h => hR b h hb⟩, by simp [hn, hlen]; omega, fun i hi => htm i (by rw [hlen]; exact hpin i hi), rfl⟩; intro i; unfold mg
  cases hu : ins[i]? with
  | none =>
   have : ins.length ≤ i := by
    rcases Nat.lt_or_ge i ins.length with h | h
    · rw [List.getElem?_eq_getElem h] at hu; cases hu
    · exact h
   rw [f2 i this]; exact .junk _
  | some u =>
   obtain ⟨x, hx, hru⟩ := f1 i u hu
   have hi : i < vs.length := by
    rcases Nat.lt_or_ge i vs.length with h | h
    · exact h
    · rw [List.getElem?_eq_none h] at hx; cases hx
   simp only; rw [htm i hi, List.getD_eq_getElem?_getD, hx]; exact .u hru
 refine wp_mono (h w R F (fun i => vs.getD i undef) hT _ _ hs) ?_; rintro e a' w' ⟨σ, ⟨rH, hsim⟩, he, hσ, hagg, houts⟩; have xp := hsim.out b
 obtain ⟨H, OV, OW, KB⟩ := tE (ET := ET) (w := w') (R := R) (outs := outs) (vs := vs) (Fs := dK rH b []) (k := 0) (by rw [hout, hlen]) (fun i u hi => by
  obtain ⟨h1, h2⟩ := houts i u hi; have h3 := xp.rep i; rw [h1] at h3; have h4 := xp.pin i h2; have hi2 : i < vs.length := by rw [hlen]; exact hpin i h2
  simp only at h4; rw [h4] at h3; refine ⟨vs.getD i undef, by rw [List.getD_eq_getElem?_getD, List.getElem?_eq_getElem hi2]; rfl, ?_⟩; rw [Nat.zero_add]; generalize dK rH b [] i = F3 at h3; generalize vs.getD i undef = v at h3 ⊢
  cases h3 with | u h => exact h)
 have hfin : ∃ v, (results fn a'.tmps).run P w' = .ok v w' ∧ ∃ rv H1 H2, Ending.returned v = .returned rv ∧ ko ET w' R vs outs H1 ∧ kz ET w' R rv [.agg cs] H2 ∧ (H1 ++ H2).Nodup ∧ (∀ b ∈ H1 ++ H2, b ∈ F ∨ w.heap.size ≤ b) ∧ bU w F w' := by
  have h1 := hsim.rep b; rw [hσ] at h1; have jU := hsim.nd b; have hdis := fun j x (hj : j ≠ b) (hx : x ∈ rH b) (hx2 : x ∈ rH j) => hj (hsim.dis j b x hx2 hx); have hown := hsim.own b; generalize hv : a'.tmps.getD b undef = v at h1; generalize hFb : rH b = Fb at h1 jU hdis hown
  cases h1 with
  | u h1 => cases h1 with
    | c h1 => cases h1 with
      | @pt blk own arr et cs F1 F' hbk eY ho =>
        rcases ho with ⟨_, rfl⟩ | ⟨h, _⟩
        · have hsz : arr.size = cs.length := by rw [← eY.length]; simp
          obtain ⟨n1, n2⟩ := List.nodup_cons.mp jU
          refine ⟨_, zR hr a'.tmps w' hv hbk (by rw [hsz]; exact hagg), _, H, F1, rfl, OV, .one (.agg eY), ?_, ?_, hsim.keeps⟩
          · rw [List.nodup_append]
            refine ⟨OW xp.nd xp.dis, n2, fun x hx y hy e => ?_⟩
            subst e
            obtain ⟨j, _, hj⟩ := KB x hx
            unfold dK at hj
            split at hj
            · cases hj
            · rename_i hne
              exact hdis j x hne (List.mem_cons_of_mem _ hy) hj
          · intro x hx
            rcases List.mem_append.mp hx with hx | hx
            · obtain ⟨j, _, hj⟩ := KB x hx
              exact (xp.own j x hj).2
            · exact (hown x (List.mem_cons_of_mem _ hx)).2
        · cases h
 rcases he with rfl | rfl
 · exact ⟨hsim.defers, hfin⟩
 · exact ⟨hsim.defers, hfin⟩
theorem DJ {f : FuncId} {fn : Func} {c : Code} {ins : List U} {outs : List (Option U)} {cs : List C} {b t : Nat} {n : Nat} {pins : List Nat} (hf : P.funcs[f]? = some fn) (hb : fn.body = some c) (hn : fn.ntmps = n) (hr : fn.results = #[.cell b t]) (hin : ins.length ≤ n) (hpin : ∀ i, pins.contains i = true → i < ins.length) (hout : outs.length = ins.length)
    (h : ∀ (w : World) (R : Nat → Prop) (E : List Nat) (vs : Nat → Value), fX P ⟨ET, w, R, E, n, pins, vs⟩ c (mg ins) (M1 ⟨ET, w, R, E, n, pins, vs⟩ P b t outs cs)) : AC P ET f ins outs [.agg cs] :=
  fun R w vs F => tQ (T := fun _ _ => True) hf hb hn hr hin hpin hout (fun w R E vs _ => h w R E vs) R w vs F trivial
theorem Cy {b t : Nat} {outs : List (Option U)} {cs : List C} {e : Exit} (he : e = .normal ∨ e = .ret) (h1 : σ b = .u (.c (.pt true cs))) (h2 : FF P t cs.length = true) (h3 : oy (dn σ b .junk) K.pins 0 outs) : M1 K P b t outs cs e σ := ⟨he, h1, jZ h2, aE h3⟩
theorem kU {α : Type} {f : α → List C} {t i r n k sz off : Nat} {s : ef} {p : List (Nat × ef)} {c c' : C} {cs us : List C} {x : Operand} {u : U} {o : Oper} (ho : o.op = .store t (.tmp i) x) (ht : (P.info? t).map (·.size) = some n) (hi : cR i (σ i) = .addr r s p off) (hx : gp K.ET σ x = .u u) (hc : nU u = true) (hr : σ r = .u (.c c)) (hg : gK c s p = some cs)
    (hown : nM c s p = true) (hu : ff u = us) (hn : us.length = n) (hle : off + n ≤ cs.length) (hlv : oY us = true) (hsc : ((cs.drop off).take n).all nx = true) (hlu : oh u = true) (hd : o.dst = none) (e : iH c s p (cs.take off ++ (us ++ cs.drop (off + n))) = c') : Step P K σ o (dn σ r (.u (.c c'))) := by
 subst e; exact iA ho ht hi hx hc hr hg hown hu hn hle hlv hsc hlu hd
theorem sR {x : T} (h : lJ x = false) : cE x = x := by
 cases x with
 | addr r s p off => cases p with
   | nil => rfl
   | cons _ _ => cases h
 | view r pl sz lo n => cases pl with
   | none => rfl
   | some _ => cases h
 | whole r pl sz n => cases pl with
   | none => rfl
   | some _ => cases h
 | _ => rfl
theorem C5 {i d : Nat} {t : T} {s : Spec} (hc : Clear s σ) (hf : s.fresh = some d) (hd : s.deep = true) (ha : s.asg = [(d, t), (i, .junk)]) : put (fun j => cE (dn σ i .junk j)) d t = over σ s.asg := by
 rw [ha]; funext j; rw [gu, List.lookup_cons]; unfold put; by_cases hj : j = d
 · subst hj; simp
 · have h1 : (j == d) = false := by simpa using hj
   rw [h1, if_neg hj]; unfold dn; by_cases h3 : j = i
   · subst h3; simp only [if_true, List.lookup_cons, beq_self_eq_true, Option.getD_some]; rfl
   · have h4 : (j == i) = false := by simpa using h3
     simp only [if_neg h3, List.lookup_cons, h4, List.lookup_nil, Option.getD_none]
     have h5 : lJ (σ j) = false := by
      cases h : lJ (σ j) with
      | false => rfl
      | true =>
       have h6 := hc.2 hd j h; rw [ha] at h6; simp [has, List.lookup_cons, h1, h4] at h6
     rw [sR h5]; unfold me; rw [hc.ref hf hj (by rw [ha]; simp [List.lookup_cons, h1, h4])]; simp
theorem iD {α : Type} {f : α → List C} {xs : List α} (h : ∀ x, (f x).all mL = true) : ∀ r ∈ xs.map f, r.all mL = true := by
 intro r hr; obtain ⟨x, _, rfl⟩ := List.mem_map.mp hr; exact h x
end
end Go.Proofs.Ytmjnenjeckeklaa.V
namespace Go.Proofs.Ytmjnenjeckeklaa.V
open Go Go.RowKit
section
variable {P : Program} {ET : TypeId}
theorem AC.KZ {f : FuncId} {ins : List U} {outs : List (Option U)} {b : Bool} {vals : List Value} (h : AC P ET f ins outs [.c (.v (.bool b))]) {w : World} {R : Nat → Prop} (hv : dO ET w R vals ins []) (hR : ∀ x, R x → x < w.heap.size) :
    Calls P f vals.toArray w fun e w' => e = .returned (.bool b) ∧ Below w.heap.size w w' := by
     refine (h R w vals [] hv List.nodup_nil (by simp) hR).mono ?_; rintro e w' ⟨rv, H1, H2, rfl, _, hr, _, _, hk⟩; refine ⟨?_, hk.below⟩
     cases hr with
     | one hr =>
      cases hr with
      | c hr => cases hr with
        | v _ => rfl
     | many hl _ => exact absurd rfl hl
end
end Go.Proofs.Ytmjnenjeckeklaa.V
namespace Go.Proofs.Ytmjnenjeckeklaa.V
open Go
theorem Da {P : Program} {fits : TypeId → Bool} {d : Nat} {e : TypeId} {count off n : Nat} (h : rowAt P fits d e count off n = true) : off ≤ count * P.cellsOf e := by
 cases d with
 | zero => simp [rowAt] at h
 | succ d =>
  rw [rowAt] at h; by_cases hs : P.cellsOf e = 0
  · simp [hs] at h
  · simp only [hs, if_false, Bool.or_eq_true, Bool.and_eq_true, beq_iff_eq, decide_eq_true_eq] at h; have hd := Nat.div_add_mod off (P.cellsOf e); rw [Nat.mul_comm] at hd; rcases h with ⟨⟨hr, hi⟩, _⟩ | ⟨hi, _⟩
    · have := Nat.mul_le_mul_right (P.cellsOf e) (show off / P.cellsOf e ≤ count by omega); omega
    · have h1 := Nat.mul_le_mul_right (P.cellsOf e) (show off / P.cellsOf e + 1 ≤ count by omega); rw [Nat.add_mul, Nat.one_mul] at h1; have := Nat.mod_lt off (show 0 < P.cellsOf e by omega); omega
theorem Ay {P : Program} : ∀ (d : Nat) {e u : TypeId} {count off n : Nat}, liesAt P d e count off u n = true → off ≤ count * P.cellsOf e := by
 intro d
 induction d with
 | zero => intro e u count off n h; simp [liesAt] at h
 | succ d ih =>
  intro e u count off n h; rw [liesAt] at h; simp only [Bool.or_eq_true] at h; rcases h with h | h
  · exact Da h
  · split at h
    · exact ih h
    · cases h
def iW {α : Type} (P : Program) (t : TypeId) (sz : Nat) (vals : α → List Value) (wf : α → Prop) : Prop :=
  (∀ a, (vals a).length = sz ∧ ∀ v ∈ vals a, iB v = true) ∧
  ∀ (H : Type) (enc : TypeId × Value → H) (w : World) (sp : Nat → Bool) (held : Bool) (n : Nat) (cs : List Value) (x : DataW H × List MemPlace), DataW.trod enc P w 0 sp held n t cs = some x → ∃ a, cs = vals a ∧ wf a
theorem iW.int {P : Program} {t : TypeId} {k : IntKind} (ht : P.underlying t = some (.int k)) : iW P t 1 (fun a => [.int k a]) (fun a => (Lit.int k a).wf = true) :=
  ⟨fun a => ⟨rfl, by simp [iB]⟩, fun H enc w sp held n cs x h => by
    obtain ⟨m, rfl, _, hw⟩ := DataW.trod_int ht h
    exact ⟨m, rfl, hw⟩⟩
theorem iW.bool {P : Program} {t : TypeId} (ht : P.underlying t = some .bool) : iW P t 1 (fun a => [.bool a]) (fun _ => True) :=
  ⟨fun a => ⟨rfl, by simp [iB]⟩, fun H enc w sp held n cs x h => by
    obtain ⟨m, rfl, _⟩ := DataW.trod_bool ht h
    exact ⟨m, rfl, trivial⟩⟩
def iX {α : Type} (P : Program) (fs : List Field) (off sz : Nat) (vals : α → List Value) (wf : α → Prop) : Prop :=
  (∀ a, (vals a).length = sz ∧ ∀ v ∈ vals a, iB v = true) ∧
  ∀ (H : Type) (enc : TypeId × Value → H) (w : World) (sp : Nat → Bool) (held : Bool) (n : Nat) (cs : List Value), cs.length = off + sz → (∀ (i : Nat) (f : Field), fs[i]? = some f → ∃ y, DataW.trod enc P w 0 sp held n f.type ((cs.drop f.offset).take (P.cellsOf f.type)) = some y) → ∃ a, cs.drop off = vals a ∧ wf a
section
variable {P : Program} {α β : Type} {wf : α → Prop} {wf' : β → Prop}
theorem iX.last (f : Field) (off sz : Nat) {vals : α → List Value} (h : iW P f.type sz vals wf) (ho : f.offset = off) (hc : P.cellsOf f.type = sz) : iX P [f] off sz vals wf :=
  ⟨h.1, fun H enc w sp held n cs hl hall => by
    obtain ⟨y, hy⟩ := hall 0 f rfl
    rw [ho, hc, List.take_of_length_le (by rw [List.length_drop]; omega)] at hy
    exact h.2 H enc w sp held n _ y hy⟩
theorem iX.cons (f : Field) (fs : List Field) (off sz sz' : Nat) {vals : α → List Value} {vals' : β → List Value} (h : iW P f.type sz vals wf) (ho : f.offset = off) (hc : P.cellsOf f.type = sz) (hs : iX P fs (off + sz) sz' vals' wf') : iX P (f :: fs) off (sz + sz') (fun a : α × β => vals a.1 ++ vals' a.2) (fun a => wf a.1 ∧ wf' a.2) :=
  ⟨fun a => ⟨by rw [List.length_append, (h.1 a.1).1, (hs.1 a.2).1], fun v hv => (List.mem_append.mp hv).elim ((h.1 a.1).2 v) ((hs.1 a.2).2 v)⟩, fun H enc w sp held n cs hl hall => by
    obtain ⟨y, hy⟩ := hall 0 f rfl
    rw [ho, hc] at hy
    obtain ⟨a, ha, wa⟩ := h.2 H enc w sp held n _ y hy
    obtain ⟨b, hb, wb⟩ := hs.2 H enc w sp held n cs (by omega) (fun i g hg => hall (i + 1) g (by simpa using hg))
    refine ⟨(a, b), ?_, wa, wb⟩
    show cs.drop off = vals a ++ vals' b
    rw [← ha, ← hb, show cs.drop (off + sz) = (cs.drop off).drop sz by rw [List.drop_drop]]
    exact (List.take_append_drop sz (cs.drop off)).symm⟩
theorem iW.struct {t : TypeId} {sz : Nat} {vals : α → List Value} {fs : Array Field} (ht : P.underlying t = some (.struct fs)) (h : iX P fs.toList 0 sz vals wf) (hc : P.cellsOf t = sz) : iW P t sz vals wf :=
  ⟨h.1, fun H enc w sp held n cs x hx => by
    obtain ⟨xs, m, _, _, hl, hlen, hf⟩ := DataW.trod_struct ht hx
    have := h.2 H enc w sp held m cs (by omega) (fun i f hi => by
      have hi' : fs[i]? = some f := by simpa using hi
      have h1 := hf i f hi'
      have hlt : i < xs.length := by
       have := (Array.getElem?_eq_some_iff.1 hi').1; omega
      rw [List.getElem?_eq_getElem hlt] at h1
      exact ⟨_, h1⟩)
    simpa using this⟩
theorem iW.N3 {t : TypeId} {sz : Nat} {vals : α → List Value} (h : iW P t sz vals wf) (g : α → β) (f : β → α) (hfg : ∀ a, f (g a) = a) : iW P t sz (fun b => vals (f b)) (fun b => wf (f b)) :=
  ⟨fun b => h.1 (f b), fun H enc w sp held n cs x hx => by
    obtain ⟨a, ha, wa⟩ := h.2 H enc w sp held n cs x hx
    exact ⟨g a, by show cs = vals (f (g a)); rw [hfg]; exact ha, by show wf (f (g a)); rw [hfg]; exact wa⟩⟩
end
theorem bG.EU {ET : TypeId} {w : World} {R : Nat → Prop} : ∀ {vs : List Value}, (∀ v ∈ vs, iB v = true) → bG ET w R vs (vs.map C.v) []
  | [], _ => .nil
  | v :: vs, h => .cons (F := []) (G := []) (.v (h v (List.mem_cons_self ..))) (bG.EU fun x hx => h x (List.mem_cons_of_mem _ hx))
theorem Hu {P : Program} {ET : TypeId} {α : Type} {H : Type} {enc : TypeId × Value → H} {W : World} {base : Nat} {t e : TypeId} {sz : Nat} {v : Value} {x : DataW H × List MemPlace} {vals : α → List Value} {wf : α → Prop} {held : Bool}
    (ht : P.underlying t = some (.slice e)) (fit : iW P e sz vals wf) (hc : P.cellsOf e = sz) (hsz : 0 < sz) (hv : Value.okWide P W .any base t v) {fuel : Nat} (h : DataW.trod enc P W 0 (fun _ => true) held fuel t [v] = some x) :
    ∃ l : List α, bP ET W (fun b => b < W.heap.size) v (.sl false sz (l.map fun a => (vals a).map C.v)) [] ∧ l.length ≤ maxLen ∧ ∀ a ∈ l, wf a := by
 rcases Deep.open_slice ht h with ⟨h0, _⟩ | ⟨a, len, cap, m, n, D, Pl, h0, _, hl, hm, hmm, _, hel⟩
 · obtain rfl : v = .slice none 0 0 := by simpa using h0
   exact ⟨[], .nil false sz, by simp [maxLen], by simp⟩
 · obtain rfl : v = .slice (some a) len cap := by simpa using h0
   simp only [if_true] at hmm; subst m; rw [hc] at hel
   have hk : Cell.ok P W .any base t (.slice (some a) len cap) := by
    simp only [Value.okWide, ht, Cell.okWide] at hv; exact hv
   simp only [Cell.ok, ht] at hk; obtain ⟨_, _, _, hspot, row, cells, hshape, hlies⟩ := hk; obtain ⟨b, off, spot⟩ := a; obtain rfl : spot = none := hspot
   obtain ⟨arr, fz, hb, hcells⟩ : ∃ arr fz, W.heap[b]? = some (.cells arr row fz) ∧ arr.size = cells := by
    simp only [World.shape?] at hshape; split at hshape
    · rename_i c el fz hb; injection hshape with hshape; injection hshape with e1 e2; subst e1; exact ⟨c, _, hb, e2⟩
    · cases hshape
   have hcell : ∀ o, W.cell? ⟨b, o, none⟩ = arr[o]? := by
    intro o; simp only [World.cell?, hb]; simp
   have hrow : ∀ i, i < cap → ∃ cs', (arr.toList.drop (off + i * sz)).take sz = cs' ∧ cs'.length = sz ∧ ∃ y, cs' = vals y ∧ wf y := by
    intro i hi; obtain ⟨cs', h1, h2⟩ := hel i hi; obtain ⟨_, hlen, hx⟩ := World.cells?_some h1; obtain ⟨y, hy, wy⟩ := fit.2 H enc W _ _ n cs' _ h2; refine ⟨cs', ?_, hlen, y, hy, wy⟩; apply List.ext_getElem?; intro j; by_cases hj : j < sz
    · have h3 := hx j hj; rw [show (⟨b, off, none⟩ : Addr).add (i * sz) = ⟨b, off + i * sz, none⟩ from Addr.add_mid b off _, show (⟨b, off + i * sz, none⟩ : Addr).add j = ⟨b, off + i * sz + j, none⟩ from Addr.add_mid b _ _, hcell] at h3; rw [List.getElem?_take_of_lt hj, List.getElem?_drop, ← h3, Array.getElem?_toList]
    · rw [List.getElem?_take, if_neg hj, List.getElem?_eq_none (by omega)]
   have hfit : off + cap * sz ≤ arr.size := by
    by_cases h0 : cap = 0
    · subst h0; have h1 := Ay _ hlies; have h2 := Nat.div_mul_le_self cells (P.cellsOf row); simp only at h1; omega
    · obtain ⟨cs', h1, h2, _⟩ := hrow (cap - 1) (by omega); have h3 := congrArg List.length h1; rw [h2, List.length_take, List.length_drop, Array.length_toList] at h3; have h4 : (cap - 1) * sz + sz = cap * sz := by rw [← Nat.succ_mul]; congr 1; omega
      omega
   have hall : ∀ k, k ≤ cap → ∃ l : List α, l.length = k ∧ (arr.toList.drop off).take (k * sz) = (l.map vals).flatten ∧ ∀ a ∈ l, wf a := by
    intro k
    induction k with
    | zero => intro _; exact ⟨[], rfl, by simp, by simp⟩
    | succ k ih =>
     intro hk; obtain ⟨l, h1, h2, h3⟩ := ih (by omega); obtain ⟨cs', h4, h5, y, h6, h7⟩ := hrow k (by omega); refine ⟨l ++ [y], by simp [h1], ?_, fun a ha => ?_⟩
     · rw [Nat.succ_mul, List.take_add, h2, List.drop_drop, h4, h6]; simp
     · rcases List.mem_append.mp ha with ha | ha
       · exact h3 a ha
       · rw [List.mem_singleton.mp ha]; exact h7
   obtain ⟨l, h1, h2, h3⟩ := hall len hl; refine ⟨l, ?_, by omega, h3⟩; refine .sl (et := (row, fz)) hb (by simp [h1]) hl hsz hfit ?_ ?_ (.inr ⟨rfl, ?_, rfl, rfl⟩) (fun h => by cases h)
   · intro r hr; obtain ⟨a, _, rfl⟩ := List.mem_map.mp hr; simp [(fit.1 a).1]
   · rw [h2]
     have : (l.map fun a => (vals a).map C.v).flatten = ((l.map vals).flatten).map C.v := by
      rw [List.map_flatten, List.map_map]; rfl
     rw [this]
     exact bG.EU fun v hv => by
      obtain ⟨r, hr, hv⟩ := List.mem_flatten.mp hv; obtain ⟨a, _, rfl⟩ := List.mem_map.mp hr; exact (fit.1 a).2 v hv
   · exact dY hb
end Go.Proofs.Ytmjnenjeckeklaa.V
namespace Go.Proofs.Ytmjnenjeckeklaa.V
open Go Go.RowKit
section
variable {P : Program} {ET : TypeId} {w w' : World} {R : Nat → Prop} {K : Ctx} {σ σ' : St} {a : Act} {Fs : Nat → List Nat} {o : Oper} {d : Nat}
theorem tD {i : Nat} {c : Code} {cs : List C} {own : Bool} {Q : Exit → St → Prop} (hi : σ i = .u (.c (.pt own cs))) (hp : K.pins.contains i = true) (h : (∃ b, K.vs i = .pointer (some ⟨b, 0, none⟩)) → fX P K c σ Q) : fX P K c σ Q := by
 rintro a w ⟨Fs, hs⟩; refine h ?_ a w ⟨Fs, hs⟩; have h1 := hs.rep i; have h2 := hs.pin i hp; rw [hi] at h1; rw [h2] at h1; generalize K.vs i = v at h1; generalize Fs i = F at h1
 cases h1 with
 | u h1 => cases h1 with
   | c h1 => cases h1 with
     | pt hb hrep ho => exact ⟨_, rfl⟩
theorem ie {i : Nat} (ho : o.op = .move (.tmp i)) (hp : K.pins.contains i = true) (hv : ∃ b, K.vs i = .pointer (some ⟨b, 0, none⟩)) (hd : o.dst = some d) (hn : gF K d = true) (hr : (i == d) = false) : Step P K σ o (put σ d (.addr i .d [] 0)) :=
  bW hd hn hr (fun a w Fs hs => by
    obtain ⟨b, hv⟩ := hv
    have h2 := hs.pin i hp
    have ux : a.eval (.tmp i) = .pointer (some ⟨b, 0, none⟩) := by rw [eL, h2, hv]
    have h3 := ej.addr (ET := K.ET) (w := w) (R := K.R) (tmps := a.tmps) (r := i) (off := 0) (s := .d) (p := []) (b := b) (o := 0) (by rw [h2, hv]; rfl)
    rw [Nat.add_zero] at h3
    exact ⟨_, by simp [execOp, ho, ux, pure], h3⟩)
theorem jE {ops : Array Oper} {j : Nat} {σ1 : St} {t t' : T} (h : fH P K ops j σ (put σ1 d t)) (e : t = t') : fH P K ops j σ (put σ1 d t') := by subst e; exact h
theorem fZ {α : Type} {f : α → List C} {xs : List α} (h : ∀ x, (f x).all fl = true) : ∀ r ∈ xs.map f, r.all fl = true := fun r hr => by
  obtain ⟨x, _, rfl⟩ := List.mem_map.mp hr
  exact h x
theorem kY {rows : List (List C)} : (rows.drop 0).take rows.length = rows := by rw [List.drop_zero, List.take_length]
def FD (p : Prop) : uN where
  rep := fun _ v F => F = [] ∧ ∃ b, v = .bool b ∧ (b = true → p)
  frame := fun h _ => h
  lt := fun h b hb => by rw [h.1] at hb; cases hb
  one := fun h => by obtain ⟨_, b, rfl, _⟩ := h; exact ⟨rfl, rfl⟩
  isp := false
  ptr := fun h => by cases h
theorem IY {t sz bytes : Nat} {i : Nat} {own : Bool} {rows : List (List C)} (ho : o.op = .binOp .eql t (.tmp i) (.const (.slice none 0 0)) t) (hu : g8 P t sz bytes) (hi : σ i = .u (.c (.sl own sz rows))) (hd : o.dst = some d) (hn : gF K d = true) : Step P K σ o (put σ d (.u (.c (.x (FD (rows = [])))))) :=
  bW hd hn rfl (fun a w Fs hs => by
    obtain ⟨e, inf, hu, _⟩ := hu
    have h := hs.rep i
    rw [hi] at h
    have ux : a.eval (.tmp i) = a.tmps.getD i undef := rfl
    generalize a.tmps.getD i undef = v at h ux
    generalize Fs i = F at h
    have hy : a.eval (.const (.slice none 0 0)) = .slice none 0 0 := rfl
    cases h with
    | u h => cases h with
      | c h => cases h with
        | nil =>
          refine ⟨.bool true, ?_, .u (.c (.x ⟨rfl, true, rfl, fun _ => rfl⟩))⟩
          have h1 : (Op.equal t (.slice none 0 0) (.slice none 0 0)).run P w = .ok true w := kW (fun n => by simp [Op.equalIn, run_underlying hu, pure])
          simp [execOp, ho, Sem.run_bind, ux, hy, ee, binOp, h1, pure]
        | @sl b off len cap _ _ arr et _ _ _ =>
          refine ⟨.bool false, ?_, .u (.c (.x ⟨rfl, false, rfl, fun h => by cases h⟩))⟩
          have h1 : (Op.equal t (.slice (some ⟨b, off, none⟩) len cap) (.slice none 0 0)).run P w = .ok false w := kW (fun n => by simp [Op.equalIn, run_underlying hu, pure])
          simp [execOp, ho, Sem.run_bind, ux, hy, ee, binOp, h1, pure])
theorem IZ {i : Nat} {p : Prop} {x y : Code} {Q : Exit → St → Prop} (hc : σ i = .u (.c (.x (FD p)))) (hT : p → fX P K x σ Q) (hF : fX P K y σ Q) : fX P K (.cond (.tmp i) x y) σ Q := by
 rintro a w ⟨Fs, hs⟩; have h := hs.rep i; rw [hc] at h; have ux : a.eval (.tmp i) = a.tmps.getD i undef := rfl; generalize a.tmps.getD i undef = v at h ux; generalize Fs i = F at h
 cases h with
 | u h => cases h with
   | c h => cases h with
     | x h =>
       obtain ⟨_, b, rfl, hb⟩ := h
       cases b with
       | true => exact wp_cond ux (hT (hb rfl) a w ⟨Fs, hs⟩)
       | false => exact wp_cond ux (hF a w ⟨Fs, hs⟩)
def FE (K : Ctx) (P : Program) (b t c2 : Nat) (u2 : U) (outs : List (Option U)) (cs : List C) (e : Exit) (σ : St) : Prop :=
  (e = .normal ∨ e = .ret) ∧ σ b = .u (.c (.pt true cs)) ∧ σ c2 = .u u2 ∧ nU u2 = true ∧ wo P t cs.length ∧ ∀ (i : Nat) (u : U), outs[i]? = some (some u) → dn σ b .junk i = .u u ∧ K.pins.contains i = true
theorem xo {fn : Func} {b t c2 blk : Nat} {arr : Array Value} {et : TypeId} (h : fn.results = #[.cell b t, .tmp c2]) (tmps : Array Value) (w : World) (hp : tmps.getD b undef = .pointer (some ⟨blk, 0, none⟩)) (hb : w.heap[blk]? = some (.cells arr et (0, 0))) (ht : wo P t arr.size) :
    (results fn tmps).run P w = .ok (.tuple #[.agg arr, tmps.getD c2 undef]) w := by
 have h1 := kO (P := P) (w := w) ht hb (o := 0) (by omega); rw [List.drop_zero, ← Array.length_toList, List.take_length] at h1; simp only [Instr.loadAt, Instr.sureAddr, Sem.run_bind, Sem.run_pure, Result.andThen_ok] at h1; unfold results; rw [h]; rw [Array.getD_eq_getD_getElem?] at hp; simp [hp, asAddr, h1, Result.andThen, Array.getD_eq_getD_getElem?]
theorem za {T : (Nat → Prop) → World → Prop} {f : FuncId} {fn : Func} {c : Code} {ins : List U} {outs : List (Option U)} {cs : List C} {b t c2 : Nat} {u2 : U} {n : Nat} {pins : List Nat} (hf : P.funcs[f]? = some fn) (hb : fn.body = some c) (hn : fn.ntmps = n) (hr : fn.results = #[.cell b t, .tmp c2]) (hin : ins.length ≤ n) (hpin : ∀ i, pins.contains i = true → i < ins.length) (hout : outs.length = ins.length)
    (h : ∀ (w : World) (R : Nat → Prop) (E : List Nat) (vs : Nat → Value), T R w → fX P ⟨ET, w, R, E, n, pins, vs⟩ c (mg ins) (FE ⟨ET, w, R, E, n, pins, vs⟩ P b t c2 u2 outs cs)) : Oz T P ET f ins outs [.agg cs, u2] := by
 intro R w vs F hT hrep hnd hR hRlt; obtain ⟨Fs, f1, f2, f3, f4, f5⟩ := hrep.fs hnd; have hlen := hrep.len
 have htm : ∀ i, i < vs.length → (vs.toArray ++ Array.replicate (fn.ntmps - vs.toArray.size) undef).getD i undef = vs.getD i undef := by
  intro i hi; simp [Array.getD_eq_getD_getElem?, List.getD_eq_getElem?_getD, Array.getElem?_append, hi]
 refine calls_of_wp hf hb ?_
 have hs : lz ⟨ET, w, R, F, n, pins, fun i => vs.getD i undef⟩ (mg ins) { tmps := vs.toArray ++ Array.replicate (fn.ntmps - vs.toArray.size) undef, defers := [] } w := by
  refine ⟨Fs, ?_, f3, f4, fun i b hb => ⟨hR b (f5 i b hb), .inl (f5 i b hb)⟩, bU.refl w F, fun b hb => ⟨hRlt b hb, fun h => hR b h hb⟩, by simp [hn, hlen]; omega, fun i hi => htm i (by rw [hlen]; exact hpin i hi), rfl⟩; intro i; unfold mg
  cases hu : ins[i]? with
  | none =>
   have : ins.length ≤ i := by
    rcases Nat.lt_or_ge i ins.length with h | h
    · rw [List.getElem?_eq_getElem h] at hu; cases hu
    · exact h
   rw [f2 i this]; exact .junk _
  | some u =>
   obtain ⟨x, hx, hru⟩ := f1 i u hu
   have hi : i < vs.length := by
    rcases Nat.lt_or_ge i vs.length with h | h
    · exact h
    · rw [List.getElem?_eq_none h] at hx; cases hx
   simp only; rw [htm i hi, List.getD_eq_getElem?_getD, hx]; exact .u hru
 refine wp_mono (h w R F (fun i => vs.getD i undef) hT _ _ hs) ?_; rintro e a' w' ⟨σ, ⟨rH, hsim⟩, he, hσ, hσ2, hcu, hagg, houts⟩; have xp := hsim.out b
 obtain ⟨H, OV, OW, KB⟩ := tE (ET := ET) (w := w') (R := R) (outs := outs) (vs := vs) (Fs := dK rH b []) (k := 0) (by rw [hout, hlen]) (fun i u hi => by
  obtain ⟨h1, h2⟩ := houts i u hi; have h3 := xp.rep i; rw [h1] at h3; have h4 := xp.pin i h2; have hi2 : i < vs.length := by rw [hlen]; exact hpin i h2
  simp only at h4; rw [h4] at h3; refine ⟨vs.getD i undef, by rw [List.getD_eq_getElem?_getD, List.getElem?_eq_getElem hi2]; rfl, ?_⟩; rw [Nat.zero_add]; generalize dK rH b [] i = F3 at h3; generalize vs.getD i undef = v at h3 ⊢
  cases h3 with | u h => exact h)
 have hfin : ∃ v, (results fn a'.tmps).run P w' = .ok v w' ∧ ∃ rv H1 H2, Ending.returned v = .returned rv ∧ ko ET w' R vs outs H1 ∧ kz ET w' R rv [.agg cs, u2] H2 ∧ (H1 ++ H2).Nodup ∧ (∀ b ∈ H1 ++ H2, b ∈ F ∨ w.heap.size ≤ b) ∧ bU w F w' := by
  have h1 := hsim.rep b; rw [hσ] at h1; have KC := hsim.rep c2; rw [hσ2] at KC
  have TS : eU ET w' R (a'.tmps.getD c2 undef) u2 [] := by
   generalize a'.tmps.getD c2 undef = v2 at KC ⊢; generalize rH c2 = F2 at KC; cases KC with | u KC => have := KC.copy hcu; subst this; exact KC
  clear KC; have jU := hsim.nd b; have hdis := fun j x (hj : j ≠ b) (hx : x ∈ rH b) (hx2 : x ∈ rH j) => hj (hsim.dis j b x hx2 hx); have hown := hsim.own b; generalize hv : a'.tmps.getD b undef = v at h1; generalize hFb : rH b = Fb at h1 jU hdis hown
  cases h1 with
  | u h1 => cases h1 with
    | c h1 => cases h1 with
      | @pt blk own arr et cs F1 F' hbk eY ho =>
        rcases ho with ⟨_, rfl⟩ | ⟨h, _⟩
        · have hsz : arr.size = cs.length := by rw [← eY.length]; simp
          obtain ⟨n1, n2⟩ := List.nodup_cons.mp jU
          refine ⟨_, xo hr a'.tmps w' hv hbk (by rw [hsz]; exact hagg), _, H, F1, rfl, OV, .many (Nat.ne_of_beq_eq_false rfl) (by have := dO.cons (eU.agg eY) (dO.cons TS .nil); rw [List.append_nil, List.append_nil] at this; exact this), ?_, ?_, hsim.keeps⟩
          · rw [List.nodup_append]
            refine ⟨OW xp.nd xp.dis, n2, fun x hx y hy e => ?_⟩
            subst e
            obtain ⟨j, _, hj⟩ := KB x hx
            unfold dK at hj
            split at hj
            · cases hj
            · rename_i hne
              exact hdis j x hne (List.mem_cons_of_mem _ hy) hj
          · intro x hx
            rcases List.mem_append.mp hx with hx | hx
            · obtain ⟨j, _, hj⟩ := KB x hx
              exact (xp.own j x hj).2
            · exact (hown x (List.mem_cons_of_mem _ hx)).2
        · cases h
 rcases he with rfl | rfl
 · exact ⟨hsim.defers, hfin⟩
 · exact ⟨hsim.defers, hfin⟩
theorem AP {f : FuncId} {fn : Func} {c : Code} {ins : List U} {outs : List (Option U)} {cs : List C} {b t c2 : Nat} {u2 : U} {n : Nat} {pins : List Nat} (hf : P.funcs[f]? = some fn) (hb : fn.body = some c) (hn : fn.ntmps = n) (hr : fn.results = #[.cell b t, .tmp c2]) (hin : ins.length ≤ n) (hpin : ∀ i, pins.contains i = true → i < ins.length) (hout : outs.length = ins.length)
    (h : ∀ (w : World) (R : Nat → Prop) (E : List Nat) (vs : Nat → Value), fX P ⟨ET, w, R, E, n, pins, vs⟩ c (mg ins) (FE ⟨ET, w, R, E, n, pins, vs⟩ P b t c2 u2 outs cs)) : AC P ET f ins outs [.agg cs, u2] :=
  fun R w vs F => za (T := fun _ _ => True) hf hb hn hr hin hpin hout (fun w R E vs _ => h w R E vs) R w vs F trivial
theorem zb {b t c2 : Nat} {u2 : U} {outs : List (Option U)} {cs : List C} {e : Exit} (he : e = .normal ∨ e = .ret) (h1 : σ b = .u (.c (.pt true cs))) (h3 : σ c2 = .u u2) (h4 : nU u2 = true) (h2 : FF P t cs.length = true) (h5 : oy (dn σ b .junk) K.pins 0 outs) : FE K P b t c2 u2 outs cs e σ := ⟨he, h1, h3, h4, jZ h2, aE h5⟩
theorem gz {args : Array Operand} {tys : Array TypeId} {f : FuncId} {ins : List U} {outs : List (Option U)} {res : List U} (hac : HF K P f ins outs res) (hf : CX P f) (ho : o.op = .call { callee := .value (.func f), args := args, argTypes := tys })
    (hA : Hs (qu K σ) args.toList ins) (hm : mM res) (hd : HG K o.dst = true) : Step P K σ o (sL σ o.dst (q8 res)) :=
  FG (caps := []) ho hf rD hA (by simpa using hac) hm hd
theorem qo (σ : St) (i : Nat) : cn σ [i] = dn σ i .junk := by
 funext j; unfold cn dn; by_cases h : j = i
 · subst h; simp
 · rw [if_neg h, if_neg (by simpa using h)]
theorem nE {t sz bytes : Nat} {zs : List C} {i : Nat} {y : Operand} {rows bq : List (List C)} (ho : o.op = .call { callee := .builtin .append, args := #[.tmp i, y], argTypes := #[t, t] }) (hz : gl P t sz bytes zs) (hx : σ i = .u (.c (.sl true sz rows))) (hy : Rows K (dn σ i .junk) sz y bq)
    (hcp : ∀ r ∈ bq, r.all fl = true) (hlen : rows.length + bq.length ≤ 1000000) (hby : bytes ≤ 100000) (hd : o.dst = some d) (hn : gF K d = true) : Step P K σ o (put (fun j => cE (dn σ i .junk j)) d (.u (.c (.sl true sz (rows ++ bq))))) := by
 have := FH (K := K) (σ := σ) (l := [i]) ho hz (.move hx rfl) (by rw [qo]; exact hy) hcp hlen hby hd hn; rwa [qo] at this
structure FnB {α : Type} (P : Program) (ET : TypeId) (enc : α → U) (φ : α → Option Bool) where
  f : FuncId
  caps : List C
  ok : CX P f
  ac : ∀ x r, φ x = some r → AC P ET f (enc x :: caps.map .c) (none :: caps.map fun _ => none) [.c (.v (.bool r))]
end
end Go.Proofs.Ytmjnenjeckeklaa.V
namespace Go.Proofs.Ytmjnenjeckeklaa.V
open Go Go.RowKit
section
variable {P : Program} {ET : TypeId} {w w' : World} {R : Nat → Prop} {K : Ctx} {σ σ' : St} {a : Act} {Fs : Nat → List Nat} {o : Oper} {d : Nat}
theorem sF {σ' : St} (hd : o.dst = none) (h : ∀ a w, lz K σ a w → ∃ v w', (execOp a.eval o).run P w = .ok (.value v) w' ∧ lz K σ' a w') : Step P K σ o σ' := by
 intro a w hs; obtain ⟨v, w', h1, h2⟩ := h a w hs; simp only [Oper.wp, h1, Oper.upon_value, hd, Act.put]; exact h2
theorem rR {α : Type} {f : α → List C} {l : List α} {k sz : Nat} {y : α} {us : List C} (h : us = f y) : C.sl true sz ((l.map f).set k us) = C.sl true sz ((l.set k y).map f) := by
 rw [h, List.map_set]
theorem elim_inl {α β : Type} {F : α → Option β} {v : α} {r : β} (h : Sum.elim F some (Sum.inl v : α ⊕ β) = some r) : ∃ y, v = y ∧ F y = some r := ⟨v, rfl, h⟩
end
end Go.Proofs.Ytmjnenjeckeklaa.V
namespace Go.Proofs.Ytmjnenjeckeklaa.V
open Go Go.RowKit
section
variable {P : Program} {ET : TypeId} {w w' : World} {R : Nat → Prop} {K : Ctx} {σ σ' : St} {a : Act} {Fs : Nat → List Nat} {o : Oper} {d : Nat}
end
end Go.Proofs.Ytmjnenjeckeklaa.V
namespace Go.Proofs.Ytmjnenjeckeklaa.V
open Go Go.RowKit
section
variable {P : Program} {ET : TypeId} {w w' : World} {R : Nat → Prop} {K : Ctx} {σ σ' : St} {a : Act} {Fs : Nat → List Nat} {o : Oper} {d : Nat}
theorem rF {α β γ δ : Type} {f : α → γ} {g : β → δ} {l : List α} {l2 : List β} {n : Nat} (h : l.length + l2.length ≤ n) : (l.map f).length + (l2.map g).length ≤ n := by
 rw [List.length_map, List.length_map]; exact h
theorem kj {r d : Nat} {t t1 : T} {s : Spec} (hc : Clear s σ) (hf : s.fresh = some d) (hd : s.deep = true) (hr : refs t1 d = false) (ha : s.asg = [(d, t), (r, t1)]) : put (dn (fun j => cE (dn σ r .junk j)) r t1) d t = over σ s.asg := by
 rw [ha]; funext j; rw [gu, List.lookup_cons]; unfold put; by_cases hj : j = d
 · subst hj; simp
 · have h1 : (j == d) = false := by simpa using hj
   rw [h1, if_neg hj]; unfold dn; by_cases h3 : j = r
   · subst h3; simp only [if_true, List.lookup_cons, beq_self_eq_true, Option.getD_some]; unfold me; rw [hr]; simp
   · have h4 : (j == r) = false := by simpa using h3
     simp only [if_neg h3, List.lookup_cons, h4, List.lookup_nil, Option.getD_none]
     have h5 : lJ (σ j) = false := by
      cases h : lJ (σ j) with
      | false => rfl
      | true =>
       have h6 := hc.2 hd j h; rw [ha] at h6; simp [has, List.lookup_cons, h1, h4] at h6
     rw [sR h5]; unfold me; rw [hc.ref hf hj (by rw [ha]; simp [List.lookup_cons, h1, h4])]; simp
def Ob : T → Bool
  | .junk => true
  | _ => false
theorem Lz {x : T} (h : Ob x = true) : x = .junk := by cases x <;> first | rfl | cases h
theorem oC {A B : List (Nat × T)} {i : Nat} : (A ++ B).lookup i = (A.lookup i).or (B.lookup i) := by
 induction A with
 | nil => simp
 | cons p A ih =>
  obtain ⟨k, x⟩ := p; simp only [List.cons_append, List.lookup_cons, ih]; cases i == k <;> simp
theorem ox {D : List Nat} {A : List (Nat × T)} : over (cn σ D) A = over σ (A ++ D.map fun j => (j, .junk)) := by
 funext i; rw [gu, gu, oC, fP]
 cases h : A.lookup i with
 | some y => simp
 | none =>
  unfold cn; simp only [Option.getD_none, Option.none_or]; split <;> simp_all
theorem mB {D : List Nat} {s : Spec} {A : List (Nat × T)} (hc : Clear s σ) (ha : s.asg = A ++ D.map fun j => (j, .junk)) : Clear { s with asg := A } (cn σ D) := by
 refine ⟨fun d hd t ht hrf => ?_, fun hd t ht => ?_⟩
 · unfold cn at hrf; split at hrf
   · cases hrf
   · rename_i hn; have := hc.1 d hd t ht hrf; rw [ha, oC, fP, if_neg hn] at this; simpa using this
 · unfold cn at ht; split at ht
   · cases ht
   · rename_i hn; have := hc.2 hd t ht; rw [ha] at this; unfold has at this ⊢; rw [oC, fP, if_neg hn] at this; simpa using this
theorem wk {D : List Nat} (hD : D.all (fun j => Ob (cE (σ j))) = true) (j : Nat) : cE (σ j) = cE (cn σ D j) := by
 unfold cn; split
 · rename_i h; exact Lz (List.all_eq_true.mp hD j (by simpa using h))
 · rfl
theorem Ar {D : List Nat} {i d : Nat} {t : T} {s : Spec} (hc : Clear s σ) (hf : s.fresh = some d) (hd : s.deep = true) (hD : D.all (fun j => Ob (cE (σ j))) = true) (ha : s.asg = [(d, t), (i, .junk)] ++ D.map fun j => (j, .junk)) : put (fun j => cE (dn σ i .junk j)) d t = over σ s.asg := by
 have e : (fun j => cE (dn σ i .junk j)) = fun j => cE (dn (cn σ D) i .junk j) := by
  funext j; unfold dn; split
  · rfl
  · exact wk hD j
 rw [e, C5 (s := { s with asg := [(d, t), (i, .junk)] }) (mB hc ha) hf hd rfl, ox, ha]
theorem iL {D l : List Nat} {r : Nat} {t : T} {s : Spec} (hc : Clear s σ) (hd : s.deep = true) (hD : D.all (fun j => Ob (cE (σ j))) = true) (ha : s.asg = ((r, t) :: l.map fun j => (j, .junk)) ++ D.map fun j => (j, .junk)) : dn (fun j => cE (cn σ l j)) r t = over σ s.asg := by
 have e : (fun j => cE (cn σ l j)) = fun j => cE (cn (cn σ D) l j) := by
  funext j; show cE (if l.contains j then .junk else σ j) = cE (if l.contains j then .junk else cn σ D j); split
  · rfl
  · exact wk hD j
 rw [e, je (s := { s with asg := (r, t) :: l.map fun j => (j, .junk) }) (mB hc ha) hd rfl, ox, ha]
theorem H8 {AR : Operand → U → Prop} {i r sz n sz' : Nat} {c : C} {rows : List (List C)} {xs : List Operand} {us : List U} {hs : List (Option o5)} (h : cR i (σ i) = .whole r none sz n) (hr : σ r = .u (.c c)) (hc : c = .sl true sz' rows) (t : jm AR (dn σ r .junk) xs us hs σ') : jm AR σ (.tmp i :: xs) (.c c :: us) (some (r, none, c) :: hs) σ' := by
 subst hc; exact .hand (.sl h) hr rfl rfl t
abbrev tI (x : Int) : T := .u (.c (.v (.int .i64 x)))
abbrev tW (x : Int) : T := .u (.c (.v (.int .u64 x)))
abbrev tB (x : Bool) : T := .u (.c (.v (.bool x)))
theorem aA {ops : Array Oper} {j m : Nat} {σ2 : St} (k : Nat) (ds : List Nat) (t : gR P K ops k m (Od P K ops j ds σ) σ2) (hk : j + ds.length = k := by rfl) (h : Oc P K ops j ds σ = true := by kernel_rfl) : gR P K ops j (ds.length + m) σ σ2 := HL k hk h t
theorem aY {ops : Array Oper} {j m : Nat} {σ1 σ2 : St} (k : Nat) (h : fH P K ops j σ σ1) (t : gR P K ops k m σ1 σ2) (hk : j + 1 = k := by rfl) : gR P K ops j (m + 1) σ σ2 := HM k hk h t
theorem en {ops : Array Oper} {S0 S : List Spec} {σ0 : St} {k : Nat} {t : T} {s : Spec} (tl : wz (fun j s => ∀ σ, Clear s (over σ (gS S0 σ0 s)) → fH P K ops j (over σ (gS S0 σ0 s)) (over (over σ (gS S0 σ0 s)) s.asg)) (k + 1) S) (hf : s.fresh = some d := by rfl) (ha : s.asg = [(d, t)] := by rfl) (h : ∀ σ, Lj P K ops k (over σ (gS S0 σ0 s)) d = some t := by intro σ; kernel_rfl) : wz (fun j s => ∀ σ, Clear s (over σ (gS S0 σ0 s)) → fH P K ops j (over σ (gS S0 σ0 s)) (over (over σ (gS S0 σ0 s)) s.asg)) k (s :: S) := .cons (fun σ hc => e_g hc hf ha (h σ)) tl
abbrev ev (a r : List Nat) (d : Nat) (t : T) : Spec := ⟨a, r, [(d, t)], some d, false⟩
abbrev eu (n : Nat) (r : List Nat) (d : Nat) (t : T) : Spec := ⟨List.range n, r, [(d, t)], some d, false⟩
theorem rr {ops : Array Oper} {id n : Nat} {Q : Exit → St → Prop} {σ1 : St} (l : List (Nat × T)) (h : gR P K ops 0 n σ σ1) (hq : Q .normal (St.of l)) (hn : n = ops.size := by rfl) (hl : at_ σ1 l = l := by kernel_rfl) : fX P K (.region id ops false) σ Q := Ov h hn hl hq
def sS (σ : St) : List (List Nat) → St
  | [] => σ
  | l :: ls => sS (cn σ l) ls
theorem C6 {ls : List (List Nat)} : ∀ {σ : St}, sS σ ls = cn σ ls.flatten := by
 induction ls with
 | nil => intro σ; funext i; unfold sS cn; simp
 | cons l ls ih =>
  intro σ; unfold sS; rw [ih]; funext i; unfold cn; by_cases h1 : i ∈ l <;> by_cases h2 : i ∈ ls.flatten <;> simp_all
theorem jf {ls : List (List Nat)} {t : T} {s : Spec} (hc : Clear s σ) (hf : s.fresh = some d) (ha : s.asg = (d, t) :: ls.flatten.map fun j => (j, .junk)) : put (sS σ ls) d t = over σ s.asg := by
 rw [C6, fD (l := ls.flatten) hc hf ha, ha]
theorem BZ {x y : Code} {Q : Exit → St → Prop} {α : Type} (L : α → List (Nat × T)) (J : α → Prop) (hA : fX P K x σ (yw (fun σ' => ∃ v, J v ∧ ∀ i, St.of (L v) i = σ' i ∨ St.of (L v) i = .junk) Q)) (hB : ∀ v, J v → fX P K y (St.of (L v)) Q) : fX P K x σ (yw (fun σ' => fX P K y σ' Q) Q) :=
  LA hA (fun e σ h => by
    cases e <;> first
      | exact h
      | (obtain ⟨v, hj, hw⟩ := h; exact aM hw (hB v hj)))
theorem H9 {α β : Type} {F : α → Option β} {v : α} {r : β} (h : Sum.elim F some (Sum.inl v : α ⊕ β) = some r) : F v = some r := h
def LB (P : Program) (t : TypeId) (len sz : Nat) : Prop := ∃ el inf, P.underlying t = some (.array len el) ∧ P.info? el = some inf ∧ inf.size = sz
def Ow (P : Program) (t : TypeId) (len sz : Nat) : Bool := match P.underlying t with
  | some (.array n el) => Nat.beq n len && match P.info? el with
    | some inf => Nat.beq inf.size sz
    | none => false
  | _ => false
theorem lI {t : TypeId} {len sz : Nat} (h : Ow P t len sz = true) : LB P t len sz := by
 unfold Ow at h; split at h
 · rename_i n el hu; simp only [Bool.and_eq_true] at h; obtain ⟨h1, h2⟩ := h; have := Nat.eq_of_beq_eq_true h1; subst this; split at h2
   · rename_i inf hi; exact ⟨el, inf, hu, hi, Nat.eq_of_beq_eq_true h2⟩
   · cases h2
 · cases h
theorem kR {t i r off sz len k : Nat} {sl : ef} {p : List (Nat × ef)} {x : Operand} {ik : IntKind} {e : Int} (ho : o.op = .indexAddr t (.tmp i) x) (hu : LB P t len sz) (hi : cR i (σ i) = .addr r sl p off) (hx : gp K.ET σ x = .u (.c (.v (.int ik e))))
    (h0 : 0 ≤ e) (h1 : e < len) (hk : off + e.toNat * sz = k) (hd : o.dst = some d) (hn : gF K d = true) (hrd : (r == d) = false) : Step P K σ o (put σ d (.addr r sl p k)) :=
  bW hd hn hrd (fun a w Fs hs => by
    have hxv := dV hs hx
    have h := (qI.tmp hi).rep hs
    generalize hv : a.eval (.tmp i) = v at h
    cases h with
    | @addr _ _ b o' _ _ h =>
      obtain ⟨el, inf, hu, hinf, hsz⟩ := hu
      subst hk
      refine ⟨.pointer (some ⟨b, o' + (off + e.toNat * sz), none⟩), ?_, .addr h⟩
      have hsize : (sizeOf el).run P w = .ok sz w := by simp [sizeOf, typeInfo, hinf, hsz]
      simp only [execOp, ho, hv, hxv, Instr.indexAt, asIntOf, Instr.sureAddr, Sem.run_bind, Sem.run_pure, Result.andThen_ok, run_underlying hu]
      rw [if_pos ⟨h0, h1⟩]
      simp only [Sem.run_bind, hsize, Result.andThen_ok, Sem.run_pure, Addr.add_mid, Nat.add_assoc])
theorem EG {t len sz : Nat} {parts : Array (Nat × Operand)} {us : List (Nat × U)} {zs cs : List C} {σ' : St} (ho : o.op = .build t parts) (hb : LB P t len sz) (hz : kM P t zs) (hx : yy K σ parts.toList us σ') (hf : nT (fun i : Nat => some (i * sz, sz)) zs us = some cs)
    (hd : o.dst = some d) (hn : gF K d = true) : Step P K σ o (put σ' d (.u (.agg cs))) := by
 rintro a w ⟨Fs, hs⟩; obtain ⟨F, Fs', hp, hs', hF, _, _⟩ := hs.takes hx; obtain ⟨el, inf, hu, hinf, hsz⟩ := hb; obtain ⟨i, z, h1, h2, h3⟩ := hz; obtain ⟨cells', F', h4, h5, h6, h7⟩ := sU hp (h3 K.ET w K.R) (by simpa using hF.1) hf; have hsize : (sizeOf el).run P w = .ok sz w := by simp [sizeOf, typeInfo, hinf, hsz]
 have hrun : (execOp a.eval o).run P w = .ok (.value (.agg cells')) w := by
  have e1 : (parts.map fun p => (p.1, a.eval p.2)).toList = parts.toList.map fun p => (p.1, a.eval p.2) := by simp
  simp only [execOp, ho, Instr.build, Sem.run_bind, gU h1 h2, Result.andThen_ok, run_underlying hu, hsize]; rw [show (Array.map (fun x => (x.fst, a.eval x.snd)) parts).toList = _ from e1, h4]; rfl
 simp only [Oper.wp, hrun, Oper.upon_value, hd]; refine ⟨_, hs'.jS hn (bU.refl w _) (fun b hb => ?_) h6 (.u (.agg h5))⟩; rcases h7 b hb with h | h
 · cases h
 · exact hF.2 b h
structure FnI2 {α : Type} (P : Program) (ET : TypeId) (enc : α → U) (φ : α → α → Option Int) where
  f : FuncId
  caps : List C
  ok : CX P f
  ac : ∀ x y r, φ x y = some r → AC P ET f (enc x :: enc y :: caps.map .c) (none :: none :: caps.map fun _ => none) [.c (.v (.int .i64 r))]
def qm : uN where
  rep w v F := ∃ b et, v = .slice (some ⟨b, 0, none⟩) 0 0 ∧ w.heap[b]? = some (.cells #[] et (0, 0)) ∧ F = [b]
  frame := by
   rintro w w' v F ⟨b, et, h1, h2, rfl⟩ h; exact ⟨b, et, h1, (h b (by simp)).trans h2, rfl⟩
  lt := by
   rintro w v F ⟨b, et, h1, h2, rfl⟩ x hx; rw [List.mem_singleton.mp hx]; exact dY h2
  one := by
   rintro w v F ⟨b, et, rfl, _, _⟩; exact ⟨rfl, rfl⟩
  isp := false
  ptr := by intro h; cases h
theorem lK {t sz bytes : Nat} {zs : List C} (ho : o.op = .buildSlice t 0 #[]) (hz : gl P t sz bytes zs) (hd : o.dst = some d) (hn : gF K d = true) : Step P K σ o (put σ d (.u (.c (.x qm)))) := by
 rintro a w ⟨Fs, hs⟩; obtain ⟨e, i, z, h1, h2, h3, _, h4, h5, h6, h7⟩ := hz; obtain ⟨h8, h9⟩ := hs.boxed (et := e) (F := []) (xs := #[]) (cs := []) ⟨List.nodup_nil, by simp⟩ (by simpa using bG.nil)
 have hrun : (execOp a.eval o).run P w = .ok (.value (.slice (some ⟨w.heap.size, 0, none⟩) 0 0)) (w.alloc (.cells #[] e)) := by
  have hsz : (sizeOf e).run P w = .ok sz w := by simp [sizeOf, typeInfo, h2, h3]
  simp only [execOp, ho, Instr.buildSlice, Sem.run_bind, Result.andThen_ok, run_underlying h1, hsz]; have h0 : Array.map (fun _ : Nat => (default : Value)) (Array.range 0) = #[] := Array.eq_empty_of_size_eq_zero (by simp); simp [newRow, newObj, Sem.run, pure, Sem.run_bind, Instr.fill, h0]
 simp only [Oper.wp, hrun, Oper.upon_value, hd]; exact ⟨_, hs.jS hn (bU.alloc w _) h9.2 h9.1 (.u (.c (.x ⟨_, e, rfl, gi w _, rfl⟩)))⟩
theorem qn {t ty sz bytes b : Nat} {et : TypeId} {zs : List C} (hz : gl P t sz bytes zs) {vy : Value} {bq : List (List C)} {G : List Nat} (hb : w.heap[b]? = some (.cells #[] et (0, 0))) (hR : ¬ R b) (hlt : ∀ b, R b → b < w.heap.size) {S : Nat → Prop} (hy : gj ET w R S vy sz bq G) (hcp : ∀ r ∈ bq, r.all fl = true)
    (hlen : bq.length ≤ 1000000) (hby : bytes ≤ 100000) :
    ∃ v w1 F1, (Builtin.append_ #[t, t] ty #[.slice (some ⟨b, 0, none⟩) 0 0, vy]).run P w = .ok v w1 ∧ bP ET w1 R v (.sl true sz bq) F1 ∧ F1.Nodup ∧ (∀ x ∈ F1, x = b ∨ w.heap.size ≤ x) ∧ bU w [] w1 := by
 obtain ⟨e, i, z, h1, h2, h3, h3b, h4, h5, h6, h7⟩ := hz; have hzs : z.cells.size = i.size := by omega
 by_cases hn : bq.length = 0
 · have sI : bq = [] := List.eq_nil_of_length_eq_zero hn; subst sI
   obtain ⟨ad, c, hv⟩ : ∃ ad c, vy = .slice ad 0 c := by
    rcases hy with ⟨rfl, _⟩ | ⟨b, off, cap, arr, et, rfl, _⟩
    · exact ⟨_, _, rfl⟩
    · exact ⟨_, _, rfl⟩
   subst hv; exact ⟨_, w, [b], mD h1 h2 (Nat.le_refl 0), .sl (et := (et, (0, 0))) (len := 0) (cap := 0) hb rfl (Nat.le_refl _) h4 (by simp) (by simp) (by simpa using bG.nil) (.inl ⟨rfl, rfl⟩) (fun _ => rfl), by simp, fun x hx => .inl (List.mem_singleton.mp hx), bU.refl _ _⟩
 · rcases hy with ⟨_, h⟩ | ⟨b2, off2, oz, o6, HS, rfl, de, k1, k2, k3, mF, eY, _, _⟩
   · subst h; simp at hn
   have hG : G = [] := eY.copy (o9 hcp); subst hG; generalize hnews : (o6.toList.drop off2).take (bq.length * sz) = news at eY; have hnl : news.length = bq.length * i.size := by rw [eY.length, eZ mF, h3]
   have hnc : ∀ j v, news[j]? = some v → w.cell? ((⟨b2, off2, none⟩ : Addr).add j) = some v := by rw [← hnews]; exact mG de
   have hgr : 0 < 0 + bq.length := by omega
   have hrun := Go.run_append_grow w t ty e i z h1 h2 h5 ⟨b, 0, none⟩ 0 0 [] (by simp) (by intro j v h; simp at h) ⟨b2, off2, none⟩ bq.length oz news hnl hnc hgr (by omega) (growslice_fits hgr (by rw [h3b]; exact mH (by omega) hby))
   have hg := bP.grown (ET := ET) (R := R) (w := w) (w1 := w.drew.alloc (.cells (([] : List Value).toArray ++ news.toArray ++ Builtin.zeroCells z.cells (grownCap w (0 + bq.length) 0 e - (0 + bq.length))) e)) (rows := []) (bq := bq) (sz := sz) (nc := grownCap w (0 + bq.length) 0 e) (olds := []) (z := z.cells) (et := e) .nil eY (by simpa using mF) h4 h6
     (by simpa using grownCap_ge w (0 + bq.length) 0 e) (by simp) hlt
   simp only [List.length_nil, List.nil_append] at hg; exact ⟨_, _, [w.heap.size], hrun, by simpa using hg, by simp, fun x hx => .inr (by rw [List.mem_singleton.mp hx]; exact Nat.le_refl _), (jG w []).trans (bU.alloc _ _) (by simp)⟩
theorem uC {t sz bytes i : Nat} {zs : List C} {y : Operand} {bq : List (List C)} (ho : o.op = .call { callee := .builtin .append, args := #[.tmp i, y], argTypes := #[t, t] }) (hz : gl P t sz bytes zs) (hx : σ i = .u (.c (.x qm))) (hy : Rows K (dn σ i .junk) sz y bq)
    (hcp : ∀ r ∈ bq, r.all fl = true) (hlen : bq.length ≤ 1000000) (hby : bytes ≤ 100000) (hd : o.dst = some d) (hn : gF K d = true) : Step P K σ o (put (cn σ [i]) d (.u (.c (.sl true sz bq)))) := by
 rintro a w ⟨Fs, hs⟩; obtain ⟨F, oZ, hu, hs1, hF, _, _⟩ := hs.take (.move hx rfl); rw [← qo] at hy; obtain ⟨G, hsh⟩ := hy.qK hs1; generalize hvx : a.eval (.tmp i) = vx at hu
 cases hu with
 | c hc => cases hc with
   | x hq =>
     obtain ⟨b, et, rfl, hb, rfl⟩ := hq
     have hbF := hF.2 b (by simp)
     obtain ⟨v, w1, F1, hrun, hrep, we, hsub, hk⟩ := qn (P := P) (ty := o.type) (b := b) hz hb hbF.2.1 (fun b hb => Nat.lt_of_lt_of_le (hs1.ro b hb).1 hs1.keeps.size) hsh hcp hlen hby
     have hexec : (execOp a.eval o).run P w = .ok (.value v) w1 := by
       simp only [execOp, ho, resolve, Sem.run_bind, Sem.run_pure, Result.andThen_ok, invoke, builtin]
       simp [Sem.run_bind, hvx, hrun, pure]
     simp only [Oper.wp, hexec, Oper.upon_value, hd]
     refine ⟨_, hs1.jS hn hk (fun x hx => ?_) we (.u (.c hrep))⟩
     rcases hsub x hx with h | h
     · subst h; exact hbF
     · refine ⟨fun j hj => ?_, fun hR => ?_, .inr (Nat.le_trans hs1.keeps.size h)⟩
       · have := (hs1.rep j).lt x hj; omega
       · have := Nat.lt_of_lt_of_le (hs1.ro x hR).1 hs1.keeps.size; omega
theorem jH {α : Type} {f : α → List C} {l2 : List α} {t sz bytes i : Nat} {zs : List C} {y : Operand} (ho : o.op = .call { callee := .builtin .append, args := #[.tmp i, y], argTypes := #[t, t] }) (hz : gl P t sz bytes zs) (hx : σ i = .u (.c (.x qm))) (hy : Rows K (dn σ i .junk) sz y (l2.map f))
    (hcp : ∀ x, (f x).all fl = true) (hlen : l2.length ≤ 1000000) (hby : bytes ≤ 100000) (hd : o.dst = some d) (hn : gF K d = true) : Step P K σ o (put (cn σ [i]) d (.u (.c (.sl true sz (l2.map f))))) :=
  uC ho hz hx hy (fZ hcp) (by rw [List.length_map]; exact hlen) hby hd hn
end
end Go.Proofs.Ytmjnenjeckeklaa.V
namespace Go.Proofs.Ytmjnenjeckeklaa.V
open Go Go.RowKit
structure Ko (X : Type) where
  key : X → Int
  born : X → Nat
  val : X → Value
def Ko.kJ {X : Type} (k : Ko X) (x : X) : MapEntry := ⟨.int .i64 (k.key x), k.val x, k.born x⟩
def Ko.es {X : Type} (k : Ko X) (xs : List X) : Array MapEntry := (xs.map k.kJ).toArray
structure Ko.Ok {X : Type} (k : Ko X) (clk : Nat) (xs : List X) : Prop where
  lt : ∀ x ∈ xs, k.born x < clk
  born : (xs.map k.born).Nodup
  key : (xs.map k.key).Nodup
def kg (P : Program) (mt et : TypeId) : Prop := ∃ kt, P.underlying mt = some (.map kt et) ∧ P.underlying kt = some (.int .i64)
section
variable {P : Program} {w : World} {X : Type} {k : Ko X} {xs : List X} {x : X} {n : Int} {clk m : Nat} {mt et : TypeId} {v : Value}
theorem jy {Y : Type} {f : X → Y} {x y : X} (h : (xs.map f).Nodup) (hx : x ∈ xs) (hy : y ∈ xs) (e : f x = f y) : x = y := by
 induction xs with
 | nil => cases hx
 | cons z xs ih =>
  rw [List.map_cons, List.nodup_cons] at h; rcases List.mem_cons.mp hx with rfl | hx1 <;> rcases List.mem_cons.mp hy with rfl | hy1
  · rfl
  · exact absurd (List.mem_map.mpr ⟨y, hy1, e.symm⟩) h.1
  · exact absurd (show f y ∈ xs.map f from List.mem_map.mpr ⟨x, hx1, e⟩) h.1
  · exact ih h.2 hx1 hy1
theorem DQ {Y : Type} {f : X → Y} {x : X} {i j : Nat} (h : (xs.map f).Nodup) (hi : xs[i]? = some x) (hj : xs[j]? = some x) : i = j := by
 induction xs generalizing i j with
 | nil => simp at hi
 | cons z xs ih =>
  rw [List.map_cons, List.nodup_cons] at h; cases i <;> cases j
  · rfl
  · simp only [List.getElem?_cons_zero, Option.some.injEq] at hi; subst hi; exact absurd (List.mem_map.mpr ⟨_, List.mem_of_getElem? (by simpa using hj), rfl⟩) h.1
  · simp only [List.getElem?_cons_zero, Option.some.injEq] at hj; subst hj; exact absurd (List.mem_map.mpr ⟨_, List.mem_of_getElem? (by simpa using hi), rfl⟩) h.1
  · exact congrArg Nat.succ (ih h.2 (by simpa using hi) (by simpa using hj))
theorem l6 (n : Int) : MapKept.IsKey (.int .i64) (.int .i64 n) := rfl
theorem zM (k : Ko X) (xs : List X) : ∀ e ∈ xs.map k.kJ, MapKept.IsKey (.int .i64) e.key := by
 intro e he; obtain ⟨x, _, rfl⟩ := List.mem_map.mp he; rfl
theorem xR (hk : (xs.map k.key).Nodup) (hx : x ∈ xs) (hn : k.key x = n) : ∃ j, xs[j]? = some x ∧ Instr.findNow (.int .i64) (.int .i64 n) (k.es xs).toList 0 = some (some (j, k.val x)) := by
 rcases MapKept.findNow_spec (l6 n) (xs.map k.kJ) 0 (zM k xs) with ⟨_, h⟩ | ⟨j, e, h1, h2, h3⟩
 · exact absurd (by rw [← hn]; rfl) (h (k.kJ x) (List.mem_map.mpr ⟨x, hx, rfl⟩))
 · rw [List.getElem?_map, Option.map_eq_some_iff] at h2; obtain ⟨y, hy, rfl⟩ := h2
   have e : k.key y = n := by
    have : (Value.int .i64 (k.key y)) = .int .i64 n := h3; injection this
   have : y = x := jy hk (List.mem_of_getElem? hy) hx (e.trans hn.symm); subst this; refine ⟨j, hy, ?_⟩; show Instr.findNow _ _ (xs.map k.kJ) 0 = _; rw [h1, Nat.zero_add]; rfl
theorem uk (hn : ∀ x ∈ xs, k.key x ≠ n) : Instr.findNow (.int .i64) (.int .i64 n) (k.es xs).toList 0 = some none := by
 rcases MapKept.findNow_spec (l6 n) (xs.map k.kJ) 0 (zM k xs) with ⟨h, _⟩ | ⟨j, e, h1, h2, h3⟩
 · exact h
 · rw [List.getElem?_map, Option.map_eq_some_iff] at h2; obtain ⟨y, hy, rfl⟩ := h2
   have e : k.key y = n := by
    have : (Value.int .i64 (k.key y)) = .int .i64 n := h3; injection this
   exact absurd e (hn y (List.mem_of_getElem? hy))
theorem vT {b : Bool} (hK : kg P mt et) (hb : w.heap[m]? = some (.map (k.es xs) clk)) (hk : (xs.map k.key).Nodup) (hx : x ∈ xs) (hn : k.key x = n) :
    (Instr.lookup mt (.map (some m)) (.int .i64 n) b).run P w = .ok (if b then .tuple #[k.val x, .bool true] else k.val x) w := by
 obtain ⟨kt, h1, h2⟩ := hK; obtain ⟨j, _, hf⟩ := xR hk hx hn; simp only [Instr.lookup, Sem.run_bind, run_underlying h1, MapKept.run_getObj_map hb, Sem.run_pure, MapKept.run_checkKey h2 (l6 n), MapKept.run_findKey h2 hf, Result.andThen]
theorem um {b : Bool} {z : Value} {i : TypeInfo} (hK : kg P mt et) (hb : w.heap[m]? = some (.map (k.es xs) clk)) (hn : ∀ x ∈ xs, k.key x ≠ n) (hi : P.info? et = some i) (hz : i.zero = some z) :
    (Instr.lookup mt (.map (some m)) (.int .i64 n) b).run P w = .ok (if b then .tuple #[z, .bool false] else z) w := by
 obtain ⟨kt, h1, h2⟩ := hK; simp [Instr.lookup, run_underlying h1, MapKept.run_getObj_map hb, MapKept.run_checkKey h2 (l6 n), MapKept.run_findKey h2 (uk hn), Result.andThen, zeroValue, typeInfo, hi, hz]
def Ko.set (k : Ko X) (n : Int) (g : X → X) (xs : List X) : List X := xs.map fun y => if k.key y = n then g y else y
theorem uP {g : X → X} (hK : kg P mt et) (hb : w.heap[m]? = some (.map (k.es xs) clk)) (hk : (xs.map k.key).Nodup) (hx : x ∈ xs) (hn : k.key x = n) (hg : k.kJ (g x) = { k.kJ x with val := v }) :
    (Instr.mapUpdate mt (.map (some m)) (.int .i64 n) v).run P w = .ok () (ChangeMaps.setBlock w m (.map (k.es (k.set n g xs)) clk)) := by
 obtain ⟨kt, h1, h2⟩ := hK; obtain ⟨j, hj, hf⟩ := xR hk hx hn
 have hj2 : (k.es xs)[j]? = some (k.kJ x) := by
  show (xs.map k.kJ).toArray[j]? = _; rw [List.getElem?_toArray, List.getElem?_map, hj]; rfl
 have hke : (k.kJ x).key = .int .i64 n := by rw [← hn]; rfl
 simp only [Instr.mapUpdate, Sem.run_bind, run_underlying h1, MapKept.run_getObj_map hb, MapKept.run_checkKey h2 (l6 n), MapKept.run_findKey h2 hf, Result.andThen, hj2, Option.map_some, Option.getD_some, hke, MapKept.run_keyThatStays (l6 n), MapKept.run_setObj_map _ hb]
 have he : (k.es xs).modify j (fun e => { e with key := .int .i64 n, val := v }) = k.es (k.set n g xs) := by
  apply Array.ext'; apply List.ext_getElem?; intro i; show _ = (((k.set n g xs).map k.kJ).toArray.toList)[i]?; rw [Array.getElem?_toList, Array.getElem?_modify]; show _ = ((k.set n g xs).map k.kJ)[i]?; unfold Ko.set; rw [List.getElem?_map, List.getElem?_map]; by_cases hij : j = i
  · subst hij; rw [if_pos rfl, hj2, hj]; simp only [Option.map_some]; rw [if_pos hn, hg]; rw [← hke]
  · rw [if_neg hij]; show ((xs.map k.kJ).toArray)[i]? = _; rw [List.getElem?_toArray, List.getElem?_map]
    cases hy : xs[i]? with
    | none => rfl
    | some y =>
     simp only [Option.map_some]; rw [if_neg]; intro e; have : y = x := jy hk (List.mem_of_getElem? hy) hx (e.trans hn.symm); subst this; exact hij (DQ hk hj hy)
 rw [he]; rfl
theorem sE {x : X} (hK : kg P mt et) (hb : w.heap[m]? = some (.map (k.es xs) clk)) (hn : ∀ x ∈ xs, k.key x ≠ n) (hx : k.kJ x = ⟨.int .i64 n, v, clk⟩) :
    (Instr.mapUpdate mt (.map (some m)) (.int .i64 n) v).run P w = .ok () (ChangeMaps.setBlock w m (.map (k.es (xs ++ [x])) (clk + 1))) := by
 obtain ⟨kt, h1, h2⟩ := hK; simp only [Instr.mapUpdate, Sem.run_bind, run_underlying h1, MapKept.run_getObj_map hb, MapKept.run_checkKey h2 (l6 n), MapKept.run_findKey h2 (uk hn), Result.andThen, MapKept.run_setObj_map _ hb]
 have : (k.es xs).push { key := .int .i64 n, val := v, born := clk } = k.es (xs ++ [x]) := by
  unfold Ko.es; rw [List.map_append, List.map_singleton, hx]; simp
 rw [this]; rfl
theorem vU {Y : Type} (f : X → Y) : ∀ (xs : List X) (j : Nat), (xs.map f).eraseIdx j = (xs.eraseIdx j).map f
  | [], _ => rfl
  | _ :: _, 0 => rfl
  | x :: xs, j + 1 => by rw [List.map_cons, List.eraseIdx_cons_succ, List.eraseIdx_cons_succ, List.map_cons, vU f xs j]
theorem erase_filter {j : Nat} (hk : (xs.map k.key).Nodup) (hj : xs[j]? = some x) (hn : k.key x = n) : xs.eraseIdx j = xs.filter fun y => k.key y != n := by
 induction xs generalizing j with
 | nil => simp at hj
 | cons z xs ih =>
  rw [List.map_cons, List.nodup_cons] at hk
  cases j with
  | zero =>
   simp only [List.getElem?_cons_zero, Option.some.injEq] at hj; subst hj; rw [List.eraseIdx_cons_zero, List.filter_cons_of_neg (by simpa using hn)]; symm; rw [List.filter_eq_self]; intro y hy; simp only [bne_iff_ne, ne_eq]; intro e; exact hk.1 (List.mem_map.mpr ⟨y, hy, e.trans hn.symm⟩)
  | succ j =>
   have hj' : xs[j]? = some x := by simpa using hj
   have hz : k.key z ≠ n := fun e => hk.1 (List.mem_map.mpr ⟨x, List.mem_of_getElem? hj', hn.trans e.symm⟩); rw [List.eraseIdx_cons_succ, List.filter_cons_of_pos (by simpa using hz), ih hk.2 hj']
theorem sG {ty kt' : TypeId} (hK : kg P mt et) (hb : w.heap[m]? = some (.map (k.es xs) clk)) (hk : (xs.map k.key).Nodup) :
    (Builtin.delete_ #[mt, kt'] ty #[.map (some m), .int .i64 n]).run P w = .ok (.tuple #[]) (ChangeMaps.setBlock w m (.map (k.es (xs.filter fun y => k.key y != n)) clk)) := by
 obtain ⟨kt, h1, h2⟩ := hK; by_cases h : ∃ x ∈ xs, k.key x = n
 · obtain ⟨x, hx, hn⟩ := h; obtain ⟨j, hj, hf⟩ := xR hk hx hn
   have : (k.es xs).eraseIdxIfInBounds j = k.es (xs.filter fun y => k.key y != n) := by
    rw [← erase_filter hk hj hn]
    have hlt : j < (k.es xs).size := by
     show j < (xs.map k.kJ).toArray.size; rcases Nat.lt_or_ge j xs.length with h | h
     · simpa using h
     · rw [List.getElem?_eq_none h] at hj; cases hj
    apply Array.ext'; rw [Array.eraseIdxIfInBounds, dif_pos hlt, Array.toList_eraseIdx]; show (xs.map k.kJ).eraseIdx j = (xs.eraseIdx j).map k.kJ; exact vU k.kJ xs j
   simp [Builtin.delete_, run_underlying h1, MapKept.run_getObj_map hb, MapKept.run_checkKey h2 (l6 n), MapKept.run_findKey h2 hf, MapKept.run_setObj_map _ hb, Result.andThen, this, ChangeMaps.setBlock]
 · have hn : ∀ x ∈ xs, k.key x ≠ n := fun x hx e => h ⟨x, hx, e⟩
   have : (xs.filter fun y => k.key y != n) = xs := by
    rw [List.filter_eq_self]; intro y hy; simpa using hn y hy
   rw [this]; simp [Builtin.delete_, run_underlying h1, MapKept.run_getObj_map hb, MapKept.run_checkKey h2 (l6 n), MapKept.run_findKey h2 (uk hn), MapKept.run_setObj_map _ hb, Result.andThen, ChangeMaps.setBlock]
theorem Ko.Ok.filter (h : k.Ok clk xs) (p : X → Bool) : k.Ok clk (xs.filter p) :=
  ⟨fun x hx => h.lt x (List.mem_filter.mp hx).1, (List.filter_sublist.map _).nodup h.born, (List.filter_sublist.map _).nodup h.key⟩
theorem Ko.Ok.push {x : X} (h : k.Ok clk xs) (hb : k.born x = clk) (hn : ∀ y ∈ xs, k.key y ≠ k.key x) : k.Ok (clk + 1) (xs ++ [x]) := by
 refine ⟨fun y hy => ?_, ?_, ?_⟩
 · rcases List.mem_append.mp hy with hy | hy
   · exact Nat.lt_succ_of_lt (h.lt y hy)
   · rw [List.mem_singleton.mp hy, hb]; exact Nat.lt_succ_self _
 · rw [List.map_append, List.nodup_append]; refine ⟨h.born, by simp, fun a ha b de e => ?_⟩; obtain ⟨y, hy, rfl⟩ := List.mem_map.mp ha; simp only [List.map_cons, List.map_nil, List.mem_singleton] at de; have := h.lt y hy; omega
 · rw [List.map_append, List.nodup_append]; refine ⟨h.key, by simp, fun a ha b de e => ?_⟩; obtain ⟨y, hy, rfl⟩ := List.mem_map.mp ha; simp only [List.map_cons, List.map_nil, List.mem_singleton] at de; exact hn y hy (e.trans de)
theorem CL {Y : Type} {g : X → X} (f : X → Y) (hf : ∀ x ∈ xs, k.key x = n → f (g x) = f x) : (k.set n g xs).map f = xs.map f := by
 unfold Ko.set; rw [List.map_map]; apply List.map_congr_left; intro x hx; simp only [Function.comp]; split
 · rename_i e; exact hf x hx e
 · rfl
theorem Ko.Ok.set {g : X → X} (h : k.Ok clk xs) (hb : ∀ x, k.born (g x) = k.born x) (hk : ∀ x, k.key (g x) = k.key x) : k.Ok clk (k.set n g xs) := by
 refine ⟨fun y hy => ?_, ?_, ?_⟩
 · unfold Ko.set at hy; obtain ⟨x, hx, rfl⟩ := List.mem_map.mp hy; split
   · rw [hb]; exact h.lt x hx
   · exact h.lt x hx
 · rw [CL _ (fun x _ _ => hb x)]; exact h.born
 · rw [CL _ (fun x _ _ => hk x)]; exact h.key
theorem Ko.Ok.nil {k : Ko X} (clk : Nat) : k.Ok clk [] := ⟨by simp, by simp, by simp⟩
end
end Go.Proofs.Ytmjnenjeckeklaa.V
namespace Go.Proofs.Ytmjnenjeckeklaa.V
open Go Go.RowKit
def uD (v : Value) : uN where
  rep := fun _ x F => x = v ∧ (v.cells = #[v] ∧ v.oneCell' = true) ∧ F = []
  frame := fun h _ => h
  lt := by rintro w x F ⟨_, _, rfl⟩ b hb; cases hb
  one := by rintro w x F ⟨rfl, h, _⟩; exact h
  isp := false
  ptr := by intro h; cases h
  dup := true
  dupl := fun _ _ _ _ h => h.2.2
structure Fl (α β : Type) where
  sz : Nat
  fa : α → List C
  va : β → Array Value
  fw : β → List C
  rep : ∀ ET w R b, bG ET w R (va b).toList (fw b) []
  pl : ∀ x, (fa x).all mL = true
structure Pg (β : Type) where
  ec : Int
  born : Nat
  ws : β
structure Rec (α β : Type) where
  n : Int
  born : Nat
  av : Value
  l : List α
  pm : Nat
  pclk : Nat
  ps : List (Pg β)
structure ji (α β : Type) where
  n : Int
  l : List α
  ps : List (Int × β)
section
variable {α β : Type}
def Pg.tell (p : Pg β) : Int × β := (p.ec, p.ws)
def Rec.tell (r : Rec α β) : ji α β := ⟨r.n, r.l, r.ps.map Pg.tell⟩
def Fl.pk (Z : Fl α β) : Ko (Pg β) := ⟨Pg.ec, Pg.born, fun p => .agg (Z.va p.ws)⟩
def rk : Ko (Rec α β) := ⟨Rec.n, Rec.born, fun r => .agg #[r.av, .map (some r.pm)]⟩
def Fl.oo (Z : Fl α β) (ET : TypeId) (w : World) (r : Rec α β) (F : List Nat) : Prop := ∃ Fa, F = r.pm :: Fa ∧ bP ET w (fun _ => False) r.av (.sl true Z.sz (r.l.map Z.fa)) Fa ∧ w.heap[r.pm]? = some (.map (Z.pk.es r.ps) r.pclk) ∧ Z.pk.Ok r.pclk r.ps
def Fl.dM (Z : Fl α β) (ET : TypeId) (w : World) : List (Rec α β) → List Nat → Prop
  | [], F => F = []
  | r :: L, F => ∃ F1 F2, F = F1 ++ F2 ∧ Z.oo ET w r F1 ∧ Z.dM ET w L F2
variable {Z : Fl α β} {ET : TypeId} {w w' : World} {L A B : List (Rec α β)} {r : Rec α β} {F : List Nat}
theorem Fl.oo.frame (h : Z.oo ET w r F) (hw : ∀ b ∈ F, w'.heap[b]? = w.heap[b]?) : Z.oo ET w' r F := by
 obtain ⟨Fa, rfl, h1, h2, h3⟩ := h; exact ⟨Fa, rfl, h1.frame (fun _ h => h) (fun b hb => hw b (List.mem_cons_of_mem _ (hb.resolve_right id))), (hw _ (List.mem_cons_self ..)).trans h2, h3⟩
theorem Fl.oo.lt (h : Z.oo ET w r F) : ∀ b ∈ F, b < w.heap.size := by
 obtain ⟨Fa, rfl, h1, h2, h3⟩ := h; intro b hb; rcases List.mem_cons.mp hb with rfl | hb
 · exact dY h2
 · exact h1.lt b hb
theorem Fl.dM.frame : ∀ {L : List (Rec α β)} {F : List Nat}, Z.dM ET w L F → (∀ b ∈ F, w'.heap[b]? = w.heap[b]?) → Z.dM ET w' L F
  | [], _, h, _ => h
  | _ :: _, _, ⟨F1, F2, e, h1, h2⟩, hw => ⟨F1, F2, e, h1.frame (fun b hb => hw b (e ▸ List.mem_append_left _ hb)), h2.frame (fun b hb => hw b (e ▸ List.mem_append_right _ hb))⟩
theorem Fl.dM.lt : ∀ {L : List (Rec α β)} {F : List Nat}, Z.dM ET w L F → ∀ b ∈ F, b < w.heap.size
  | [], _, h, b, hb => by rw [show _ = [] from h] at hb; cases hb
  | _ :: _, _, ⟨F1, F2, e, h1, h2⟩, b, hb => by
    rw [e] at hb
    rcases List.mem_append.mp hb with hb | hb
    · exact h1.lt b hb
    · exact h2.lt b hb
theorem Fl.dM.split : ∀ {A : List (Rec α β)} {F : List Nat}, Z.dM ET w (A ++ B) F → ∃ F1 F2, F = F1 ++ F2 ∧ Z.dM ET w A F1 ∧ Z.dM ET w B F2
  | [], F, h => ⟨[], F, rfl, rfl, h⟩
  | _ :: _, _, ⟨F1, F2, e, h1, h2⟩ => by
    obtain ⟨G1, G2, rfl, h3, h4⟩ := Fl.dM.split h2
    exact ⟨F1 ++ G1, G2, by rw [e, List.append_assoc], ⟨F1, G1, rfl, h1, h3⟩, h4⟩
theorem Fl.dM.app : ∀ {A : List (Rec α β)} {F G : List Nat}, Z.dM ET w A F → Z.dM ET w B G → Z.dM ET w (A ++ B) (F ++ G)
  | [], F, G, h, k => by rw [show F = [] from h]; exact k
  | _ :: _, _, _, ⟨F1, F2, e, h1, h2⟩, k => ⟨F1, F2 ++ _, by rw [e, List.append_assoc], h1, h2.app k⟩
theorem Fl.dM.at_ (h : Z.dM ET w (A ++ r :: B) F) : ∃ FA F1 FB, F = FA ++ (F1 ++ FB) ∧ Z.dM ET w A FA ∧ Z.oo ET w r F1 ∧ Z.dM ET w B FB := by
 obtain ⟨FA, F2, e, h1, F1, FB, rfl, h2, h3⟩ := h.split; exact ⟨FA, F1, FB, e, h1, h2, h3⟩
theorem Fl.dM.mem (h : Z.dM ET w L F) (hm : r ∈ L) : ∃ F1, (∀ b ∈ F1, b ∈ F) ∧ Z.oo ET w r F1 := by
 obtain ⟨A, B, rfl⟩ := List.append_of_mem hm; obtain ⟨FA, F1, FB, rfl, _, h2, _⟩ := h.at_; exact ⟨F1, fun b hb => List.mem_append_right _ (List.mem_append_left _ hb), h2⟩
end
def Fl.gQ {α β : Type} (Z : Fl α β) (ET : TypeId) (m clk : Nat) (L : List (Rec α β)) : uN where
  rep := fun w v F => v = .map (some m) ∧ ∃ F', w.heap[m]? = some (.map (rk.es L) clk) ∧ F = m :: F' ∧ Z.dM ET w L F' ∧ rk.Ok clk L
  frame := by
   rintro w w' v F ⟨rfl, F', h1, rfl, h2, h3⟩ hw; exact ⟨rfl, F', (hw m (List.mem_cons_self ..)).trans h1, rfl, h2.frame (fun b hb => hw b (List.mem_cons_of_mem _ hb)), h3⟩
  lt := by
   rintro w v F ⟨rfl, F', h1, rfl, h2, h3⟩ b hb; rcases List.mem_cons.mp hb with rfl | hb
   · exact dY h1
   · exact h2.lt b hb
  one := by rintro w v F ⟨rfl, _⟩; exact ⟨rfl, rfl⟩
  isp := false
  ptr := by intro h; cases h
def Fl.gE {α β : Type} (Z : Fl α β) (ET : TypeId) (W : List (ji α β)) : uN where
  rep := fun w v F => ∃ m clk L, L.map Rec.tell = W ∧ (Z.gQ ET m clk L).rep w v F
  frame := by rintro w w' v F ⟨m, clk, L, e, h⟩ hw; exact ⟨m, clk, L, e, (Z.gQ ET m clk L).frame h hw⟩
  lt := by rintro w v F ⟨m, clk, L, e, h⟩; exact (Z.gQ ET m clk L).lt h
  one := by rintro w v F ⟨m, clk, L, e, h⟩; exact (Z.gQ ET m clk L).one h
  isp := false
  ptr := by intro h; cases h
def Fl.pE {α β : Type} (Z : Fl α β) (ps : List (Int × β)) : uN where
  rep := fun w v F => ∃ m clk qs, qs.map Pg.tell = ps ∧ v = .map (some m) ∧ w.heap[m]? = some (.map (Z.pk.es qs) clk) ∧ F = [m] ∧ Z.pk.Ok clk qs
  frame := by rintro w w' v F ⟨m, clk, qs, e, rfl, h1, rfl, h2⟩ hw; exact ⟨m, clk, qs, e, rfl, (hw m (List.mem_cons_self ..)).trans h1, rfl, h2⟩
  lt := by rintro w v F ⟨m, clk, qs, e, rfl, h1, rfl, h2⟩ b hb; rw [List.mem_singleton.mp hb]; exact dY h1
  one := by rintro w v F ⟨m, clk, qs, e, rfl, _⟩; exact ⟨rfl, rfl⟩
  isp := false
  ptr := by intro h; cases h
def yG (P : Program) (et : TypeId) (zs : List C) : Prop := ∃ i arr, P.info? et = some i ∧ i.zero = some (.agg arr) ∧ ∀ ET w R, bG ET w R arr.toList zs []
def vV (b : Bool) (cs : List C) (f : Bool) : T := bif b then .tup [.agg cs, .c (.v (.bool f))] else .u (.agg cs)
theorem l7 {b f : Bool} {cs : List C} {d : Nat} : refs (vV b cs f) d = false := by cases b <;> rfl
section
variable {α β : Type} {Z : Fl α β} {P : Program} {ET : TypeId} {w w' : World} {R : Nat → Prop} {K : Ctx} {σ : St} {a : Act} {Fs : Nat → List Nat} {o : Oper} {d : Nat} {L A B : List (Rec α β)} {r1 : Rec α β} {F : List Nat}
theorem xE {v : Value} {own : Bool} {sz : Nat} {rows : List (List C)} (h : bP ET w R v (.sl own sz rows) F) : v.cells = #[v] ∧ v.oneCell' = true := by cases h <;> exact ⟨rfl, rfl⟩
theorem pV {b f : Bool} {arr : Array Value} {cs : List C} {tmps : Array Value} (h : bG ET w R arr.toList cs []) : ej ET w R tmps (if b then .tuple #[.agg arr, .bool f] else .agg arr) (vV b cs f) [] := by
 cases b with
 | true => exact .tup (.cons (F := []) (.agg h) (.cons (F := []) (.c (.v rfl)) .nil))
 | false => exact .u (.agg h)
theorem gO {mt et : TypeId} {x ky : Operand} {m clk i : Nat} {n : Int} {b : Bool} {c : C} {pl : Pl} (ho : o.op = .lookup mt x ky b) (hK : kg P mt et) (hx : gp K.ET σ x = .u (.c (.v (.map (some m))))) (hky : gp K.ET σ ky = .u (.c (.v (.int .i64 n)))) (hr : σ i = .u (.c c))
    (hc : cellAt c pl = some (.x (Z.gQ K.ET m clk L))) (hown : ek c pl = true) (hm : r1 ∈ L) (hn : r1.n = n) (hd : o.dst = some d) (hn' : gF K d = true) : Step P K σ o (put σ d (vV b [.x (uD r1.av), .v (.map (some r1.pm))] true)) :=
  bW hd hn' l7 (fun a w Fs hs => by
    have e1 := dV hs hx
    have e2 := dV hs hky
    obtain ⟨y, Fx, hy, ⟨hy2, F', hb, hFx, hRs, hok⟩, hin⟩ := hs.nL hr hc hown
    obtain ⟨F1, mw, Fa, rfl, CV, qf, yf⟩ := hRs.mem hm
    have hl := vT (P := P) (b := b) hK hb hok.key hm hn
    refine ⟨_, ?_, pV (b := b) (f := true) (arr := #[r1.av, .map (some r1.pm)]) (.cons (F := []) (G := []) (.x ⟨rfl, xE CV, rfl⟩) (.cons (F := []) (G := []) (.v rfl) .nil))⟩
    simp only [execOp, ho, e1, e2, Sem.run_bind, hl, Result.andThen_ok, Sem.run_pure]
    rfl)
theorem gA {mt et : TypeId} {x ky : Operand} {m clk i : Nat} {n : Int} {b : Bool} {c : C} {pl : Pl} {zs : List C} (ho : o.op = .lookup mt x ky b) (hK : kg P mt et) (hZ : yG P et zs) (hx : gp K.ET σ x = .u (.c (.v (.map (some m))))) (hky : gp K.ET σ ky = .u (.c (.v (.int .i64 n)))) (hr : σ i = .u (.c c))
    (hc : cellAt c pl = some (.x (Z.gQ K.ET m clk L))) (hown : ek c pl = true) (hm : ∀ r ∈ L, r.n ≠ n) (hd : o.dst = some d) (hn' : gF K d = true) : Step P K σ o (put σ d (vV b zs false)) :=
  bW hd hn' l7 (fun a w Fs hs => by
    have e1 := dV hs hx
    have e2 := dV hs hky
    obtain ⟨y, Fx, hy, ⟨hy2, F', hb, hFx, hRs, hok⟩, hin⟩ := hs.nL hr hc hown
    obtain ⟨ti, arr, z1, z2, z3⟩ := hZ
    have hl := um (P := P) (b := b) hK hb hm z1 z2
    refine ⟨_, ?_, pV (b := b) (f := false) (arr := arr) (z3 _ _ _)⟩
    simp only [execOp, ho, e1, e2, Sem.run_bind, hl, Result.andThen_ok, Sem.run_pure])
theorem Ie {mt et : TypeId} {x ky : Operand} {m clk i : Nat} {n : Int} {b : Bool} {c : C} {pl : Pl} {p : Pg β} (ho : o.op = .lookup mt x ky b) (hK : kg P mt et) (hx : gp K.ET σ x = .u (.c (.v (.map (some r1.pm))))) (hky : gp K.ET σ ky = .u (.c (.v (.int .i64 n)))) (hr : σ i = .u (.c c))
    (hc : cellAt c pl = some (.x (Z.gQ K.ET m clk L))) (hown : ek c pl = true) (hm : r1 ∈ L) (hp : p ∈ r1.ps) (hn : p.ec = n) (hd : o.dst = some d) (hn' : gF K d = true) : Step P K σ o (put σ d (vV b (Z.fw p.ws) true)) :=
  bW hd hn' l7 (fun a w Fs hs => by
    have e1 := dV hs hx
    have e2 := dV hs hky
    obtain ⟨y, Fx, hy, ⟨hy2, F', hb, hFx, hRs, hok⟩, hin⟩ := hs.nL hr hc hown
    obtain ⟨F1, mw, Fa, rfl, CV, qf, yf⟩ := hRs.mem hm
    have hl := vT (P := P) (b := b) hK qf yf.key hp hn
    refine ⟨_, ?_, pV (b := b) (f := true) (arr := Z.va p.ws) (Z.rep _ _ _ _)⟩
    simp only [execOp, ho, e1, e2, Sem.run_bind, hl, Result.andThen_ok, Sem.run_pure]
    rfl)
theorem EV {mt et : TypeId} {x ky : Operand} {m clk i : Nat} {n : Int} {b : Bool} {c : C} {pl : Pl} {zs : List C} (ho : o.op = .lookup mt x ky b) (hK : kg P mt et) (hZ : yG P et zs) (hx : gp K.ET σ x = .u (.c (.v (.map (some r1.pm))))) (hky : gp K.ET σ ky = .u (.c (.v (.int .i64 n)))) (hr : σ i = .u (.c c))
    (hc : cellAt c pl = some (.x (Z.gQ K.ET m clk L))) (hown : ek c pl = true) (hm : r1 ∈ L) (hp : ∀ p ∈ r1.ps, p.ec ≠ n) (hd : o.dst = some d) (hn' : gF K d = true) : Step P K σ o (put σ d (vV b zs false)) :=
  bW hd hn' l7 (fun a w Fs hs => by
    have e1 := dV hs hx
    have e2 := dV hs hky
    obtain ⟨y, Fx, hy, ⟨hy2, F', hb, hFx, hRs, hok⟩, hin⟩ := hs.nL hr hc hown
    obtain ⟨F1, mw, Fa, rfl, CV, qf, yf⟩ := hRs.mem hm
    obtain ⟨ti, arr, z1, z2, z3⟩ := hZ
    have hl := um (P := P) (b := b) hK qf hp z1 z2
    refine ⟨_, ?_, pV (b := b) (f := false) (arr := arr) (z3 _ _ _)⟩
    simp only [execOp, ho, e1, e2, Sem.run_bind, hl, Result.andThen_ok, Sem.run_pure])
def iy (n : Int) (g : ji α β → ji α β) (W : List (ji α β)) : List (ji α β) := W.map fun s => if s.n = n then g s else s
theorem rB {g : Rec α β → Rec α β} (hk : ((A ++ r1 :: B).map Rec.n).Nodup) : rk.set r1.n g (A ++ r1 :: B) = A ++ g r1 :: B := by
 rw [List.map_append, List.map_cons, List.nodup_append] at hk; obtain ⟨_, h2, h3⟩ := hk; rw [List.nodup_cons] at h2; unfold Ko.set; rw [List.map_append, List.map_cons]
 have e1 : (A.map fun y => if rk.key y = r1.n then g y else y) = A := by
  conv => rhs; rw [← List.map_id A]
  apply List.map_congr_left; intro y hy; rw [if_neg]; · rfl
  exact fun e => h3 _ (List.mem_map.mpr ⟨y, hy, rfl⟩) _ (List.mem_cons_self ..) e
 have e2 : (B.map fun y => if rk.key y = r1.n then g y else y) = B := by
  conv => rhs; rw [← List.map_id B]
  apply List.map_congr_left; intro y hy; rw [if_neg]; · rfl
  exact fun e => h2.1 (List.mem_map.mpr ⟨y, hy, e⟩)
 rw [e1, e2]; show A ++ (if r1.n = r1.n then g r1 else r1) :: B = _; rw [if_pos rfl]
theorem sD {n : Int} {g : Rec α β → Rec α β} {h : ji α β → ji α β} (hgh : ∀ r ∈ L, r.n = n → (g r).tell = h r.tell) : (rk.set n g L).map Rec.tell = iy n h (L.map Rec.tell) := by
 unfold Ko.set iy; rw [List.map_map, List.map_map]; apply List.map_congr_left; intro r hr; simp only [Function.comp]; show Rec.tell (if r.n = n then g r else r) = if r.n = n then h r.tell else r.tell; split
 · rename_i e; exact hgh r hr e
 · rfl
theorem Fl.dM.turn {r2 : Rec α β} {F : List Nat} {G : List Nat} {b : Nat} (h : Z.dM ET w (A ++ r1 :: B) F) (hnd : F.Nodup) (hw : ∀ x ∈ F, x ≠ b → w'.heap[x]? = w.heap[x]?) (h2 : ∀ F1, Z.oo ET w r1 F1 → F1.Nodup → (∀ x ∈ F1, x ∈ F) → (b ∈ F1 ∨ b ∉ F) ∧ ∃ KT, Z.oo ET w' r2 KT ∧ KT.Nodup ∧ ∀ x ∈ KT, x ∈ F1 ∨ x ∈ G)
    (hG : ∀ x ∈ F, x ∉ G) : ∃ F', Z.dM ET w' (A ++ r2 :: B) F' ∧ F'.Nodup ∧ ∀ x ∈ F', x ∈ F ∨ x ∈ G := by
 obtain ⟨FA, F1, FB, rfl, hA, h1, hB⟩ := h.at_; obtain ⟨n1, n2, n3⟩ := List.nodup_append.mp hnd; obtain ⟨n4, n5, n6⟩ := List.nodup_append.mp n2; obtain ⟨hb, KT, h3, h4, h5⟩ := h2 F1 h1 n4 (fun x hx => List.mem_append_right _ (List.mem_append_left _ hx)); refine ⟨FA ++ (KT ++ FB), ?_, ?_, ?_⟩
 · refine (hA.frame (fun x hx => hw x (List.mem_append_left _ hx) (fun e => ?_))).app ⟨KT, FB, rfl, h3, hB.frame (fun x hx => hw x (List.mem_append_right _ (List.mem_append_right _ hx)) (fun e => ?_))⟩
   · subst e; rcases hb with hb | hb
     · exact n3 x hx x (List.mem_append_left _ hb) rfl
     · exact hb (List.mem_append_left _ hx)
   · subst e; rcases hb with hb | hb
     · exact n6 x hb x hx rfl
     · exact hb (List.mem_append_right _ (List.mem_append_right _ hx))
 · refine List.nodup_append.mpr ⟨n1, List.nodup_append.mpr ⟨h4, n5, fun x hx y hy e => ?_⟩, fun x hx y hy e => ?_⟩
   · subst e; rcases h5 x hx with h | h
     · exact n6 x h x hy rfl
     · exact hG x (List.mem_append_right _ (List.mem_append_right _ hy)) h
   · subst e; rcases List.mem_append.mp hy with hy | hy
     · rcases h5 x hy with h | h
       · exact n3 x hx x (List.mem_append_left _ h) rfl
       · exact hG x (List.mem_append_left _ hx) h
     · exact n3 x hx x (List.mem_append_right _ hy) rfl
 · intro x hx; rcases List.mem_append.mp hx with hx | hx
   · exact .inl (List.mem_append_left _ hx)
   · rcases List.mem_append.mp hx with hx | hx
     · exact (h5 x hx).imp (fun h => List.mem_append_right _ (List.mem_append_left _ h)) id
     · exact .inl (List.mem_append_right _ (List.mem_append_right _ hx))
end
end Go.Proofs.Ytmjnenjeckeklaa.V
namespace Go.Proofs.Ytmjnenjeckeklaa.V
open Go Go.RowKit
section
variable {α β : Type} {Z : Fl α β} {P : Program} {ET : TypeId} {w w' : World} {R : Nat → Prop} {K : Ctx} {σ : St} {a : Act} {Fs : Nat → List Nat} {o : Oper} {d : Nat} {L A B : List (Rec α β)} {r1 r2 : Rec α β} {F : List Nat}
theorem Hv (h : rk.kJ r2 = rk.kJ r1) : rk.es (A ++ r2 :: B) = rk.es (A ++ r1 :: B) := by
 unfold Ko.es; rw [List.map_append, List.map_append, List.map_cons, List.map_cons, h]
theorem BX {clk : Nat} (h : rk.Ok clk (A ++ r1 :: B)) (h1 : r2.n = r1.n) (h2 : r2.born = r1.born) : rk.Ok clk (A ++ r2 :: B) := by
 refine ⟨fun x hx => ?_, ?_, ?_⟩
 · rcases List.mem_append.mp hx with hx | hx
   · exact h.lt x (List.mem_append_left _ hx)
   · rcases List.mem_cons.mp hx with e | hx
     · rw [e, show rk.born r2 = rk.born r1 from h2]; exact h.lt r1 (List.mem_append_right _ (List.mem_cons_self ..))
     · exact h.lt x (List.mem_append_right _ (List.mem_cons_of_mem _ hx))
 · have := h.born; rw [List.map_append, List.map_cons] at this ⊢; rw [show rk.born r2 = rk.born r1 from h2]; exact this
 · have := h.key; rw [List.map_append, List.map_cons] at this ⊢; rw [show rk.key r2 = rk.key r1 from h1]; exact this
theorem yh {m clk : Nat} {y : Value} {Fx : List Nat} (h : (Z.gQ ET m clk (A ++ r1 :: B)).rep w y Fx) (hnd : Fx.Nodup) (he : rk.kJ r2 = rk.kJ r1) (hn : r2.n = r1.n) (hav : r2.av = r1.av) (hpm : r2.pm = r1.pm) (hl : r2.l = r1.l) (hok : Z.pk.Ok r2.pclk r2.ps) :
    r1.pm ∈ Fx ∧ ∃ Fx', (Z.gQ ET m clk (A ++ r2 :: B)).rep (ChangeMaps.setBlock w r1.pm (.map (Z.pk.es r2.ps) r2.pclk)) y Fx' ∧ Fx'.Nodup ∧ ∀ b ∈ Fx', b ∈ Fx ∨ b ∈ ([] : List Nat) := by
 obtain ⟨rfl, F', hb, rfl, hRs, hk⟩ := h; obtain ⟨n1, n2⟩ := List.nodup_cons.mp hnd; obtain ⟨FA, F1, FB, rfl, _, ⟨Fa, rfl, _, qf, _⟩, _⟩ := hRs.at_; have hin : r1.pm ∈ FA ++ ((r1.pm :: Fa) ++ FB) := List.mem_append_right _ (List.mem_append_left _ (List.mem_cons_self ..)); have hne : m ≠ r1.pm := fun e => n1 (e ▸ hin); refine ⟨List.mem_cons_of_mem _ hin, ?_⟩
 obtain ⟨F2, h1, h2, h3⟩ := hRs.turn (r2 := r2) (w' := ChangeMaps.setBlock w r1.pm (.map (Z.pk.es r2.ps) r2.pclk)) (G := []) (b := r1.pm) n2 (fun x _ hx => eA hx) (fun F1 mw we hs => by
  obtain ⟨VR, rfl, k1, k2, k3⟩ := mw; refine ⟨.inl (List.mem_cons_self ..), r1.pm :: VR, ⟨VR, by rw [hpm], ?_, ?_, hok⟩, we, fun x hx => .inl hx⟩
  · rw [hav, hl]; refine k1.frame (fun _ h => h) (fun b hb => eA (fun e2 => ?_)); have hb := hb.resolve_right id; subst e2; exact (List.nodup_cons.mp we).1 hb
  · rw [hpm]; exact iY qf) (by simp)
 refine ⟨m :: F2, ⟨rfl, F2, (eA hne).trans (by rw [Hv he]; exact hb), rfl, h1, BX hk hn (by have := congrArg MapEntry.born he; exact this)⟩, ?_, fun b hb => .inl ?_⟩
 · refine List.nodup_cons.mpr ⟨fun h => n1 ((h3 m h).resolve_right (by simp)), h2⟩
 · rcases List.mem_cons.mp hb with rfl | hb
   · exact List.mem_cons_self ..
   · exact List.mem_cons_of_mem _ ((h3 b hb).resolve_right (by simp))
theorem lz.Ei {ι : Type} {q : uN} {q' : ι → uN} {good : ι → Prop} {i : Nat} {c : C} {pl : Pl} (h : lz K σ a w) (hr : σ i = .u (.c c)) (hx : cellAt c pl = some (.x q)) (ho : ek c pl = true) (hq : ∀ v F, q.rep w v F → ∃ x, good x ∧ (q' x).rep w v F) : ∃ x, good x ∧ lz K (dn σ i (.u (.c (setAt c pl (.x (q' x)))))) a w := by
 obtain ⟨Fs, hs⟩ := h; have h1 := hs.rep i; rw [hr] at h1; have hnd := hs.nd i; have hdi := fun j b (hj : j ≠ i) (hb : b ∈ Fs i) (de : b ∈ Fs j) => hj (hs.dis j i b de hb); have how := hs.own i; have hout := hs.out i; generalize ux : a.tmps.getD i undef = v0 at h1; generalize hFi : Fs i = F at h1 hnd hdi how
 cases h1 with
 | u h1 => cases h1 with
   | c h1 =>
     obtain ⟨y, Fo, Fx, e1, e2, h2, h3⟩ := bP.cell (tmps := a.tmps) (r := i) ux h1 hnd hx ho
     cases h2 with
     | x h2 =>
       obtain ⟨x, hg, h4⟩ := hq _ _ h2
       obtain ⟨F2, h7, h8⟩ := h3 w (.x (q' x)) Fx (fun b hb => rfl) (.x h4)
       have hp : F2.Perm F := h8.trans e2.symm
       have h9 := hout.Hq (i := i) (t := .u (.c (setAt c pl (.x (q' x))))) (F := F2) (by rw [ux]; exact .u (.c h7)) (hp.nodup_iff.mpr hnd) (fun j hj b hb de => by
         unfold dK at de
         rw [if_neg hj] at de
         exact hdi j b hj (hp.mem_iff.mp hb) de) (fun b hb => how b (hp.mem_iff.mp hb))
       rw [lD] at h9
       exact ⟨x, hg, _, h9⟩
theorem Fl.dM.VS : ∀ {L : List (Rec α β)} {F : List Nat}, Z.dM ET w L F → ∀ r ∈ L, Z.pk.Ok r.pclk r.ps
  | [], _, _, r, hr => by cases hr
  | _ :: _, _, ⟨F1, F2, e, ⟨_, _, _, _, h1⟩, h2⟩, r, hr => by
    rcases List.mem_cons.mp hr with rfl | hr
    · exact h1
    · exact h2.VS r hr
theorem gC {i : Nat} {c : C} {pl : Pl} {W : List (ji α β)} {x : Code} {Q : Exit → St → Prop} (hr : σ i = .u (.c c)) (hx : cellAt c pl = some (.x (Z.gE K.ET W))) (ho : ek c pl = true) (h : ∀ m clk L, L.map Rec.tell = W → (rk.Ok clk L ∧ ∀ r ∈ L, Z.pk.Ok r.pclk r.ps) → fX P K x (dn σ i (.u (.c (setAt c pl (.x (Z.gQ K.ET m clk L)))))) Q) : fX P K x σ Q := fun a w hs => by
  obtain ⟨⟨m, clk, L⟩, ⟨h1, h2⟩, h3⟩ := hs.Ei (ι := Nat × Nat × List (Rec α β)) (q' := fun x => Z.gQ K.ET x.1 x.2.1 x.2.2) (good := fun x => x.2.2.map Rec.tell = W ∧ (rk.Ok x.2.1 x.2.2 ∧ ∀ r ∈ x.2.2, Z.pk.Ok r.pclk r.ps)) hr hx ho (fun v F ⟨m, clk, L, e, hv⟩ => ⟨(m, clk, L), ⟨e, by
    obtain ⟨_, F', _, _, hRs, hk⟩ := hv
    exact ⟨hk, hRs.VS⟩⟩, hv⟩)
  exact h m clk L h1 h2 a w h3
theorem Ej {i m clk : Nat} {c : C} {pl : Pl} {x : Code} {Q : Exit → St → Prop} (hr : σ i = .u (.c c)) (hx : cellAt c pl = some (.x (Z.gQ K.ET m clk L))) (ho : ek c pl = true) (h : fX P K x (dn σ i (.u (.c (setAt c pl (.x (Z.gE K.ET (L.map Rec.tell))))))) Q) : fX P K x σ Q := fun a w hs => by
  obtain ⟨_, _, h3⟩ := hs.Ei (ι := Unit) (q' := fun _ => Z.gE K.ET (L.map Rec.tell)) (good := fun _ => True) hr hx ho (fun v F hv => ⟨(), trivial, m, clk, L, rfl, hv⟩)
  exact h a w h3
def nK (n : Int) (b : β) (ps : List (Int × β)) : List (Int × β) := if ps.any (fun p => p.1 == n) then ps.map (fun p => if p.1 = n then (n, b) else p) else ps ++ [(n, b)]
theorem K6 {mt et : TypeId} {x ky v : Operand} {m clk i : Nat} {n : Int} {c : C} {pl : Pl} {b : β} {cs : List C} (ho : o.op = .mapUpdate mt x ky v) (hK : kg P mt et) (hx : gp K.ET σ x = .u (.c (.v (.map (some r1.pm))))) (hky : gp K.ET σ ky = .u (.c (.v (.int .i64 n)))) (hv : gp K.ET σ v = .u (.agg cs)) (hcs : jY cs = some (Z.va b).toList)
    (hr : σ i = .u (.c c)) (hc : cellAt c pl = some (.x (Z.gQ K.ET m clk L))) (hown : ek c pl = true) (hm : r1 ∈ L) (hd : o.dst = none) : Step P K σ o (dn σ i (.u (.c (setAt c pl (.x (Z.gE K.ET (iy r1.n (fun s => { s with ps := nK n b s.ps }) (L.map Rec.tell)))))))) := by
 refine kK hd ?_; rintro a w ⟨Fs, hs⟩; have e1 := dV hs hx; have e2 := dV hs hky; have e3 := (eW hs hv (by simp)).vals hcs; have e3 : a.eval v = .agg (Z.va b) := by rw [e3]
 obtain ⟨y, Fx, hy, Hw, hin⟩ := hs.nL hr hc hown; obtain ⟨hy2, F', hb, hFx, hRs, hok⟩ := id Hw; obtain ⟨F1, mw, Fa, rfl, CV, qf, yf⟩ := hRs.mem hm; obtain ⟨A, B, rfl⟩ := List.append_of_mem hm
 have key : ∀ (qs : List (Pg β)) (k : Nat), Z.pk.Ok k qs → qs.map Pg.tell = nK n b (r1.ps.map Pg.tell) → (Instr.mapUpdate mt (.map (some r1.pm)) (.int .i64 n) (.agg (Z.va b))).run P w = .ok () (ChangeMaps.setBlock w r1.pm (.map (Z.pk.es qs) k)) →
     ∃ w', (execOp a.eval o).run P w = .ok .skip w' ∧ lz K (dn σ i (.u (.c (setAt c pl (.x (Z.gE K.ET (iy r1.n (fun s => { s with ps := nK n b s.ps }) ((A ++ r1 :: B).map Rec.tell)))))))) a w' := by
   intro qs k hqs ht hrun
   refine ⟨ChangeMaps.setBlock w r1.pm (.map (Z.pk.es qs) k), by simp only [execOp, ho, e1, e2, e3, Sem.run_bind, hrun, Result.andThen_ok, Sem.run_pure], ?_⟩
   refine hs.uO (G := []) (m := r1.pm) ⟨List.nodup_nil, by simp⟩ hr hc hown fu (kL qf) (fun y' Fx' hy' hv' hnd hno => ?_)
   obtain ⟨h1, F2, h2, h3, h4⟩ := yh (r2 := { r1 with ps := qs, pclk := k }) hv' hnd rfl rfl rfl rfl rfl hqs
   refine ⟨h1, F2, ⟨m, clk, _, ?_, h2⟩, h3, h4⟩
   rw [← rB (r1 := r1) (g := fun r => { r with ps := qs, pclk := k }) hok.key]
   refine sD (fun r hr hn => ?_)
   have : r = r1 := jy hok.key hr (List.mem_append_right _ (List.mem_cons_self ..)) hn
   subst this
   simp only [Rec.tell, ht]
 by_cases h : ∃ p ∈ r1.ps, p.ec = n
 · obtain ⟨p, hp, hn⟩ := h; refine key (Z.pk.set n (fun p => { p with ws := b }) r1.ps) r1.pclk (yf.set (fun _ => rfl) (fun _ => rfl)) ?_ (uP hK qf yf.key hp hn rfl); unfold nK Ko.set; rw [if_pos (List.any_eq_true.mpr ⟨p.tell, List.mem_map.mpr ⟨p, hp, rfl⟩, by simpa [Pg.tell] using hn⟩), List.map_map, List.map_map]; apply List.map_congr_left; intro q _; simp only [Function.comp]; show Pg.tell (if q.ec = n then _ else q) = if q.ec = n then _ else _; split
   · rename_i e; simp [Pg.tell, e]
   · rfl
 · have hn : ∀ p ∈ r1.ps, p.ec ≠ n := fun p hp e => h ⟨p, hp, e⟩; refine key (r1.ps ++ [⟨n, r1.pclk, b⟩]) (r1.pclk + 1) (yf.push (x := (⟨n, r1.pclk, b⟩ : Pg β)) rfl hn) ?_ (sE hK qf hn rfl); unfold nK; rw [if_neg, List.map_append]; · rfl
   rw [List.any_eq_true]; rintro ⟨x, hx, e⟩; obtain ⟨p, hp, rfl⟩ := List.mem_map.mp hx; exact hn p hp (by simpa [Pg.tell] using e)
theorem K7 {mt et kt' : TypeId} {x ky : Operand} {m clk i : Nat} {n : Int} {c : C} {pl : Pl} (ho : o.op = .call { callee := .builtin .delete, args := #[x, ky], argTypes := #[mt, kt'] }) (hK : kg P mt et) (hx : gp K.ET σ x = .u (.c (.v (.map (some r1.pm))))) (hky : gp K.ET σ ky = .u (.c (.v (.int .i64 n))))
    (hr : σ i = .u (.c c)) (hc : cellAt c pl = some (.x (Z.gQ K.ET m clk (A ++ r1 :: B)))) (hown : ek c pl = true) (hd : o.dst = none) : Step P K σ o (dn σ i (.u (.c (setAt c pl (.x (Z.gQ K.ET m clk (A ++ { r1 with ps := r1.ps.filter (fun p => p.ec != n) } :: B))))))) := by
 refine sF hd ?_; rintro a w ⟨Fs, hs⟩; have e1 := dV hs hx; have e2 := dV hs hky; obtain ⟨y, Fx, hy, Hw, hin⟩ := hs.nL hr hc hown; obtain ⟨hy2, F', hb, hFx, hRs, hok⟩ := id Hw; obtain ⟨F1, mw, Fa, rfl, CV, qf, yf⟩ := hRs.mem (r := r1) (List.mem_append_right _ (List.mem_cons_self ..)); have hl := sG (P := P) (kt' := kt') (n := n) (ty := o.type) hK qf yf.key; refine ⟨.tuple #[], ChangeMaps.setBlock w r1.pm (.map (Z.pk.es (r1.ps.filter fun p => Z.pk.key p != n)) r1.pclk), ?_, ?_⟩
 · simp [execOp, ho, e1, e2, Sem.run_bind, resolve, invoke, builtin, hl, Result.andThen, pure]
 · refine hs.uO (G := []) (m := r1.pm) ⟨List.nodup_nil, by simp⟩ hr hc hown fu (kL qf) (fun y' Fx' hy' hv' hnd hno => ?_); exact yh (r2 := { r1 with ps := r1.ps.filter (fun p => p.ec != n) }) hv' hnd rfl rfl rfl rfl rfl (yf.filter _)
end
end Go.Proofs.Ytmjnenjeckeklaa.V
namespace Go.Proofs.Ytmjnenjeckeklaa.V
open Go Go.RowKit
section
variable {α β : Type} {Z : Fl α β} {P : Program} {ET : TypeId} {w w' : World} {R : Nat → Prop} {K : Ctx} {σ : St} {a : Act} {Fs : Nat → List Nat} {o : Oper} {d : Nat} {L A B : List (Rec α β)} {r1 r2 : Rec α β} {F : List Nat}
theorem Fl.mine (Z : Fl α β) (l : List α) (c : C) (hc : oV c) : qG [.sl true Z.sz (l.map Z.fa), c] := ⟨⟨rfl, fun r hr => by
  obtain ⟨x, _, rfl⟩ := List.mem_map.mp hr
  exact Z.pl x⟩, hc, trivial⟩
theorem qg {arr : Array Value} {c1 c2 : C} (h : bG ET w R arr.toList [c1, c2] F) : ∃ x y F1 F2, arr = #[x, y] ∧ F = F1 ++ F2 ∧ bP ET w R x c1 F1 ∧ bP ET w R y c2 F2 := by
 generalize hl : arr.toList = l at h
 cases h with
 | @cons x _ xs _ F1 G h t => cases t with
   | @cons y _ ys _ F2 G2 k t => cases t with
     | nil => exact ⟨x, y, F1, F2, Array.ext' hl, by simp, h, k⟩
theorem K8 {mt et : TypeId} {x ky v : Operand} {m clk i : Nat} {n : Int} {c : C} {pl : Pl} {l : List α} {ls : List Nat} (ho : o.op = .mapUpdate mt x ky v) (hK : kg P mt et) (hx : gp K.ET σ x = .u (.c (.v (.map (some m))))) (hky : gp K.ET σ ky = .u (.c (.v (.int .i64 n)))) (hv : Src K σ v (.agg [.sl true Z.sz (l.map Z.fa), .v (.map (some r1.pm))]) ls)
    (hr : cn σ ls i = .u (.c c)) (hc : cellAt c pl = some (.x (Z.gQ K.ET m clk L))) (hown : ek c pl = true) (hm : r1 ∈ L) (hn : r1.n = n) (hd : o.dst = none) : Step P K σ o (dn (cn σ ls) i (.u (.c (setAt c pl (.x (Z.gE K.ET (iy n (fun s => { s with l := l }) (L.map Rec.tell)))))))) := by
 refine kK hd ?_; rintro a w ⟨Fs, hs⟩; have e1 := dV hs hx; have e2 := dV hs hky; obtain ⟨F, Fs', hu, hs', hF, _, _⟩ := hs.take hv; generalize hev : a.eval v = vv at hu
 cases hu with
 | @agg arr _ _ hu =>
 obtain ⟨av, mv, Fa, Fm, rfl, rfl, h1, h2⟩ := qg (hu.mine (R' := fun _ => False) (Z.mine l _ trivial))
 cases h2 with
 | v h2 =>
 obtain ⟨y, Fx, hy, Hw, hin⟩ := hs'.nL hr hc hown; obtain ⟨hy2, F', hb, hFx, hRs, hok⟩ := id Hw; have hup := uP (P := P) (v := .agg #[av, .map (some r1.pm)]) (g := fun r => { r with av := av, l := l, pm := r1.pm }) hK hb hok.key hm hn (by rfl); obtain ⟨A, B, rfl⟩ := List.append_of_mem hm; subst hn; rw [rB hok.key] at hup; refine ⟨ChangeMaps.setBlock w m (.map (rk.es (A ++ { r1 with av := av, l := l, pm := r1.pm } :: B)) clk), by simp only [execOp, ho, e1, e2, hev, Sem.run_bind, hup, Result.andThen_ok, Sem.run_pure], ?_⟩; refine hs'.uO (G := Fa ++ []) (m := m) hF hr hc hown fu (kL hb) (fun y' Fx' hy' hv' hnd hno => ?_); obtain ⟨rfl, F2, de, rfl, Ek, El⟩ := hv'; obtain ⟨n1, n2⟩ := List.nodup_cons.mp hnd; refine ⟨List.mem_cons_self .., ?_⟩
 obtain ⟨F3, k1, k2, k3⟩ := Ek.turn (r2 := { r1 with av := av, l := l }) (w' := ChangeMaps.setBlock w m (.map (rk.es (A ++ { r1 with av := av, l := l, pm := r1.pm } :: B)) clk)) (G := Fa ++ []) (b := m) n2 (fun x _ hx => eA hx) (fun F1 mw we hs1 => by
  obtain ⟨Fa1, rfl, q1, q2, q3⟩ := mw; have hpm := hs1 r1.pm (List.mem_cons_self ..); refine ⟨.inr n1, r1.pm :: Fa, ⟨Fa, rfl, h1.frame (fun _ h => h) (fun b9 hb => eA (fun e => ?_)), (eA (fun e => ?_)).trans q2, q3⟩, ?_, ?_⟩
  · have K9 := hb.resolve_right id; rw [e] at K9; exact hno _ (List.mem_cons_self ..) (List.mem_append_left _ K9)
  · exact n1 (e ▸ hpm)
  · refine List.nodup_cons.mpr ⟨fun h => hno _ (List.mem_cons_of_mem _ hpm) (List.mem_append_left _ h), (List.nodup_append.mp hF.1).1⟩
  · intro x hx; rcases List.mem_cons.mp hx with rfl | hx
    · exact .inl (List.mem_cons_self ..)
    · exact .inr (List.mem_append_left _ hx)) (fun x hx => hno x (List.mem_cons_of_mem _ hx))
 refine ⟨m :: F3, ⟨m, clk, A ++ { r1 with av := av, l := l } :: B, ?_, rfl, F3, iY de, rfl, k1, BX El rfl rfl⟩, ?_, ?_⟩
 · rw [← rB (r1 := r1) (g := fun r => { r with av := av, l := l }) hok.key]; exact sD (fun r hr hn => rfl)
 · refine List.nodup_cons.mpr ⟨fun h => ?_, k2⟩; rcases k3 m h with h | h
   · exact n1 h
   · exact hno m (List.mem_cons_self ..) h
 · intro b hb; rcases List.mem_cons.mp hb with rfl | hb
   · exact .inl (List.mem_cons_self ..)
   · exact (k3 b hb).imp (List.mem_cons_of_mem _) id
theorem Hx {mt et : TypeId} {x ky v : Operand} {m clk i : Nat} {n : Int} {c : C} {pl : Pl} {l : List α} {ps : List (Int × β)} {ls : List Nat} (ho : o.op = .mapUpdate mt x ky v) (hK : kg P mt et) (hx : gp K.ET σ x = .u (.c (.v (.map (some m))))) (hky : gp K.ET σ ky = .u (.c (.v (.int .i64 n)))) (hv : Src K σ v (.agg [.sl true Z.sz (l.map Z.fa), .x (Z.pE ps)]) ls)
    (hr : cn σ ls i = .u (.c c)) (hc : cellAt c pl = some (.x (Z.gQ K.ET m clk L))) (hown : ek c pl = true) (hm : ∀ r ∈ L, r.n ≠ n) (hd : o.dst = none) : Step P K σ o (dn (cn σ ls) i (.u (.c (setAt c pl (.x (Z.gE K.ET (L.map Rec.tell ++ [⟨n, l, ps⟩]))))))) := by
 refine kK hd ?_; rintro a w ⟨Fs, hs⟩; have e1 := dV hs hx; have e2 := dV hs hky; obtain ⟨F, Fs', hu, hs', hF, _, _⟩ := hs.take hv; generalize hev : a.eval v = vv at hu
 cases hu with
 | @agg arr _ _ hu =>
 obtain ⟨av, mv, Fa, Fm, rfl, rfl, h1, h2⟩ := qg (hu.mine (R' := fun _ => False) (Z.mine l _ trivial))
 cases h2 with
 | x h2 =>
 obtain ⟨pm, pclk, qs, hqs, rfl, hpb, rfl, hpok⟩ := h2; obtain ⟨y, Fx, hy, Hw, hin⟩ := hs'.nL hr hc hown; obtain ⟨hy2, F', hb, hFx, hRs, hok⟩ := id Hw; have hup := sE (P := P) (k := rk (α := α) (β := β)) (v := .agg #[av, .map (some pm)]) (x := ⟨n, clk, av, l, pm, pclk, qs⟩) hK hb hm rfl; refine ⟨ChangeMaps.setBlock w m (.map (rk.es (L ++ [⟨n, clk, av, l, pm, pclk, qs⟩])) (clk + 1)), by simp only [execOp, ho, e1, e2, hev, Sem.run_bind, hup, Result.andThen_ok, Sem.run_pure], ?_⟩; refine hs'.uO (G := Fa ++ [pm]) (m := m) hF hr hc hown fu (kL hb) (fun y' Fx' hy' hv' hnd hno => ?_); obtain ⟨rfl, F2, de, rfl, Ek, El⟩ := hv'; obtain ⟨n1, n2⟩ := List.nodup_cons.mp hnd; have hmG := hno m (List.mem_cons_self ..); obtain ⟨m1, m2, m3⟩ := List.nodup_append.mp hF.1; refine ⟨List.mem_cons_self .., m :: (F2 ++ ((pm :: Fa) ++ [])), ⟨m, clk + 1, L ++ [⟨n, clk, av, l, pm, pclk, qs⟩], ?_, rfl, _, iY de, rfl, ?_, ?_⟩, ?_, ?_⟩
 · rw [List.map_append, List.map_singleton]; simp only [Rec.tell, hqs]
 · refine (Ek.frame (fun b K9 => eA (fun e => n1 (by rw [← e]; exact K9)))).app ⟨pm :: Fa, [], rfl, ⟨Fa, rfl, h1.frame (fun _ h => h) (fun b9 hb => eA (fun e => ?_)), (eA (fun e => ?_)).trans hpb, hpok⟩, rfl⟩
   · have K9 := hb.resolve_right id; rw [e] at K9; exact hmG (List.mem_append_left _ K9)
   · exact hmG (List.mem_append_right _ (List.mem_singleton.mpr e.symm))
 · exact El.push rfl hm
 · rw [List.append_nil]; refine List.nodup_cons.mpr ⟨fun h => ?_, List.nodup_append.mpr ⟨n2, List.nodup_cons.mpr ⟨fun h => m3 pm h pm (List.mem_singleton.mpr rfl) rfl, m1⟩, fun x hx z hz e => ?_⟩⟩
   · rcases List.mem_append.mp h with h | h
     · exact n1 h
     · rcases List.mem_cons.mp h with h | h
       · exact hmG (List.mem_append_right _ (by rw [h]; exact List.mem_singleton.mpr rfl))
       · exact hmG (List.mem_append_left _ h)
   · subst e; refine hno x (List.mem_cons_of_mem _ hx) ?_; rcases List.mem_cons.mp hz with h | h
     · exact List.mem_append_right _ (by rw [h]; exact List.mem_singleton.mpr rfl)
     · exact List.mem_append_left _ h
 · intro b hb; rw [List.append_nil] at hb; rcases List.mem_cons.mp hb with rfl | hb
   · exact .inl (List.mem_cons_self ..)
   · rcases List.mem_append.mp hb with hb | hb
     · exact .inl (List.mem_cons_of_mem _ hb)
     · rcases List.mem_cons.mp hb with rfl | hb
       · exact .inr (List.mem_append_right _ (List.mem_singleton.mpr rfl))
       · exact .inr (List.mem_append_left _ hb)
theorem Fl.dM.filter (p : Rec α β → Bool) : ∀ {L : List (Rec α β)} {F : List Nat}, Z.dM ET w L F → ∃ F2, Z.dM ET w (L.filter p) F2 ∧ F2.Sublist F
  | [], F, h => ⟨F, h, List.Sublist.refl _⟩
  | r :: L, F, ⟨F1, F2, e, h1, h2⟩ => by
    obtain ⟨G, h3, h4⟩ := Fl.dM.filter p h2
    rw [e, List.filter_cons]
    split
    · exact ⟨F1 ++ G, ⟨F1, G, rfl, h1, h3⟩, (List.Sublist.refl _).append h4⟩
    · exact ⟨G, h3, h4.trans (List.sublist_append_right _ _)⟩
theorem La {mt et kt' : TypeId} {x ky : Operand} {m clk i : Nat} {n : Int} {c : C} {pl : Pl} (ho : o.op = .call { callee := .builtin .delete, args := #[x, ky], argTypes := #[mt, kt'] }) (hK : kg P mt et) (hx : gp K.ET σ x = .u (.c (.v (.map (some m))))) (hky : gp K.ET σ ky = .u (.c (.v (.int .i64 n))))
    (hr : σ i = .u (.c c)) (hc : cellAt c pl = some (.x (Z.gQ K.ET m clk L))) (hown : ek c pl = true) (hd : o.dst = none) : Step P K σ o (dn σ i (.u (.c (setAt c pl (.x (Z.gE K.ET ((L.map Rec.tell).filter (fun s => s.n != n)))))))) := by
 refine sF hd ?_; rintro a w ⟨Fs, hs⟩; have e1 := dV hs hx; have e2 := dV hs hky; obtain ⟨y, Fx, hy, Hw, hin⟩ := hs.nL hr hc hown; obtain ⟨hy2, F', hb, hFx, hRs, hok⟩ := id Hw; have hl := sG (P := P) (kt' := kt') (n := n) (ty := o.type) hK hb hok.key; refine ⟨.tuple #[], _, ?_, hs.uO (w' := ChangeMaps.setBlock w m (.map (rk.es (L.filter fun y => rk.key y != n)) clk)) (G := []) (m := m) ⟨List.nodup_nil, by simp⟩ hr hc hown fu (kL hb) (fun y' Fx' hy' hv' hnd hno => ?_)⟩
 · simp [execOp, ho, e1, e2, Sem.run_bind, resolve, invoke, builtin, hl, Result.andThen, pure]
 · obtain ⟨rfl, F2, de, rfl, Ek, El⟩ := hv'; obtain ⟨n1, n2⟩ := List.nodup_cons.mp hnd; obtain ⟨F3, k1, k2⟩ := Ek.filter (fun y => rk.key y != n); refine ⟨List.mem_cons_self .., m :: F3, ⟨m, clk, _, ?_, rfl, F3, iY de, rfl, k1.frame (fun b hb => eA (fun e => n1 (k2.subset (e ▸ hb)))), El.filter _⟩, List.nodup_cons.mpr ⟨fun h => n1 (k2.subset h), k2.nodup n2⟩, fun b hb => .inl ?_⟩
   · rw [List.filter_map]; rfl
   · rcases List.mem_cons.mp hb with rfl | hb
     · exact List.mem_cons_self ..
     · exact List.mem_cons_of_mem _ (k2.subset hb)
theorem Hy (Z : Fl α β) {t : TypeId} (ho : o.op = .makeMap t none) (hd : o.dst = some d) (hn : gF K d = true) : Step P K σ o (put σ d (.u (.c (.x (Z.pE []))))) := by
 rintro a w ⟨Fs, hs⟩
 have hrun : (execOp a.eval o).run P w = .ok (.value (.map (some w.heap.size))) (w.alloc (.map #[] 0)) := by
  simp [execOp, ho, Instr.makeMap, newObj, Sem.run, pure]
 simp only [Oper.wp, hrun, Oper.upon_value, hd]
 exact ⟨_, hs.jS hn (bU.alloc w _) (F := [w.heap.size]) (fun b hb => by
  rw [List.mem_singleton] at hb; subst hb
  exact ⟨fun j hj => Nat.lt_irrefl _ ((hs.rep j).lt _ hj), fun hR => Nat.lt_irrefl _ (Nat.lt_of_lt_of_le (hs.ro _ hR).1 hs.keeps.size), .inr hs.keeps.size⟩) (by simp) (.u (.c (.x ⟨w.heap.size, 0, [], rfl, rfl, gi w _, rfl, .nil 0⟩)))⟩
theorem Hz (Z : Fl α β) {t : TypeId} (ho : o.op = .makeMap t none) (hd : o.dst = some d) (hn : gF K d = true) : Step P K σ o (put σ d (.u (.c (.x (Z.gE K.ET []))))) := by
 rintro a w ⟨Fs, hs⟩
 have hrun : (execOp a.eval o).run P w = .ok (.value (.map (some w.heap.size))) (w.alloc (.map #[] 0)) := by
  simp [execOp, ho, Instr.makeMap, newObj, Sem.run, pure]
 simp only [Oper.wp, hrun, Oper.upon_value, hd]
 exact ⟨_, hs.jS hn (bU.alloc w _) (F := [w.heap.size]) (fun b hb => by
  rw [List.mem_singleton] at hb; subst hb
  exact ⟨fun j hj => Nat.lt_irrefl _ ((hs.rep j).lt _ hj), fun hR => Nat.lt_irrefl _ (Nat.lt_of_lt_of_le (hs.ro _ hR).1 hs.keeps.size), .inr hs.keeps.size⟩) (by simp) (.u (.c (.x ⟨w.heap.size, 0, [], rfl, rfl, [], gi w _, rfl, rfl, .nil 0⟩)))⟩
end
end Go.Proofs.Ytmjnenjeckeklaa.V
namespace Go.Proofs.Ytmjnenjeckeklaa.V
open Go Go.RowKit
def AL (P : Program) (K : Ctx) (ops : Array Oper) (i : Nat) (σ : St) (S : St → Prop) : Prop := ∀ a w, lz K σ a w → wpOp P ops (fun _ _ _ => False) i (fun a' w' => ∃ σ1, S σ1 ∧ lz K σ1 a' w') a w
section
variable {α β : Type} {Z : Fl α β} {P : Program} {ET : TypeId} {w w' : World} {R : Nat → Prop} {K : Ctx} {σ : St} {a : Act} {Fs : Nat → List Nat} {o : Oper} {d : Nat} {L A B : List (Rec α β)} {r1 r2 : Rec α β} {F : List Nat} {ops : Array Oper}
theorem Dq {id n : Nat} {S : St → Prop} {Q : Exit → St → Prop} (hn : ops.size = n + 1) (h0 : AL P K ops 0 σ S) (h : ∀ σ1, S σ1 → ∃ σ2, gR P K ops 1 n σ1 σ2 ∧ Q .normal σ2) : fX P K (.region id ops false) σ Q := by
 intro a w hs; refine wp_region ?_; rw [List.range_eq_range', hn, List.range'_succ, wpOps_cons]; refine tv (h0 a w hs) (fun a w ⟨σ1, h1, h2⟩ => ?_); obtain ⟨σ2, h3, h4⟩ := h σ1 h1; exact vq h3 (fun a w hs => ⟨σ2, hs, h4⟩) a w h2
theorem rrN {id n : Nat} {S : St → Prop} {Q : Exit → St → Prop} (hn : ops.size = n + 1) (h0 : AL P K ops 0 σ S) (h : ∀ σ1, S σ1 → ∃ l σ2, gR P K ops 1 n σ1 σ2 ∧ at_ σ2 l = l ∧ Q .normal (St.of l)) : fX P K (.region id ops false) σ Q := by
 intro a w hs
 refine wp_mono (Dq (id := id) (Q := fun e s => e = .normal ∧ ∃ l, at_ s l = l ∧ Q .normal (St.of l)) hn h0 (fun σ1 h1 => by
  obtain ⟨l, σ2, h2, h3, h4⟩ := h σ1 h1
  exact ⟨σ2, h2, rfl, l, h3, h4⟩) a w hs) ?_
 rintro e a' w' ⟨s, h1, rfl, l, h2, h3⟩; exact ⟨St.of l, h1.weaken (au h2), h3⟩
theorem Fv {mt kt et : TypeId} {x : Operand} {m clk i : Nat} {c : C} {pl : Pl} (ho : o.op = .range mt x) (hm : P.underlying mt = some (.map kt et)) (hx : gp K.ET σ x = .u (.c (.v (.map (some r1.pm))))) (hr : σ i = .u (.c c)) (hc : cellAt c pl = some (.x (Z.gQ K.ET m clk L))) (hown : ek c pl = true) (hmem : r1 ∈ L)
    (hd : o.dst = some d) (hn : gF K d = true) : Step P K σ o (put σ d (.u (.c (.x (tw r1.pm r1.pclk [] r1.pclk))))) := by
 rintro a w ⟨Fs, hs⟩; have e1 := dV hs hx; obtain ⟨y, Fx, hy, ⟨hy2, F', hb, hFx, hRs, hok⟩, hin⟩ := hs.nL hr hc hown; obtain ⟨F1, mw, Fa, rfl, CV, qf, yf⟩ := hRs.mem hmem
 have hrun : (execOp a.eval o).run P w = .ok (.value (.pointer (some ⟨w.heap.size, 0, none⟩))) (w.alloc (.mapIter (some r1.pm) r1.pclk #[] r1.pclk)) := by
  simp [execOp, ho, e1, Instr.range, run_underlying hm, MapKept.run_getObj_map qf, newObj, Sem.run, Sem.run_bind, Result.andThen, pure]
 simp only [Oper.wp, hrun, Oper.upon_value, hd]
 exact ⟨_, hs.jS hn (bU.alloc w _) (F := [w.heap.size]) (fun b hb => by
  rw [List.mem_singleton] at hb; subst hb
  exact ⟨fun j hj => Nat.lt_irrefl _ ((hs.rep j).lt _ hj), fun hR => Nat.lt_irrefl _ (Nat.lt_of_lt_of_le (hs.ro _ hR).1 hs.keeps.size), .inr hs.keeps.size⟩) (by simp) (.u (.c (.x ⟨w.heap.size, rfl, gi w _, rfl⟩)))⟩
theorem Fw {X : Type} {k : Ko X} {xs : List X} {seen : List Nat} {e : MapEntry} (h : e ∈ (leftOf (k.es xs) seen.toArray).toList) : ∃ x ∈ xs, e = k.kJ x ∧ k.born x ∉ seen := by
 unfold leftOf at h; have h1 := Array.mem_filter.mp (Array.mem_toList_iff.mp h); obtain ⟨h1, h2⟩ := h1
 have h3 : e ∈ xs.map k.kJ := by
  have := Array.mem_toList_iff.mpr h1; exact this
 obtain ⟨x, hx, rfl⟩ := List.mem_map.mp h3; exact ⟨x, hx, rfl, by simpa [Ko.kJ] using h2⟩
theorem Dr {X : Type} {k : Ko X} {xs : List X} {seen : List Nat} (h : (leftOf (k.es xs) seen.toArray).size = 0) : ∀ x ∈ xs, k.born x ∈ seen := by
 intro x hx; have h1 := Array.eq_empty_of_size_eq_zero h; unfold leftOf at h1; rw [Array.filter_eq_empty_iff] at h1
 have := h1 (k.kJ x) (by
  show k.kJ x ∈ (xs.map k.kJ).toArray
  simpa using ⟨x, hx, rfl⟩)
 simpa [Ko.kJ] using this
theorem IS {m clk i j : Nat} {since last : Nat} {seen : List Nat} {c : C} {pl : Pl} (h0 : ops[0]? = some o) (hg : o.guard = none) (ho : o.op = .next (.tmp j) false) (hj : σ j = .u (.c (.x (tw r1.pm since seen last)))) (hr : σ i = .u (.c c)) (hc : cellAt c pl = some (.x (Z.gQ K.ET m clk L))) (hown : ek c pl = true) (hmem : r1 ∈ L)
    (hsince : since = r1.pclk) (hlast : since ≤ last) (hd : o.dst = some d) (hn : gF K d = true) :
    AL P K ops 0 σ (fun σ1 => (σ1 = put σ d (.tup [.c (.v (.bool false))]) ∧ ∀ p ∈ r1.ps, p.born ∈ seen) ∨ ∃ p ∈ r1.ps, p.born ∉ seen ∧ σ1 = put (dn σ j (.u (.c (.x (tw r1.pm since (seen ++ [p.born]) r1.pclk))))) d (.tup [.c (.v (.bool true)), .c .dead, .c .dead])) := by
     rintro a w ⟨Fs, hs⟩; obtain ⟨y, Fx, hy, ⟨hy2, F', hb, hFx, hRs, hok⟩, hin⟩ := hs.nL hr hc hown; obtain ⟨F1, mw, Fa, rfl, CV, qf, yf⟩ := hRs.mem hmem; obtain ⟨v, Fi, hv, ⟨b, uz, de, _⟩, _⟩ := hs.nL (pl := none) hj rfl rfl; simp only [iu, Option.some.injEq] at hv; unfold wpOp; rw [h0]; simp only; rw [if_pos (by simp [Region.wanted, hg])]; refine .inl ?_
     have hold : ∀ x ∈ (Z.pk.es r1.ps).toList, x.born < since := by
      intro x hx; obtain ⟨p, hp, rfl⟩ := List.mem_map.mp (show x ∈ r1.ps.map Z.pk.kJ from hx); rw [hsince]; exact yf.lt p hp
     have he : (execOp a.eval o).run P w = ((Instr.next (.pointer (some ⟨b, 0, none⟩)) false o.type).run P w).andThen fun v w' => .ok (.value v) w' := by
      simp only [execOp, ho, eL, hv, uz, Sem.run_bind, Sem.run_pure]
     rcases run_next_at (P := P) w o.type b r1.pm since last seen.toArray (Z.pk.es r1.ps) r1.pclk de qf hold hlast with ⟨h1, h2⟩ | ⟨e, he1, w1, hw1, h2⟩
     · rw [h2] at he; simp only [Oper.wp, he, Result.andThen, Oper.upon_value, hd]; exact ⟨_, .inl ⟨rfl, Dr h1⟩, _, hs.jS hn (bU.refl _ _) (F := []) (by simp) List.nodup_nil (.tup (.cons (F := []) (.c (.v rfl)) .nil))⟩
     · obtain ⟨p, hp, rfl, hps⟩ := Fw he1; rw [h2] at he; simp only [Oper.wp, he, Result.andThen, Oper.upon_value, hd]; have hw1h : w1.heap = w.heap := by rcases hw1 with rfl | rfl <;> rfl
       have OR : w1.heap[b]? = some (.mapIter (some r1.pm) since seen.toArray last) := by rw [hw1h]; exact de
       have hk : bU w [b] (ChangeMaps.setBlock w1 b (.mapIter (some r1.pm) since (seen.toArray.push (Z.pk.kJ p).born) r1.pclk)) := by
        rcases hw1 with rfl | rfl
        · exact fu
        · exact ⟨rfl, rfl, rfl, by
           show w.heap.size ≤ (w.heap.setIfInBounds b _).size
           rw [Array.size_setIfInBounds]; exact Nat.le_refl _, fun x _ hx => by
           have : x ≠ b := fun e => hx (by simp [e]); show (w.heap.setIfInBounds b _)[x]? = _
           exact Array.getElem?_setIfInBounds_ne (Ne.symm this)⟩
       obtain ⟨rH, h3⟩ := hs.uO (G := []) (q' := tw r1.pm since (seen ++ [p.born]) r1.pclk) ⟨List.nodup_nil, by simp⟩ hj (pl := none) rfl rfl (w' := ChangeMaps.setBlock w1 b (.mapIter (some r1.pm) since (seen.toArray.push (Z.pk.kJ p).born) r1.pclk)) (m := b) hk (fun ad v hc => by
           refine Au OR ad v ?_
           unfold World.cell? at hc ⊢
           rw [hw1h]; exact hc) (fun y' Fx' hy' ⟨b', OS, hb2'', hFx'⟩ hnd hno => by
         simp only [iu, Option.some.injEq] at hy'
         have hbb : b' = b := by
           have e := hy'.symm.trans hv
           rw [OS, uz] at e
           injection e with e; injection e with e; injection e
         subst hbb
         subst hFx'
         exact ⟨List.mem_singleton.mpr rfl, [b'], ⟨b', OS, by rw [iY OR]; simp [Fl.pk, Ko.kJ], rfl⟩, by simp, fun b hb => .inl hb⟩)
       exact ⟨_, .inr ⟨p, hp, hps, rfl⟩, _, h3.jS hn (bU.refl _ _) (F := []) (by simp) List.nodup_nil (.tup (.cons (F := []) (.c (.v rfl)) (.cons (F := []) (.c (.dead _)) (.cons (F := []) (.c (.dead _)) .nil))))⟩
theorem Fy {m clk i j since : Nat} {seen : List Nat} {p : Pg β} {c : C} {pl : Pl} (ho : o.op = .entry (.tmp j)) (hj : σ j = .u (.c (.x (tw r1.pm since (seen ++ [p.born]) r1.pclk)))) (hr : σ i = .u (.c c)) (hc : cellAt c pl = some (.x (Z.gQ K.ET m clk L))) (hown : ek c pl = true) (hmem : r1 ∈ L) (hp : p ∈ r1.ps)
    (hd : o.dst = some d) (hn : gF K d = true) : Step P K σ o (put σ d (.tup [.c (.v (.int .i64 p.ec)), .agg (Z.fw p.ws)])) :=
  bW hd hn rfl (fun a w Fs hs => by
    obtain ⟨y, Fx, hy, ⟨hy2, F', hb, hFx, hRs, hok⟩, hin⟩ := hs.nL hr hc hown
    obtain ⟨F1, mw, Fa, rfl, CV, qf, yf⟩ := hRs.mem hmem
    obtain ⟨v, Fi, hv, ⟨b, uz, de, _⟩, _⟩ := hs.nL (pl := none) hj rfl rfl
    simp only [iu, Option.some.injEq] at hv
    have hl := run_entry_at (P := P) w b r1.pm since seen.toArray (Z.pk.es r1.ps) r1.pclk (Z.pk.kJ p) (by rw [de]; simp [Fl.pk, Ko.kJ]) qf (List.mem_map.mpr ⟨p, hp, rfl⟩) (by
      show ((r1.ps.map Z.pk.kJ).map MapEntry.born).Nodup
      rw [List.map_map]; exact yf.born)
    refine ⟨_, ?_, .tup (.cons (F := []) (.c (.v rfl)) (.cons (F := []) (.agg (Z.rep _ _ _ p.ws)) .nil))⟩
    simp only [execOp, ho, eL, hv, uz, Sem.run_bind, hl, Result.andThen_ok, Sem.run_pure]
    rfl)
theorem LH {x : Operand} {m clk i : Nat} {c : C} {pl : Pl} (hx : gp K.ET σ x = .u (.c (.x (uD r1.av)))) (hr : σ i = .u (.c c)) (hc : cellAt c pl = some (.x (Z.gQ K.ET m clk L))) (hown : ek c pl = true) (hmem : r1 ∈ L) : qu K σ x (.c (.sl false Z.sz (r1.l.map Z.fa))) :=
  .sem (fun a w Fs hs => by
    obtain ⟨y, Fx, hy, ⟨hy2, F', hb, hFx, hRs, hok⟩, hin⟩ := hs.nL hr hc hown
    obtain ⟨F1, mw, Fa, rfl, CV, qf, yf⟩ := hRs.mem hmem
    have h1 := eW hs hx (by simp)
    generalize a.eval x = v at h1 ⊢
    cases h1 with
    | u h1 => cases h1 with
      | c h1 => cases h1 with
        | x h1 =>
          rw [h1.1]
          refine .c (CV.jV (fun r hr => ?_) (fun b hb => .inr ⟨i, hin b (by rw [hFx]; exact List.mem_cons_of_mem _ (mw b (List.mem_cons_of_mem _ hb)))⟩) (fun b hb => hb.elim))
          obtain ⟨z, _, rfl⟩ := List.mem_map.mp hr
          rw [List.all_eq_true]
          intro c hc
          have := List.all_eq_true.mp (Z.pl z) c hc
          cases c <;> first | rfl | cases this)
theorem vr {args : Array Operand} {tys : Array TypeId} {f : FuncId} {res : List U} (ho : o.op = .call { callee := .value (.func f), args := args, argTypes := tys }) (hf : CX P f)
    (h : ∀ a w Fs, dw K σ a w Fs → Calls P f (args.toList.map a.eval).toArray w (fun e w' => ∃ rv H, e = .returned rv ∧ bU w [] w' ∧ kz K.ET w' (fun _ => False) rv res H ∧ H.Nodup ∧ ∀ b ∈ H, w.heap.size ≤ b)) (hm : mM res) (hd : o.dst = some d) (hn : gF K d = true) : Step P K σ o (put σ d (q8 res)) := by
 rintro a w ⟨Fs, hsim⟩; obtain ⟨vc, hvc, hrun⟩ := tc (P := P) ho rD hf hsim; cases hvc; simp only [Oper.wp, hrun, Oper.upon_enter, List.append_nil]; refine (h a w Fs hsim).mono ?_; rintro e w2 ⟨rv, H, rfl, hk, hR, hnd, hlt⟩
 have hfree : lG K Fs H := ⟨hnd, fun b hb => by
  have h := hlt b hb; refine ⟨fun j hj => ?_, fun hR => ?_, .inr (Nat.le_trans hsim.keeps.size h)⟩
  · have := (hsim.rep j).lt b hj; omega
  · have := Nat.lt_of_lt_of_le (hsim.ro b hR).1 hsim.keeps.size; omega⟩
 rw [hd]; exact ⟨_, hsim.jS hn hk hfree.2 hfree.1 ((hR.mine hm).LG.wB (qt res d))⟩
end
end Go.Proofs.Ytmjnenjeckeklaa.V
namespace Go.Proofs.Ytmjnenjeckeklaa.V
open Go Go.RowKit
section
variable {α β : Type}
def dJ (W : List (ji α β)) (n : Int) : Option (ji α β) := W.find? fun s => s.n == n
def cN (z : β) (ps : List (Int × β)) (n : Int) : β := ((ps.find? fun p => p.1 == n).map Prod.snd).getD z
variable {Z : Fl α β} {P : Program} {ET : TypeId} {w w' : World} {R : Nat → Prop} {K : Ctx} {σ : St} {a : Act} {Fs : Nat → List Nat} {o : Oper} {d : Nat} {L A B : List (Rec α β)} {r1 r2 : Rec α β} {F : List Nat} {W : List (ji α β)} {n : Int} {s1 : ji α β}
theorem eV (hL : L.map Rec.tell = W) (h : dJ W n = none) : ∀ r ∈ L, r.n ≠ n := by
 intro r hr e; subst hL; have := List.find?_eq_none.mp h r.tell (List.mem_map.mpr ⟨r, hr, rfl⟩); exact this (by simpa [Rec.tell] using e)
theorem eM (hL : L.map Rec.tell = W) (h : dJ W n = some s1) : ∃ r ∈ L, r.n = n ∧ r.tell = s1 := by
 subst hL; have h1 := List.mem_of_find?_eq_some h; have h2 := List.find?_some h; obtain ⟨r, hr, rfl⟩ := List.mem_map.mp h1; exact ⟨r, hr, by simpa [Rec.tell] using h2, rfl⟩
theorem elim_none {γ δ : Type} {x : Option γ} {f : δ} {g : γ → δ} {r : δ} (hx : x = none) (h : x.elim f g = r) : f = r := by subst hx; exact h
theorem elim_some {γ δ : Type} {x : Option γ} {y : γ} {f : δ} {g : γ → δ} {r : δ} (hx : x = some y) (h : x.elim f g = r) : g y = r := by subst hx; exact h
theorem cp {i m clk : Nat} {c : C} {pl : Pl} {x : Code} {Q : Exit → St → Prop} (hL : L.map Rec.tell = W) (hr : σ i = .u (.c c)) (hx : cellAt c pl = some (.x (Z.gQ K.ET m clk L))) (ho : ek c pl = true) (h : fX P K x (dn σ i (.u (.c (setAt c pl (.x (Z.gE K.ET W)))))) Q) : fX P K x σ Q := by
 subst hL; exact Ej hr hx ho h
theorem dr {t i r off m clk : Nat} {s : ef} {p : List (Nat × ef)} {c : C} {cs : List C} (ho : o.op = .load t (.tmp i)) (ht : Az P t) (hi : cR i (σ i) = .addr r s p off) (hr : σ r = .u (.c c)) (hg : gK c s p = some cs)
    (hx : cs[off]? = some (.x (Z.gQ K.ET m clk L))) (hd : o.dst = some d) (hn : gF K d = true) : Step P K σ o (put σ d (.u (.c (.v (.map (some m)))))) :=
  bW hd hn rfl (fun a w Fs hs => by
    obtain ⟨b, o', arr, et, Fi, h1, h2, h3, h4, _⟩ := hs.place hi hr hg
    obtain ⟨y, F1, Fj, F2, hy, _, hrx, _⟩ := h4.at_ hx
    cases hrx with
    | x hrx =>
      obtain ⟨rfl, _⟩ := hrx
      have hcell := eB h2 hy
      refine ⟨_, ?_, .u (.c (.v rfl))⟩
      simp only [execOp, ho, h1, Sem.run_bind, nw ht hcell, Result.andThen_ok, Sem.run_pure])
theorem yF {mt et : TypeId} {x ky : Operand} {m clk i : Nat} {n : Int} {c : C} {pl : Pl} {z : β} (hs : r1.tell = s1) (ho : o.op = .lookup mt x ky false) (hK : kg P mt et) (hZ : yG P et (Z.fw z)) (hx : gp K.ET σ x = .u (.c (.v (.map (some r1.pm))))) (hky : gp K.ET σ ky = .u (.c (.v (.int .i64 n)))) (hr : σ i = .u (.c c))
    (hc : cellAt c pl = some (.x (Z.gQ K.ET m clk L))) (hown : ek c pl = true) (hm : r1 ∈ L) (hd : o.dst = some d) (hn' : gF K d = true) : Step P K σ o (put σ d (.u (.agg (Z.fw (cN z s1.ps n))))) := by
 subst hs; unfold cN
 cases hf : r1.tell.ps.find? (fun p => p.1 == n) with
 | none =>
  exact EV ho hK hZ hx hky hr hc hown hm (fun p hp e => List.find?_eq_none.mp hf p.tell (List.mem_map.mpr ⟨p, hp, rfl⟩) (by simpa [Pg.tell] using e)) hd hn'
 | some q =>
  have h1 := List.mem_of_find?_eq_some hf; have h2 := List.find?_some hf; obtain ⟨p, hp, rfl⟩ := List.mem_map.mp h1; exact Ie ho hK hx hky hr hc hown hm hp (by simpa [Pg.tell] using h2) hd hn'
end
section
variable {α β : Type} {Z : Fl α β} {P : Program} {K : Ctx} {σ : St} {o : Oper} {d : Nat} {L : List (Rec α β)} {r1 : Rec α β} {W : List (ji α β)} {s1 : ji α β}
theorem Ig {mt et : TypeId} {x ky v : Operand} {m clk i : Nat} {n n0 : Int} {c : C} {pl : Pl} {b : β} {cs : List C} (hL : L.map Rec.tell = W) (hn0 : r1.n = n0) (ho : o.op = .mapUpdate mt x ky v) (hK : kg P mt et) (hx : gp K.ET σ x = .u (.c (.v (.map (some r1.pm))))) (hky : gp K.ET σ ky = .u (.c (.v (.int .i64 n)))) (hv : gp K.ET σ v = .u (.agg cs)) (hcs : jY cs = some (Z.va b).toList)
    (hr : σ i = .u (.c c)) (hc : cellAt c pl = some (.x (Z.gQ K.ET m clk L))) (hown : ek c pl = true) (hm : r1 ∈ L) (hd : o.dst = none) : Step P K σ o (dn σ i (.u (.c (setAt c pl (.x (Z.gE K.ET (iy n0 (fun s => { s with ps := nK n b s.ps }) W))))))) := by
 subst hL hn0; exact K6 ho hK hx hky hv hcs hr hc hown hm hd
theorem Ih {mt et : TypeId} {x ky v : Operand} {m clk i : Nat} {n : Int} {c : C} {pl : Pl} {l : List α} {ls : List Nat} (hL : L.map Rec.tell = W) (ho : o.op = .mapUpdate mt x ky v) (hK : kg P mt et) (hx : gp K.ET σ x = .u (.c (.v (.map (some m))))) (hky : gp K.ET σ ky = .u (.c (.v (.int .i64 n)))) (hv : Src K σ v (.agg [.sl true Z.sz (l.map Z.fa), .v (.map (some r1.pm))]) ls)
    (hr : cn σ ls i = .u (.c c)) (hc : cellAt c pl = some (.x (Z.gQ K.ET m clk L))) (hown : ek c pl = true) (hm : r1 ∈ L) (hn : r1.n = n) (hd : o.dst = none) : Step P K σ o (dn (cn σ ls) i (.u (.c (setAt c pl (.x (Z.gE K.ET (iy n (fun s => { s with l := l }) W))))))) := by
 subst hL; exact K8 ho hK hx hky hv hr hc hown hm hn hd
theorem yH {mt et : TypeId} {x ky v : Operand} {m clk i : Nat} {n : Int} {c : C} {pl : Pl} {l : List α} {ps : List (Int × β)} {ls : List Nat} (hL : L.map Rec.tell = W) (hm : dJ W n = none) (ho : o.op = .mapUpdate mt x ky v) (hK : kg P mt et) (hx : gp K.ET σ x = .u (.c (.v (.map (some m))))) (hky : gp K.ET σ ky = .u (.c (.v (.int .i64 n)))) (hv : Src K σ v (.agg [.sl true Z.sz (l.map Z.fa), .x (Z.pE ps)]) ls)
    (hr : cn σ ls i = .u (.c c)) (hc : cellAt c pl = some (.x (Z.gQ K.ET m clk L))) (hown : ek c pl = true) (hd : o.dst = none) : Step P K σ o (dn (cn σ ls) i (.u (.c (setAt c pl (.x (Z.gE K.ET (W ++ [⟨n, l, ps⟩]))))))) := by
 have := eV hL hm; subst hL; exact Hx ho hK hx hky hv hr hc hown this hd
theorem Ii {mt et kt' : TypeId} {x ky : Operand} {m clk i : Nat} {n : Int} {c : C} {pl : Pl} (hL : L.map Rec.tell = W) (ho : o.op = .call { callee := .builtin .delete, args := #[x, ky], argTypes := #[mt, kt'] }) (hK : kg P mt et) (hx : gp K.ET σ x = .u (.c (.v (.map (some m))))) (hky : gp K.ET σ ky = .u (.c (.v (.int .i64 n))))
    (hr : σ i = .u (.c c)) (hc : cellAt c pl = some (.x (Z.gQ K.ET m clk L))) (hown : ek c pl = true) (hd : o.dst = none) : Step P K σ o (dn σ i (.u (.c (setAt c pl (.x (Z.gE K.ET (W.filter (fun s => s.n != n)))))))) := by
 subst hL; exact La ho hK hx hky hr hc hown hd
theorem lM {x : Operand} {m clk i : Nat} {c : C} {pl : Pl} (ht : r1.tell = s1) (hx : gp K.ET σ x = .u (.c (.x (uD r1.av)))) (hr : σ i = .u (.c c)) (hc : cellAt c pl = some (.x (Z.gQ K.ET m clk L))) (hown : ek c pl = true) (hmem : r1 ∈ L) : qu K σ x (.c (.sl false Z.sz (s1.l.map Z.fa))) := by
 subst ht; exact LH hx hr hc hown hmem
end
section
variable {P : Program} {ET : TypeId} {w w' : World} {R : Nat → Prop} {K : Ctx} {σ : St} {a : Act} {Fs : Nat → List Nat} {o : Oper} {d : Nat}
def Kk (P : Program) (t : TypeId) (len : Nat) : Prop := ∃ el q, P.underlying t = some (.array len el) ∧ (P.info? el).map (·.size) = some 1 ∧ P.underlying el = some q ∧ q.isRow = false
theorem Ij {xt len : Nat} {x y : Operand} {ik : IntKind} {e : Int} {cs : List C} {c : C} (ho : o.op = .index xt x y) (hu : Kk P xt len) (hx : gp K.ET σ x = .u (.agg cs)) (hy : gp K.ET σ y = .u (.c (.v (.int ik e)))) (h0 : 0 ≤ e) (h1 : e < len) (hc : cs[e.toNat]? = some c) (hcc : fl c = true) (hd : o.dst = some d) (hn : gF K d = true) : Step P K σ o (put σ d (.u (.c c))) :=
  bW hd hn rfl (fun a w Fs hs => by
    obtain ⟨el, q, u1, u2, u3, u4⟩ := hu
    rw [Option.map_eq_some_iff] at u2
    obtain ⟨inf, u2, u5⟩ := u2
    have hyv := dV hs hy
    have h := eW hs hx (by simp)
    generalize hv : a.eval x = v at h
    cases h with
    | u h => cases h with
      | @agg arr _ _ h =>
        obtain ⟨z, F1, Fj, F2, hz, _, hrx, _⟩ := h.at_ hc
        rw [hrx.copy hcc] at hrx
        refine ⟨z, ?_, .u (.c hrx)⟩
        have hz' : arr[e.toNat]? = some z := by simpa using hz
        have ha := u7 (P := P) u3 w
        rw [u4] at ha
        have hsize : (sizeOf el).run P w = .ok 1 w := by simp [sizeOf, typeInfo, u2, u5]
        simp [execOp, ho, Sem.run_bind, hv, hyv, Instr.index, asIntOf, run_underlying u1, h0, h1, hsize, part, ha, hz', pure])
abbrev W8 := Nat → Int
def w8 (w : W8) : List C := [.v (.int .u64 (w 0)), .v (.int .u64 (w 1)), .v (.int .u64 (w 2)), .v (.int .u64 (w 3)), .v (.int .u64 (w 4)), .v (.int .u64 (w 5)), .v (.int .u64 (w 6)), .v (.int .u64 (w 7))]
def Tw (w : W8) : Array Value := #[.int .u64 (w 0), .int .u64 (w 1), .int .u64 (w 2), .int .u64 (w 3), .int .u64 (w 4), .int .u64 (w 5), .int .u64 (w 6), .int .u64 (w 7)]
def gq (w : W8) (k : Nat) (v : Int) : W8 := fun j => if j = k then v else w j
theorem EW (ET : TypeId) (w : World) (R : Nat → Prop) (b : W8) : bG ET w R (Tw b).toList (w8 b) [] :=
  .cons (F := []) (.v rfl) (.cons (F := []) (.v rfl) (.cons (F := []) (.v rfl) (.cons (F := []) (.v rfl) (.cons (F := []) (.v rfl) (.cons (F := []) (.v rfl) (.cons (F := []) (.v rfl) (.cons (F := []) (.v rfl) .nil)))))))
theorem VV {k : Nat} (h : k < 8) : k = 0 ∨ k = 1 ∨ k = 2 ∨ k = 3 ∨ k = 4 ∨ k = 5 ∨ k = 6 ∨ k = 7 := by omega
theorem Kl {w : W8} {k : Nat} (h : k < 8) : (w8 w)[k]? = some (.v (.int .u64 (w k))) := by
 rcases VV h with rfl | rfl | rfl | rfl | rfl | rfl | rfl | rfl <;> rfl
theorem LI {w : W8} {k : Nat} {v : Int} (h : k < 8) : (w8 w).take k ++ ([.v (.int .u64 v)] ++ (w8 w).drop (k + 1)) = w8 (gq w k v) := by
 rcases VV h with rfl | rfl | rfl | rfl | rfl | rfl | rfl | rfl <;> rfl
theorem Db {w : W8} {k : Nat} : (((w8 w).drop k).take 1).all nx = true := by
 have h : (w8 w).all nx = true := rfl; rw [List.all_eq_true] at h ⊢; exact fun c hc => h c (List.mem_of_mem_drop (List.mem_of_mem_take hc))
theorem sQ {t i r k : Nat} {s : ef} {p : List (Nat × ef)} {c c' : C} {wd : W8} {v : Int} {x : Operand} (ho : o.op = .store t (.tmp i) x) (ht : (P.info? t).map (·.size) = some 1) (hi : cR i (σ i) = .addr r s p k) (hx : gp K.ET σ x = .u (.c (.v (.int .u64 v)))) (hr : σ r = .u (.c c)) (hg : gK c s p = some (w8 wd))
    (hown : nM c s p = true) (hk : k < 8) (hd : o.dst = none) (e : iH c s p (w8 (gq wd k v)) = c') : Step P K σ o (dn σ r (.u (.c c'))) :=
  kU (f := fun (_ : Unit) => []) (n := 1) (k := 0) (sz := 0) ho ht hi hx rfl hr hg hown rfl rfl (by show k + 1 ≤ 8; omega) rfl Db rfl hd (by show iH c s p ((w8 wd).take k ++ ([.v (.int .u64 v)] ++ (w8 wd).drop (k + 1))) = c'; rw [LI hk]; exact e)
end
end Go.Proofs.Ytmjnenjeckeklaa.V
namespace Go.Proofs.Ytmjnenjeckeklaa.V
open Go Go.RowKit
section
variable {P : Program} {ET : TypeId} {w w' : World} {R : Nat → Prop} {K : Ctx} {σ : St} {a : Act} {Fs : Nat → List Nat} {o : Oper} {d : Nat}
theorem ym {t ty sz bytes : Nat} {zs : List C} (hz : gl P t sz bytes zs) {vx vy : Value} {rows bq : List (List C)} {F G : List Nat} (hx : bP ET w R vx (.sl true sz rows) F) (hnd : F.Nodup) (hR : ∀ b ∈ F, ¬ R b) (hlt : ∀ b, R b → b < w.heap.size) {S : Nat → Prop} (hy : gj ET w R S vy sz bq G) (hGn : (F ++ G).Nodup) (hGR : ∀ b ∈ G, ¬ R b) (hlv : oY bq.flatten = true)
    (hlen : rows.length + bq.length ≤ 1000000) (hby : bytes ≤ 100000) :
    ∃ v w1 F1, (Builtin.append_ #[t, t] ty #[vx, vy]).run P w = .ok v w1 ∧ bP ET w1 R v (.sl true sz (rows ++ bq)) F1 ∧ F1.Nodup ∧ (∀ b ∈ F1, (b ∈ F ∨ b ∈ G) ∨ w.heap.size ≤ b) ∧ ∃ E1, bU w E1 w1 ∧ ∀ b ∈ E1, b ∈ F := by
 obtain ⟨e, i, z, h1, h2, h3, h3b, h4, h5, h6, h7⟩ := hz; have hzs : z.cells.size = i.size := by omega
 by_cases hn : bq.length = 0
 · have sI : bq = [] := List.eq_nil_of_length_eq_zero hn; subst sI
   obtain ⟨ad, c, hv⟩ : ∃ ad c, vy = .slice ad 0 c := by
    rcases hy with ⟨rfl, _⟩ | ⟨b, off, cap, arr, et, rfl, _⟩
    · exact ⟨_, _, rfl⟩
    · exact ⟨_, _, rfl⟩
   subst hv; rw [List.append_nil]
   obtain ⟨ad2, Oh, oz, Oi, Oj⟩ : ∃ ad len cap, vx = .slice ad len cap ∧ len ≤ cap := by
    cases hx with
    | nil => exact ⟨_, _, _, rfl, Nat.le_refl _⟩
    | sl _ _ hcap => exact ⟨_, _, _, rfl, hcap⟩
   subst Oi; exact ⟨_, w, F, mD h1 h2 Oj, hx, hnd, fun b hb => .inl (.inl hb), [], bU.refl _ _, by simp⟩
 · rcases hy with ⟨_, h⟩ | ⟨b2, off2, oz, o6, HS, rfl, de, k1, k2, k3, mF, eY, _, _⟩
   · subst h; simp at hn
   generalize hnews : (o6.toList.drop off2).take (bq.length * sz) = news at eY; have hnl : news.length = bq.length * i.size := by rw [eY.length, eZ mF, h3]
   have hnc : ∀ j v, news[j]? = some v → w.cell? ((⟨b2, off2, none⟩ : Addr).add j) = some v := by rw [← hnews]; exact mG de
   cases hx with
   | nil =>
    have hrun := Go.run_append_nil w t ty e i z h1 h2 h5 ⟨b2, off2, none⟩ bq.length oz news hnl hnc (by omega) (by omega) (by
     have := mH (n := bq.length) (by simp at hlen; omega) hby
     rw [← h3b] at this; omega)
    have hg := bP.grown (w := w) (w1 := w.drew.alloc (.cells (news.toArray ++ Builtin.zeroCells z.cells (grownCap w bq.length 0 e - bq.length)) e)) (rows := []) (bq := bq) (sz := sz) (nc := grownCap w bq.length 0 e) (olds := []) (z := z.cells) (et := e) .nil eY (by simpa using mF) h4 h6
      (by simpa using grownCap_ge w bq.length 0 e) (by simp) hlt
    simp only [List.length_nil, Nat.zero_add, List.nil_append] at hg; refine ⟨_, _, _, hrun, hg, List.nodup_cons.mpr ⟨fun h => Nat.lt_irrefl _ (eY.lt _ h), by simpa using hGn⟩, fun b hb => (List.mem_cons.mp hb).elim (fun h => .inr (by rw [h]; exact Nat.le_refl _)) (fun h => .inl (.inr h)), [], (jG w []).trans (bU.alloc _ _) (by simp), by simp⟩
   | @sl b off len cap _ _ arr et _ F1 F' hb hl hcap hsz hfit hrow hrep ho hz =>
    rcases ho with ⟨_, rfl⟩ | ⟨h, _⟩
    case inr => cases h
    subst hl; have holdl : ((arr.toList.drop off).take (rows.length * sz)).length = rows.length * i.size := by rw [hrep.length, eZ hrow, h3]
    have hrows : ∀ r ∈ rows ++ bq, r.length = sz := fun r hr => (List.mem_append.mp hr).elim (hrow r) (mF r); have hmul := Nat.mul_le_mul_right sz hcap; by_cases hroom : rows.length + bq.length ≤ cap
    · have ED := Nat.mul_le_mul_right sz hroom; rw [Nat.add_mul] at ED; have wu : news.length = bq.length * sz := by rw [hnl, h3]
      have hst := run_storeCells_at (P := P) b (off + rows.length * sz) et.1 news 0 arr w (by rw [← hz rfl]; exact hb) (by rw [wu]; omega) (eY.lF hlv); rw [show off + rows.length * sz + 0 = off + rows.length * sz by rfl, wu] at hst; have hfc := run_firstCells_some (P := P) w i.size bq.length ⟨b2, off2, none⟩ bq.length oz news hnl hnc; rw [h3] at hfc; generalize hw' : w.setRow b ((arr.toList.take (off + rows.length * sz) ++ news ++ arr.toList.drop (off + rows.length * sz + bq.length * sz))).toArray = w' at hst; have hadd : (⟨b, off, none⟩ : Addr).add (rows.length * sz) = ⟨b, off + rows.length * sz, none⟩ := Addr.add_mid b off _
      have hrun : (Builtin.append_ #[t, t] ty #[.slice (some ⟨b, off, none⟩) rows.length cap, .slice (some ⟨b2, off2, none⟩) bq.length oz]).run P w = .ok (.slice (some ⟨b, off, none⟩) (rows.length + bq.length) cap) w' := by
       simp [Builtin.append_, run_underlying h1, sizeOf, typeInfo, h2, h3, Builtin.lenOf, hroom, hfc, hadd, hst, pure]
      have hbF : b ∈ b :: F1 := List.mem_cons_self ..; have hsame : ∀ x, x ≠ b → w'.heap[x]? = w.heap[x]? := fun x hx => by rw [← hw']; exact kQ hx
      have hnb : b ∉ F1 := (List.nodup_cons.mp hnd).1; refine ⟨_, w', b :: (F1 ++ G), hrun, .sl (rows := rows ++ bq) (et := et) (by rw [← hw']; exact nr hb) (by simp) hroom hsz ?_ hrows ?_ (.inl ⟨rfl, rfl⟩) hz, hGn, fun x hx => .inl ((List.mem_append.mp (show x ∈ (b :: F1) ++ G from hx)).imp id id), [b], by rw [← hw']; exact jq, fun x hx => by rw [List.mem_singleton.mp hx]; exact hbF⟩
      · simp only [List.size_toArray, List.length_append, List.length_take, List.length_drop, wu, Array.length_toList]; omega
      · have e1 : ((arr.toList.take (off + rows.length * sz) ++ news ++ arr.toList.drop (off + rows.length * sz + bq.length * sz)).toArray.toList.drop off).take ((rows.length + bq.length) * sz) = (arr.toList.drop off).take (rows.length * sz) ++ news := by
         simp only [List.toList_toArray]; rw [List.append_assoc, List.drop_append_of_le_length (by rw [List.length_take]; simp; omega), List.drop_take, Nat.add_sub_cancel_left, ← List.append_assoc]; rw [show (rows.length + bq.length) * sz = ((arr.toList.drop off).take (rows.length * sz) ++ news).length by rw [List.length_append, holdl, wu, h3, Nat.add_mul], List.take_left]
        rw [e1, List.flatten_append]; refine (hrep.frame (fun _ h => h) (fun x hx => hsame x ?_)).append (eY.frame (fun _ h => h) (fun x hx => hsame x ?_))
        · rintro rfl; exact hx.elim hnb (fun h => hR x hbF h)
        · rintro rfl; exact hx.elim (fun h => (List.nodup_append.mp hGn).2.2 x hbF x h rfl) (fun h => hR x hbF h)
    · have hgr : cap < rows.length + bq.length := by omega
      have hrun := Go.run_append_grow w t ty e i z h1 h2 h5 ⟨b, off, none⟩ rows.length cap _ holdl (mG hb) ⟨b2, off2, none⟩ bq.length oz news hnl hnc hgr (by omega) (growslice_fits hgr (by rw [h3b]; exact mH hlen hby)); have hg := bP.grown (w := w) (rows := rows) (bq := bq) (sz := sz) (nc := grownCap w (rows.length + bq.length) cap e) (z := z.cells) (et := e) hrep eY hrows h4 h6 (grownCap_ge w _ cap e) rfl hlt; refine ⟨_, _, _, hrun, hg, ?_, fun x hx => ?_, [], (jG w []).trans (bU.alloc _ _) (by simp), by simp⟩
      · rw [List.nodup_cons]; exact ⟨fun h => Nat.lt_irrefl _ ((List.mem_append.mp h).elim (hrep.lt _) (eY.lt _)), (List.nodup_cons.mp (show (b :: (F1 ++ G)).Nodup from hGn)).2⟩
      · rcases List.mem_cons.mp hx with rfl | hx
        · exact .inr (Nat.le_refl _)
        · exact .inl ((List.mem_append.mp hx).imp (List.mem_cons_of_mem _) id)
theorem dw.Ey {r : Nat} {pl : Pl} {c x : C} (hs : dw K σ a w Fs) (hr : σ r = .u (.c c)) (hx : cellAt c pl = some x) (ho : ek c pl = true) : ∃ y Fx Fs', iu w a.tmps r pl = some y ∧ bP K.ET w K.R y x Fx ∧ dw K (dn σ r (.u (.c (setAt c pl .dead)))) a w Fs' ∧ lG K Fs' Fx ∧ (∀ j, j ≠ r → Fs' j = Fs j) := by
 have hR := hs.rep r; rw [hr] at hR; have hnd := hs.nd r; have hdi := fun j b (hj : j ≠ r) (hb : b ∈ Fs r) (de : b ∈ Fs j) => hj (hs.dis j r b de hb); have how := hs.own r; have hout := hs.out r; generalize hv : a.tmps.getD r undef = v at hR; generalize hFr : Fs r = F at hR hnd hdi how
 cases hR with
 | u hR => cases hR with
   | c hR =>
     obtain ⟨y, Fo, Fx, k1, k2, k3, k4⟩ := bP.cell (tmps := a.tmps) (r := r) hv hR hnd hx ho
     obtain ⟨F2, k5, k6⟩ := k4 w .dead [] (fun _ _ => rfl) (.dead y)
     rw [List.append_nil] at k6
     have jU : (Fo ++ Fx).Nodup := k2.nodup_iff.mp hnd
     have uy := hout.Hq (i := r) (t := .u (.c (setAt c pl .dead))) (F := F2) (by rw [hv]; exact .u (.c k5)) (k6.nodup_iff.mpr (List.nodup_append.mp jU).1) (fun j hj b' hb' de => by
       unfold dK at de
       try rw [if_neg hj] at de
       exact hdi j b' hj (k2.mem_iff.mpr (List.mem_append_left _ (k6.mem_iff.mp hb'))) de) (fun b' hb' => how b' (k2.mem_iff.mpr (List.mem_append_left _ (k6.mem_iff.mp hb'))))
     rw [lD] at uy
     refine ⟨y, Fx, _, k1, k3, uy, ⟨(List.nodup_append.mp jU).2.1, fun b' hb' => ⟨fun j hj => ?_, how b' (k2.mem_iff.mpr (List.mem_append_right _ hb'))⟩⟩, fun j hj => ?_⟩
     · unfold dK at hj
       split at hj
       · exact (List.nodup_append.mp jU).2.2 b' (k6.mem_iff.mp hj) b' hb' rfl
       · rename_i hne
         try rw [if_neg hne] at hj
         exact hdi j b' hne (k2.mem_iff.mpr (List.mem_append_right _ hb')) hj
     · unfold dK
       rw [if_neg hj, if_neg hj]
theorem C1 {t sz bytes i j r : Nat} {zs : List C} {pl : Pl} {c : C} {rows bq : List (List C)} (ho : o.op = .call { callee := .builtin .append, args := #[.tmp i, .tmp j], argTypes := #[t, t] }) (hz : gl P t sz bytes zs) (hi : cR i (σ i) = .whole r pl sz rows.length) (hj : σ j = .u (.c (.sl true sz bq))) (hjr : j ≠ r)
    (hr : σ r = .u (.c c)) (hc : cellAt c pl = some (.sl true sz rows)) (hown : ek c pl = true) (hlv : oY bq.flatten = true) (hlen : rows.length + bq.length ≤ 1000000) (hby : bytes ≤ 100000) (hd : o.dst = some d) (hn : gF K d = true) (hrd : refs (.u (.c (setAt c pl .dead))) d = false) :
    Step P K σ o (put (dn (fun q => cE (dn (dn σ j .junk) r .junk q)) r (.u (.c (setAt c pl .dead)))) d (.u (.c (.sl true sz (rows ++ bq))))) := by
     rintro a w ⟨Fs, hs⟩; have hal := (qI.tmp hi).rep hs; have hsj := hs.rep j; rw [hj] at hsj; obtain ⟨y, Fx, oZ, k1, k2, hs1, mw, hsame⟩ := hs.Ey hr hc hown; generalize hvx : a.eval (.tmp i) = vx at hal
     cases hal with
     | whole h1 _ =>
     obtain rfl : vx = y := Option.some.inj (h1.symm.trans k1); have Kg := hs1.rep j; have hjj : dn σ r (.u (.c (setAt c pl .dead))) j = .u (.c (.sl true sz bq)) := by unfold dn; rw [if_neg hjr]; exact hj
     rw [hjj] at Kg; have hnd := hs1.nd j; have hfj : ∀ b ∈ oZ j, b ∉ Fx := fun b hb hx => (mw.2 b hx).1 j hb; have how := hs1.own j; have hdi := fun q b (hq : q ≠ j) (hb : b ∈ oZ j) (de : b ∈ oZ q) => hq (hs1.dis q j b de hb); have uy := hs1.out j; generalize hvy : a.tmps.getD j undef = vy at Kg; generalize hFj : oZ j = Fj at Kg hnd hfj how hdi
     cases Kg with | u Kg => cases Kg with | c Kg =>
     have hshow : ∃ G, gj K.ET w K.R (fun _ => True) vy sz bq G ∧ G.Nodup ∧ ∀ b ∈ G, b ∈ Fj := by
      cases Kg with
      | nil => exact ⟨[], .inl ⟨rfl, rfl⟩, List.nodup_nil, by simp⟩
      | @sl b off len cap _ _ arr et _ G1 _ hb hlen hcap hsz hfit hrow hrep ho hz =>
       subst hlen; have := Nat.mul_le_mul_right sz hcap; rcases ho with ⟨_, rfl⟩ | ⟨h, _⟩
       · exact ⟨G1, .inr ⟨b, off, cap, arr, et, rfl, hb, by omega, hfit, hcap, hrow, hrep, hsz, trivial⟩, (List.nodup_cons.mp hnd).2, fun x hx => List.mem_cons_of_mem _ hx⟩
       · cases h
     obtain ⟨G, hsh, hGn, hGs⟩ := hshow
     obtain ⟨v, w1, F1, hrun, hrep, we, hsub, E1, hk, hE⟩ := ym (P := P) (t := t) (ty := o.type) hz k2 mw.1 (fun b hb => (mw.2 b hb).2.1) (fun b hb => Nat.lt_of_lt_of_le (hs1.ro b hb).1 hs1.keeps.size) hsh
       (List.nodup_append.mpr ⟨mw.1, hGn, fun x hx y hy e => by subst e; exact hfj x (hGs x hy) hx⟩) (fun b hb => (how b (hGs b hb)).1) hlv hlen hby
     have hexec : (execOp a.eval o).run P w = .ok (.value v) w1 := by
      simp only [execOp, ho, resolve, Sem.run_bind, Sem.run_pure, Result.andThen_ok, invoke, builtin]; have hvy' : a.eval (.tmp j) = vy := by rw [eL]; exact hvy
      simp [Sem.run_bind, hvx, hvy', hrun, pure]
     simp only [Oper.wp, hexec, Oper.upon_value, hd]
     have h5 := uy.world hk (fun b hb => (mw.2 b (hE b hb)).2.2) (fun q b hb e => by
      unfold dK at hb; split at hb
      · cases hb
      · exact (mw.2 b (hE b e)).1 q hb) (fun b hb => (mw.2 b (hE b hb)).2.1)
     have h6 := h5.jS hn (bU.refl w1 _) (F := F1) (t := .u (.c (.sl true sz (rows ++ bq)))) (v := v) (fun b hb => by
      rcases hsub b hb with (h | h) | h
      · refine ⟨fun q hq => ?_, (mw.2 b h).2⟩; unfold dK at hq; split at hq
        · cases hq
        · exact (mw.2 b h).1 q hq
      · refine ⟨fun q hq => ?_, how b (hGs b h)⟩; unfold dK at hq; split at hq
        · cases hq
        · rename_i hne; exact hdi q b hne (hGs b h) hq
      · refine ⟨fun q hq => ?_, fun hR => ?_, .inr (Nat.le_trans hs1.keeps.size h)⟩
        · have := (uy.rep q).lt b hq; omega
        · have := Nat.lt_of_lt_of_le (hs1.ro b hR).1 hs1.keeps.size; omega) we (.u (.c hrep))
     have he : (fun q => cE (dn (dn σ r (.u (.c (setAt c pl .dead)))) j .junk q)) = dn (fun q => cE (dn (dn σ j .junk) r .junk q)) r (.u (.c (setAt c pl .dead))) := by
      funext q; by_cases h1 : q = r
      · subst h1; simp [dn, Ne.symm hjr, cE]
      · by_cases h2 : q = j
        · subst h2; simp [dn, h1]
        · simp [dn, h1, h2]
     rw [he] at h6; exact ⟨_, h6⟩
end
end Go.Proofs.Ytmjnenjeckeklaa.V
namespace Go.Proofs.Ytmjnenjeckeklaa.V
open Go Go.RowKit
section
variable {P : Program} {ET : TypeId} {w w' : World} {R : Nat → Prop} {K : Ctx} {σ : St} {a : Act} {Fs : Nat → List Nat} {o : Oper} {d : Nat}
theorem mA {D : List Nat} {r j d : Nat} {t t1 : T} {s : Spec} (hc : Clear s σ) (hf : s.fresh = some d) (hd : s.deep = true) (hr : refs t1 d = false) (hjr : (j == r) = false) (hD : D.all (fun j => Ob (cE (σ j))) = true) (ha : s.asg = [(d, t), (r, t1)] ++ (j :: D).map fun j => (j, .junk)) : put (dn (fun q => cE (dn (dn σ j .junk) r .junk q)) r t1) d t = over σ s.asg := by
 have e : (fun q => cE (dn (dn σ j .junk) r .junk q)) = fun q => cE (dn (cn σ (j :: D)) r .junk q) := by
  funext q; by_cases h1 : q = r
  · subst h1; simp [dn]
  · by_cases h2 : q = j
    · subst h2; simp [dn, h1, cn]
    · simp only [dn, if_neg h1, if_neg h2]; rw [wk hD q]; unfold cn; have : ((j :: D).contains q) = D.contains q := by simp [List.contains_cons, h2]
      rw [this]
 rw [e, kj (s := { s with asg := [(d, t), (r, t1)] }) (mB hc ha) hf hd hr rfl, ox, ha]
theorem gJ {α : Type} {f : α → List C} {own : Bool} {sz k o2 : Nat} {s2 : ef} {p : List (Nat × ef)} {xs : List α} (dflt : α) {c2 : C} {cs : List C} (h : k < xs.length) (h2 : (f (xs.getD k dflt))[o2]? = some c2) (h3 : gK c2 s2 p = some cs) : gK (.sl own sz (xs.map f)) (.i k sz) ((o2, s2) :: p) = some cs := by
 have e : (xs.map f)[k]? = some (f (xs.getD k dflt)) := by
  rw [List.getElem?_map, List.getElem?_eq_getElem h, List.getD_eq_getElem?_getD, List.getElem?_eq_getElem h]; rfl
 simp only [gK, jT, if_true, e, Option.bind_some, h2, h3]
theorem cF {ow : Bool} {cells cs : List C} {so : Nat} {c' : C} {sel : ef} {p : List (Nat × ef)} (h : cells[so]? = some c') (hg : gK c' sel p = some cs) : gK (.pt ow cells) .d ((so, sel) :: p) = some cs := by
 simp only [gK, jT, Option.bind_some, h]; exact hg
theorem qi {α : Type} {f : α → List C} {sz k o2 : Nat} {s2 : ef} {p : List (Nat × ef)} {xs : List α} (dflt : α) {c2 : C} (h : k < xs.length) (h2 : (f (xs.getD k dflt))[o2]? = some c2) (h3 : nM c2 s2 p = true) : nM (.sl true sz (xs.map f)) (.i k sz) ((o2, s2) :: p) = true := by
 have e : (xs.map f)[k]? = some (f (xs.getD k dflt)) := by
  rw [List.getElem?_map, List.getElem?_eq_getElem h, List.getD_eq_getElem?_getD, List.getElem?_eq_getElem h]; rfl
 simp only [nM, wm, jT, if_true, e, h2, h3, Bool.and_true]
theorem oW {cells : List C} {so : Nat} {c' : C} {sel : ef} {p : List (Nat × ef)} (h : cells[so]? = some c') (hg : nM c' sel p = true) : nM (.pt true cells) .d ((so, sel) :: p) = true := by
 simp only [nM, wm, jT, h, hg, Bool.and_true]
theorem nk {α : Type} {f : α → List C} {own : Bool} {sz k : Nat} {xs : List α} {y : α} {new : List C} (h : f y = new) : iH (.sl own sz (xs.map f)) (.i k sz) [] new = .sl own sz ((xs.set k y).map f) := by
 subst h; simp only [iH, Aj, List.map_set]
theorem qj {α : Type} {f : α → List C} {own : Bool} {sz k o2 : Nat} {s2 : ef} {p : List (Nat × ef)} {xs : List α} (dflt : α) {y : α} {c2 : C} {new : List C} (h : k < xs.length) (h2 : (f (xs.getD k dflt))[o2]? = some c2) (h3 : (f (xs.getD k dflt)).set o2 (iH c2 s2 p new) = f y) : iH (.sl own sz (xs.map f)) (.i k sz) ((o2, s2) :: p) new = .sl own sz ((xs.set k y).map f) := by
 have e : (xs.map f)[k]? = some (f (xs.getD k dflt)) := by
  rw [List.getElem?_map, List.getElem?_eq_getElem h, List.getD_eq_getElem?_getD, List.getElem?_eq_getElem h]; rfl
 simp only [iH, jT, if_true, e, h2, Aj, h3, List.map_set]
theorem oX {ow : Bool} {cells : List C} {so : Nat} {c' c2 : C} {sel : ef} {p : List (Nat × ef)} {new : List C} (h : cells[so]? = some c') (hs : iH c' sel p new = c2) : iH (.pt ow cells) .d ((so, sel) :: p) new = .pt ow (cells.set so c2) := by
 subst hs; simp only [iH, jT, h, Aj]
theorem Et {t i r off n : Nat} {s : ef} {p : List (Nat × ef)} {c c' : C} {cs : List C} {x : Operand} {u : U} {l : List Nat} (ho : o.op = .store t (.tmp i) x) (ht : (P.info? t).map (·.size) = some n) (hi : cR i (σ i) = .addr r s p off) (hx : Src K σ x u l) (hr : cn σ l r = .u (.c c)) (hg : gK c s p = some cs)
    (hown : nM c s p = true) (hn : (ff u).length = n) (hle : off + n ≤ cs.length) (hlv : oY (ff u) = true) (hd : o.dst = none) (e : iH c s p (cs.take off ++ (ff u ++ cs.drop (off + n))) = c') : Step P K σ o (dn (fun j => cE (cn σ l j)) r (.u (.c c'))) := by
 subst e; exact cV ho ht hi hx hr hg hown hn hle hlv hd
theorem lz.Eu {ι : Type} {x : C} {x' : ι → C} {good : ι → Prop} {i : Nat} {c : C} {pl : Pl} (h : lz K σ a w) (hr : σ i = .u (.c c)) (hx : cellAt c pl = some x) (ho : ek c pl = true) (hq : ∀ v F, bP K.ET w K.R v x F → ∃ z, good z ∧ bP K.ET w K.R v (x' z) F) : ∃ z, good z ∧ lz K (dn σ i (.u (.c (setAt c pl (x' z))))) a w := by
 obtain ⟨Fs, hs⟩ := h; have h1 := hs.rep i; rw [hr] at h1; have hnd := hs.nd i; have hdi := fun j b (hj : j ≠ i) (hb : b ∈ Fs i) (de : b ∈ Fs j) => hj (hs.dis j i b de hb); have how := hs.own i; have hout := hs.out i; generalize ux : a.tmps.getD i undef = v0 at h1; generalize hFi : Fs i = F at h1 hnd hdi how
 cases h1 with
 | u h1 => cases h1 with
   | c h1 =>
     obtain ⟨y, Fo, Fx, e1, e2, h2, h3⟩ := bP.cell (tmps := a.tmps) (r := i) ux h1 hnd hx ho
     obtain ⟨z, hg, h4⟩ := hq _ _ h2
     obtain ⟨F2, h7, h8⟩ := h3 w (x' z) Fx (fun b hb => rfl) h4
     have hp : F2.Perm F := h8.trans e2.symm
     have h9 := hout.Hq (i := i) (t := .u (.c (setAt c pl (x' z)))) (F := F2) (by rw [ux]; exact .u (.c h7)) (hp.nodup_iff.mpr hnd) (fun j hj b hb de => by
       unfold dK at de
       rw [if_neg hj] at de
       exact hdi j b hj (hp.mem_iff.mp hb) de) (fun b hb => how b (hp.mem_iff.mp hb))
     rw [lD] at h9
     exact ⟨z, hg, _, h9⟩
theorem Ew {ι : Type} {x : C} {x' : ι → C} {good : ι → Prop} {i : Nat} {c : C} {pl : Pl} {cd : Code} {Q : Exit → St → Prop} (hr : σ i = .u (.c c)) (hx : cellAt c pl = some x) (ho : ek c pl = true) (hq : ∀ w v F, bP K.ET w K.R v x F → ∃ z, good z ∧ bP K.ET w K.R v (x' z) F)
    (h : ∀ z, good z → fX P K cd (dn σ i (.u (.c (setAt c pl (x' z))))) Q) : fX P K cd σ Q := fun a w hs => by
  obtain ⟨z, h1, h2⟩ := hs.Eu hr hx ho (fun v F => hq w v F)
  exact h z h1 a w h2
theorem CW {t i r off n : Nat} {s : ef} {p : List (Nat × ef)} {c : C} {cs xs ys : List C} (ho : o.op = .load t (.tmp i)) (ht : wo P t n) (hi : cR i (σ i) = .addr r s p off) (hr : σ r = .u (.c c)) (hg : gK c s p = some cs)
    (hx : (cs.drop off).take n = xs) (hl : xs.length = n) (hc : ∀ w zs F, bG K.ET w K.R zs xs F → bG K.ET w K.R zs ys []) (hd : o.dst = some d) (hn : gF K d = true) : Step P K σ o (put σ d (.u (.agg ys))) :=
  bW hd hn rfl (fun a w Fs hs => by
    obtain ⟨b, o', arr, et, Fi, h1, h2, h3, h4, _⟩ := hs.place hi hr hg
    have hle : off + n ≤ cs.length := by
     have := ht.2.2; rw [← hx, List.length_take, List.length_drop] at hl; omega
    obtain ⟨ya, yz, F1, F2, e1, e2, Li, hz⟩ := bG.split (cs := cs.take off) (ds := cs.drop off) (by rw [List.take_append_drop]; exact h4)
    obtain ⟨yx, yb, F3, F4, e3, e4, hxx, _⟩ := bG.split (cs := (cs.drop off).take n) (ds := (cs.drop off).drop n) (by rw [List.take_append_drop]; exact hz)
    rw [hx] at hxx
    have hya : ya.length = off := by rw [Li.length, List.length_take]; omega
    have hyx : yx.length = n := by rw [hxx.length, hl]
    have hw : (arr.toList.drop (o' + off)).take n = yx := by
     have e5 : ((arr.toList.drop o').take cs.length).drop off = yx ++ yb := by rw [e1, e3, ← hya, List.drop_left]
     have e6 : (((arr.toList.drop o').take cs.length).drop off).take n = yx := by rw [e5, ← hyx, List.take_left]
     rw [← e6, List.drop_take, List.drop_drop, List.take_take, Nat.min_eq_left (by omega)]
    refine ⟨.agg yx.toArray, ?_, .u (.agg (by simpa using hc _ _ _ hxx))⟩
    have := kO (P := P) ht h2 (show o' + off + n ≤ arr.size by omega)
    rw [hw] at this
    simp only [execOp, ho, h1, Sem.run_bind, this, Result.andThen_ok, Sem.run_pure])
theorem lz.Ex {i r : Nat} {pl : Pl} {c x : C} {u u' : U} (h : lz K σ a w) (hir : i ≠ r) (hi : σ i = .u u) (hr : σ r = .u (.c c)) (hx : cellAt c pl = some x) (ho : ek c pl = true) (hq : ∀ v y F G, eU K.ET w K.R v u F → bP K.ET w K.R y x G → (F ++ G).Nodup → ∃ F', eU K.ET w K.R v u' F' ∧ F'.Nodup ∧ ∀ b ∈ F', b ∈ F ∨ b ∈ G) : lz K (dn (dn σ r (.u (.c (setAt c pl .dead)))) i (.u u')) a w := by
 obtain ⟨Fs, hs⟩ := h; obtain ⟨y, Fx, oZ, k1, k2, hs1, mw, _⟩ := hs.Ey hr hx ho; have h1 := hs1.rep i; rw [show dn σ r (.u (.c (setAt c pl .dead))) i = .u u by unfold dn; rw [if_neg hir]; exact hi] at h1; have hnd := hs1.nd i; have how := hs1.own i; have hdi := fun q b (hq : q ≠ i) (hb : b ∈ oZ i) (de : b ∈ oZ q) => hq (hs1.dis q i b de hb); have uy := hs1.out i; have hfx : ∀ b ∈ Fx, b ∉ oZ i := fun b hb de => (mw.2 b hb).1 i de; generalize hv : a.tmps.getD i undef = v at h1; generalize hFi : oZ i = F at h1 hnd how hdi hfx
 cases h1 with
 | u h1 =>
  obtain ⟨F', g1, g2, g3⟩ := hq _ _ _ _ h1 k2 (List.nodup_append.mpr ⟨hnd, mw.1, fun x hx y hy e => by subst e; exact hfx x hy hx⟩)
  have h9 := uy.Hq (i := i) (t := .u u') (F := F') (by rw [hv]; exact .u g1) g2 (fun j hj b hb de => by
   unfold dK at de; rw [if_neg hj] at de; rcases g3 b hb with h | h
   · exact hdi j b hj h de
   · exact (mw.2 b h).1 j de) (fun b hb => (g3 b hb).elim (how b) (fun h => (mw.2 b h).2))
  rw [lD] at h9; exact ⟨_, h9⟩
end
end Go.Proofs.Ytmjnenjeckeklaa.V
