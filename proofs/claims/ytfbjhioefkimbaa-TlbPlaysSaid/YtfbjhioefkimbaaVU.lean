/- V, twentieth text: regions whose operations run in any order. -/
import Derived.Test.YtfbjhioefkimbaaVI
import Derived.NoCompiler
import Derived.Maps.RangeRun
import Derived.WideShapes
import Derived.ChangeShapes
import Derived.Deep.Slices
namespace Go.Proofs.Ytfbjhioefkimbaa.V
open Go Go.RowKit
set_option linter.unusedVariables false
set_option linter.unusedSimpArgs false

/-- What is told of one operation: those before it; what it looks at; what it tells anew; a temporary put anew; whether what leads through memory is lost. -/
structure Spec where
  anc : List Nat
  need : List Nat
  asg : List (Nat × T)
  fresh : Option Nat
  deep : Bool
def has (A : List (Nat × T)) (t : Nat) : Bool := (A.lookup t).isSome
def isDeep : T → Bool
  | .addr _ _ (_ :: _) _ => true
  | .view _ (some _) _ _ _ => true
  | .whole _ (some _) _ _ => true
  | _ => false
def valT (D : Nat → Bool) (t : Nat) : Nat → T → List Spec → T
  | _, x, [] => x
  | k, x, s :: S => valT D t (k + 1) (bif D k then (s.asg.lookup t).getD x else x) S
def ancOf (S : List Spec) (j : Nat) : List Nat := match S[j]? with
  | some s => s.anc
  | none => []
def stD (S : List Spec) (σ0 : St) (D : Nat → Bool) : St := fun t => valT D t 0 (σ0 t) S
def needs (S : List Spec) (σ0 : St) (s : Spec) : List (Nat × T) := s.need.map fun t => (t, valT (fun i => s.anc.contains i) t 0 (σ0 t) S)
def chkAnc (tab : List (List Nat)) (S : List Spec) (j : Nat) (s : Spec) : Bool :=
  ((tab.getD j []).all fun i => Nat.blt i j) && s.anc.all fun i => Nat.blt i j && ((tab.getD j []).contains i || (tab.getD j []).any fun k => (ancOf S k).contains i)
def jk (A : List (Nat × T)) (t : Nat) : Bool := match A.lookup t with
  | some .junk => true
  | _ => false
theorem jk_ok {A : List (Nat × T)} {t : Nat} (h : jk A t = true) : A.lookup t = some .junk := by
  unfold jk at h
  split at h
  · rename_i e; exact e
  · cases h
def chkPair (i : Nat) (si : Spec) (j : Nat) (sj : Spec) : Bool :=
  (si.asg.all fun p => (!(sj.need.contains p.1) && !has sj.asg p.1) || sj.anc.contains i || si.anc.contains j) &&
  (match sj.fresh with
   | none => true
   | some d => si.asg.all fun p => p.1 == d || !refs p.2 d || si.anc.contains j || jk sj.asg p.1) &&
  (!sj.deep || si.asg.all fun p => !isDeep p.2 || has sj.asg p.1 || si.anc.contains j)
def chk (tab : List (List Nat)) (S : List Spec) : Bool :=
  S.length == tab.length && (List.range S.length).all fun j => match S[j]? with
    | none => true
    | some sj => chkAnc tab S j sj && (List.range S.length).all fun i => i == j || match S[i]? with
      | none => true
      | some si => chkPair i si j sj
def chk0 (l : List (Nat × T)) (S : List Spec) : Bool := S.all fun s =>
  (match s.fresh with
   | none => true
   | some d => l.all fun p => p.1 == d || !refs p.2 d || jk s.asg p.1) &&
  (!s.deep || l.all fun p => !isDeep p.2 || has s.asg p.1)
/-- Nothing leads to what is put anew; what leads through memory is told of. -/
def Clear (s : Spec) (σ : St) : Prop := (∀ d, s.fresh = some d → ∀ t, t ≠ d → refs (σ t) d = true → s.asg.lookup t = some .junk) ∧ (s.deep = true → ∀ t, isDeep (σ t) = true → has s.asg t = true)
theorem Clear.ref {s : Spec} {σ : St} {d t : Nat} (hc : Clear s σ) (hf : s.fresh = some d) (ht : t ≠ d) (hn : s.asg.lookup t ≠ some .junk) : refs (σ t) d = false := by
  cases h : refs (σ t) d with
  | false => rfl
  | true => exact absurd (hc.1 d hf t ht h) hn
inductive Each (Q : Nat → Spec → Prop) : Nat → List Spec → Prop
  | nil {k : Nat} : Each Q k []
  | cons {k : Nat} {s : Spec} {S : List Spec} (h : Q k s) (t : Each Q (k + 1) S) : Each Q k (s :: S)
theorem Each.get {Q : Nat → Spec → Prop} {k : Nat} {S : List Spec} (h : Each Q k S) : ∀ j s, S[j]? = some s → Q (k + j) s := by
  induction h with
  | nil => intro j s hs; simp at hs
  | @cons k s' S h t ih =>
    intro j s hs
    cases j with
    | zero => simp only [List.getElem?_cons_zero, Option.some.injEq] at hs; subst hs; exact h
    | succ j => have := ih j s (by simpa using hs); rw [show k + (j + 1) = k + 1 + j by omega]; exact this

theorem valT_agree {D D' : Nat → Bool} {t : Nat} {S : List Spec} : ∀ {k : Nat} {x : T}, (∀ i s, S[i]? = some s → has s.asg t = true → D (k + i) = D' (k + i)) → valT D t k x S = valT D' t k x S := by
  induction S with
  | nil => intros; rfl
  | cons s S ih =>
    intro k x h
    simp only [valT]
    have h0 : (bif D k then (s.asg.lookup t).getD x else x) = (bif D' k then (s.asg.lookup t).getD x else x) := by
      cases hl : s.asg.lookup t with
      | none => cases D k <;> cases D' k <;> rfl
      | some y => rw [show D k = D' k from h 0 s rfl (by simp [has, hl])]
    rw [h0]
    exact ih (fun i s' hi ha => by have := h (i + 1) s' (by simpa using hi) ha; rw [show k + (i + 1) = k + 1 + i by omega] at this; exact this)
theorem valT_none {D : Nat → Bool} {t : Nat} {S : List Spec} : ∀ {k : Nat} {x : T}, (∀ i s, S[i]? = some s → has s.asg t = true → D (k + i) = false) → valT D t k x S = x := by
  induction S with
  | nil => intros; rfl
  | cons s S ih =>
    intro k x h
    simp only [valT]
    have h0 : (bif D k then (s.asg.lookup t).getD x else x) = x := by
      cases hl : s.asg.lookup t with
      | none => cases D k <;> rfl
      | some y => rw [show D k = false from h 0 s rfl (by simp [has, hl])]; rfl
    rw [h0]
    exact ih (fun i s' hi ha => by have := h (i + 1) s' (by simpa using hi) ha; rw [show k + (i + 1) = k + 1 + i by omega] at this; exact this)
theorem valT_last {D : Nat → Bool} {t : Nat} {s : Spec} {y : T} {S : List Spec} : ∀ {j k : Nat} {x : T}, S[j]? = some s → D (k + j) = true → s.asg.lookup t = some y → (∀ i s', j < i → S[i]? = some s' → has s'.asg t = true → D (k + i) = false) → valT D t k x S = y := by
  induction S with
  | nil => intro j k x h; simp at h
  | cons s' S ih =>
    intro j k x hj hD hy h
    cases j with
    | zero =>
      simp only [List.getElem?_cons_zero, Option.some.injEq] at hj
      subst hj
      simp only [valT]
      rw [show D k = true from hD, hy]
      exact valT_none (fun i s' hi ha => by have := h (i + 1) s' (by omega) (by simpa using hi) ha; rw [show k + (i + 1) = k + 1 + i by omega] at this; exact this)
    | succ j =>
      simp only [valT]
      exact ih (j := j) (by simpa using hj) (by rw [show k + 1 + j = k + (j + 1) by omega]; exact hD) hy (fun i s' hi hs ha => by have := h (i + 1) s' (by omega) (by simpa using hs) ha; rw [show k + (i + 1) = k + 1 + i by omega] at this; exact this)
theorem lookup_mem {A : List (Nat × T)} {t : Nat} {y : T} (h : A.lookup t = some y) : (t, y) ∈ A := by
  induction A with
  | nil => simp at h
  | cons p A ih =>
    obtain ⟨k, x⟩ := p
    simp only [List.lookup] at h
    split at h
    · rename_i hb
      simp only [beq_iff_eq] at hb
      cases h
      rw [hb]
      exact List.mem_cons_self
    · exact List.mem_cons_of_mem _ (ih h)
theorem valT_where {D : Nat → Bool} {t : Nat} {S : List Spec} : ∀ {k : Nat} {x : T}, valT D t k x S = x ∨ ∃ j s, S[j]? = some s ∧ D (k + j) = true ∧ (t, valT D t k x S) ∈ s.asg := by
  induction S with
  | nil => intros; exact .inl rfl
  | cons s S ih =>
    intro k x
    simp only [valT]
    rcases ih (k := k + 1) (x := bif D k then (s.asg.lookup t).getD x else x) with h | ⟨j, s', h1, h2, h3⟩
    · rw [h]
      cases hD : D k with
      | false => exact .inl rfl
      | true =>
        cases hl : s.asg.lookup t with
        | none => exact .inl rfl
        | some y =>
          refine .inr ⟨0, s, rfl, hD, ?_⟩
          simp only [cond_true, Option.getD_some]
          exact lookup_mem hl
    · exact .inr ⟨j + 1, s', by simpa using h1, by rw [show k + (j + 1) = k + 1 + j by omega]; exact h2, h3⟩
section
variable {P : Program} {K : Ctx} {ops : Array Oper} {S : List Spec} {tab : List (List Nat)} {σ0 : St}

theorem Sim.drew {σ : St} {a : Act} {w : World} (h : Sim K σ a w) : Sim K σ a w.drew := by
  obtain ⟨Fs, h⟩ := h
  exact ⟨Fs, fun i => (h.rep i).turn (w' := w.drew) (fun _ _ => rfl) (fun _ _ _ _ hq => walk_same (w := w) (w' := w.drew) (fun _ _ => rfl) hq) (fun _ _ _ _ _ _ hc _ => hc) (fun _ _ => rfl), h.nd, h.dis, h.own, ⟨h.keeps.os, h.keeps.tape, h.keeps.output, h.keeps.size, h.keeps.block⟩, h.ro, h.size, h.pin, h.defers⟩

def Down (tab : List (List Nat)) (D : Nat → Bool) : Prop := ∀ j, D j = true → ∀ i ∈ tab.getD j [], D i = true
theorem chk_anc (hc : chk tab S = true) {j : Nat} {s : Spec} (hj : S[j]? = some s) : chkAnc tab S j s = true := by
  simp only [chk, Bool.and_eq_true, List.all_eq_true, List.mem_range] at hc
  have hlt : j < S.length := (List.getElem?_eq_some_iff.mp hj).1
  have := hc.2 j hlt
  rw [hj] at this
  simp only [Bool.and_eq_true] at this
  exact this.1
theorem chk_pair (hc : chk tab S = true) {i j : Nat} {si sj : Spec} (hi : S[i]? = some si) (hj : S[j]? = some sj) (hne : i ≠ j) : chkPair i si j sj = true := by
  simp only [chk, Bool.and_eq_true, List.all_eq_true, List.mem_range] at hc
  have hlt : j < S.length := (List.getElem?_eq_some_iff.mp hj).1
  have hlt' : i < S.length := (List.getElem?_eq_some_iff.mp hi).1
  have := hc.2 j hlt
  rw [hj] at this
  simp only [Bool.and_eq_true, List.all_eq_true, List.mem_range, Bool.or_eq_true, beq_iff_eq] at this
  have := this.2 i hlt'
  rw [hi] at this
  exact this.resolve_left hne
theorem anc_lt (hc : chk tab S = true) {j i : Nat} (h : i ∈ ancOf S j) : i < j := by
  unfold ancOf at h
  cases hj : S[j]? with
  | none => rw [hj] at h; cases h
  | some s =>
    rw [hj] at h
    have := chk_anc hc hj
    simp only [chkAnc, Bool.and_eq_true, List.all_eq_true] at this
    have := (this.2 i h).1
    simpa using this
theorem anc_down (hc : chk tab S = true) {D : Nat → Bool} (hD : Down tab D) : ∀ (n j : Nat), j < n → (∀ i ∈ tab.getD j [], D i = true) → ∀ i ∈ ancOf S j, D i = true := by
  intro n
  induction n with
  | zero => intro j h; omega
  | succ n ih =>
    intro j hjn hdir i hi
    unfold ancOf at hi
    cases hj : S[j]? with
    | none => rw [hj] at hi; cases hi
    | some s =>
      rw [hj] at hi
      have := chk_anc hc hj
      simp only [chkAnc, Bool.and_eq_true, List.all_eq_true] at this
      have h2 := (this.2 i hi).2
      simp only [Bool.or_eq_true] at h2
      rcases h2 with h2 | h2
      · exact hdir i (by simpa using h2)
      · obtain ⟨k, hk, h3⟩ := List.any_eq_true.mp h2
        have hkj : k < j := by simpa using this.1 k hk
        exact ih k (by omega) (hD k (hdir k hk)) i (by simpa using h3)
theorem ready_step (hc : chk tab S = true) {D : Nat → Bool} (hD : Down tab D) {j : Nat} {s : Spec} (hj : S[j]? = some s) (hnot : D j = false) (hdir : ∀ i ∈ tab.getD j [], D i = true)
    (h0 : ∀ s ∈ S, Clear s σ0) (hst : Clear s (over (stD S σ0 D) (needs S σ0 s)) → OStep P K ops j (over (stD S σ0 D) (needs S σ0 s)) (over (over (stD S σ0 D) (needs S σ0 s)) s.asg)) :
    OStep P K ops j (stD S σ0 D) (stD S σ0 (fun i => D i || i == j)) := by
  have hanc : ∀ i ∈ s.anc, D i = true := by
    have := anc_down hc hD (j + 1) j (by omega) hdir
    unfold ancOf at this
    rw [hj] at this
    exact this
  have hdn : ∀ i, j ∈ ancOf S i → D i = false := by
    intro i hi
    cases hDi : D i with
    | false => rfl
    | true =>
      have := anc_down hc hD (i + 1) i (by omega) (hD i hDi) j hi
      rw [hnot] at this
      cases this
  have hneed : over (stD S σ0 D) (needs S σ0 s) = stD S σ0 D := by
    funext t
    unfold over
    cases hl : (needs S σ0 s).lookup t with
    | none => rfl
    | some y =>
      have hm := lookup_mem hl
      unfold needs at hm
      obtain ⟨t', ht', e⟩ := List.mem_map.mp hm
      injection e with e1 e2
      subst e1
      rw [Option.getD_some, ← e2]
      refine valT_agree (fun i si hi ha => ?_)
      rw [Nat.zero_add]
      rcases Nat.lt_trichotomy i j with hij | hij | hij
      · have hp := chk_pair hc hi hj (by omega)
        simp only [chkPair, Bool.and_eq_true, List.all_eq_true] at hp
        obtain ⟨y', hy'⟩ : ∃ y', si.asg.lookup t' = some y' := Option.isSome_iff_exists.mp ha
        have h1 := hp.1.1 _ (lookup_mem hy')
        simp only [Bool.or_eq_true, Bool.and_eq_true, Bool.not_eq_true'] at h1
        rcases h1 with (h1 | h1) | h1
        · have := List.contains_iff_mem.mpr ht'
          rw [h1.1] at this; cases this
        · rw [h1, hanc i (by simpa using h1)]
        · exact absurd (anc_lt hc (show j ∈ ancOf S i by unfold ancOf; rw [hi]; simpa using h1)) (by omega)
      · subst hij
        rw [hnot]
        cases hcn : s.anc.contains i with
        | false => rfl
        | true => exact absurd (anc_lt hc (show i ∈ ancOf S i by unfold ancOf; rw [hj]; simpa using hcn)) (by omega)
      · have hp := chk_pair hc hi hj (by omega)
        simp only [chkPair, Bool.and_eq_true, List.all_eq_true] at hp
        obtain ⟨y', hy'⟩ : ∃ y', si.asg.lookup t' = some y' := Option.isSome_iff_exists.mp ha
        have h1 := hp.1.1 _ (lookup_mem hy')
        simp only [Bool.or_eq_true, Bool.and_eq_true, Bool.not_eq_true'] at h1
        rcases h1 with (h1 | h1) | h1
        · have := List.contains_iff_mem.mpr ht'
          rw [h1.1] at this; cases this
        · exact absurd (anc_lt hc (show i ∈ ancOf S j by unfold ancOf; rw [hj]; simpa using h1)) (by omega)
        · rw [hdn i (by unfold ancOf; rw [hi]; simpa using h1)]
          cases hcn : s.anc.contains i with
          | false => rfl
          | true => exact absurd (anc_lt hc (show i ∈ ancOf S j by unfold ancOf; rw [hj]; simpa using hcn)) (by omega)
  have hclear : Clear s (stD S σ0 D) := by
    have hs0 := h0 s (List.mem_of_getElem? hj)
    refine ⟨fun d hd t ht hrf => ?_, fun hdp t ht => ?_⟩
    · unfold stD at hrf
      rcases valT_where (D := D) (t := t) (S := S) (k := 0) (x := σ0 t) with h | ⟨i, si, h1, h2, h3⟩
      · rw [h] at hrf; exact hs0.1 d hd t ht hrf
      · rw [Nat.zero_add] at h2
        have hij : i ≠ j := by rintro rfl; rw [hnot] at h2; cases h2
        have hp := chk_pair hc h1 hj hij
        simp only [chkPair, Bool.and_eq_true, hd, List.all_eq_true] at hp
        have h4 := hp.1.2 _ h3
        simp only [Bool.or_eq_true, Bool.not_eq_true', beq_iff_eq] at h4
        rcases h4 with ((h4 | h4) | h4) | h4
        · exact absurd h4 ht
        · rw [hrf] at h4; cases h4
        · have := hdn i (by unfold ancOf; rw [h1]; simpa using h4)
          rw [h2] at this; cases this
        · exact jk_ok h4
    · unfold stD at ht
      rcases valT_where (D := D) (t := t) (S := S) (k := 0) (x := σ0 t) with h | ⟨i, si, h1, h2, h3⟩
      · rw [h] at ht; exact hs0.2 hdp t ht
      · rw [Nat.zero_add] at h2
        have hij : i ≠ j := by rintro rfl; rw [hnot] at h2; cases h2
        have hp := chk_pair hc h1 hj hij
        simp only [chkPair, Bool.and_eq_true, hdp, Bool.not_true, Bool.false_or, List.all_eq_true] at hp
        have h4 := hp.2 _ h3
        simp only [Bool.or_eq_true, Bool.not_eq_true'] at h4
        rcases h4 with (h4 | h4) | h4
        · rw [ht] at h4; cases h4
        · exact h4
        · have := hdn i (by unfold ancOf; rw [h1]; simpa using h4)
          rw [h2] at this; cases this
  have h1 := hst (by rw [hneed]; exact hclear)
  rw [hneed] at h1
  have h2 : over (stD S σ0 D) s.asg = stD S σ0 (fun i => D i || i == j) := by
    funext t
    unfold over
    cases hl : s.asg.lookup t with
    | none =>
      refine valT_agree (fun i si hi ha => ?_)
      rw [Nat.zero_add]
      by_cases hij : i = j
      · subst hij
        rw [hj] at hi
        cases hi
        simp [has, hl] at ha
      · simp [hij]
    | some y =>
      refine (valT_last (j := j) hj (by simp) hl (fun i si hij hi ha => ?_)).symm
      rw [Nat.zero_add]
      have hp := chk_pair hc hi hj (by omega)
      simp only [chkPair, Bool.and_eq_true, List.all_eq_true] at hp
      obtain ⟨y', hy'⟩ : ∃ y', si.asg.lookup t = some y' := Option.isSome_iff_exists.mp ha
      have h1 := hp.1.1 _ (lookup_mem hy')
      simp only [Bool.or_eq_true, Bool.and_eq_true, Bool.not_eq_true'] at h1
      rcases h1 with (h1 | h1) | h1
      · simp [has, hl] at h1
      · exact absurd (anc_lt hc (show i ∈ ancOf S j by unfold ancOf; rw [hj]; simpa using h1)) (by omega)
      · rw [hdn i (by unfold ancOf; rw [hi]; simpa using h1)]
        simp; omega
  rw [h2] at h1
  exact h1
theorem tab_get (hT : Region.tabAfter .any ops = tab) {j : Nat} {o : Oper} (ho : ops[j]? = some o) {i : Nat} : i ∈ tab.getD j [] ↔ ∃ e ∈ o.after, Region.binds .any e = true ∧ e.on = i := by
  subst hT
  unfold Region.tabAfter
  rw [List.getD_eq_getElem?_getD, List.getElem?_map, Array.getElem?_toList, ho]
  simp [List.mem_map, List.mem_filter]
  constructor
  · rintro ⟨e, ⟨h1, h2⟩, h3⟩; exact ⟨e, h1, h2, h3⟩
  · rintro ⟨e, h1, h2, h3⟩; exact ⟨e, ⟨h1, h2⟩, h3⟩
theorem any_go (hT : Region.tabAfter .any ops = tab) (hc : chk tab S = true) (h0 : ∀ s ∈ S, Clear s σ0) {Q : Exit → Act → World → Prop}
    (hst : ∀ j s, S[j]? = some s → ∀ σ, Clear s (over σ (needs S σ0 s)) → OStep P K ops j (over σ (needs S σ0 s)) (over (over σ (needs S σ0 s)) s.asg))
    (hq : ∀ a w, Sim K (stD S σ0 (fun _ => true)) a w → Q .normal a w) : ∀ (fuel : Nat) (listed : Array Bool) (a : Act) (w : World), listed.size = ops.size → Down tab (fun i => listed.getD i false) →
      (∃ l : List Nat, l.Nodup ∧ l.length + fuel = ops.size ∧ ∀ i ∈ l, listed.getD i false = true) → Sim K (stD S σ0 (fun i => listed.getD i false)) a w → wpAny P .any ops Q fuel listed a w := by
  have hlen : S.length = ops.size := by
    have := hc
    simp only [chk, Bool.and_eq_true, beq_iff_eq] at this
    rw [this.1, ← hT]
    simp [Region.tabAfter]
  have hfin : ∀ (listed : Array Bool) (a : Act) (w : World), listed.size = ops.size → Down tab (fun i => listed.getD i false) → Region.ready .any ops listed = [] → Sim K (stD S σ0 (fun i => listed.getD i false)) a w → Q .normal a w := by
    intro listed a w hsz hD hr hs
    have hall : ∀ n j, j < n → j < ops.size → listed.getD j false = true := by
      intro n
      induction n with
      | zero => intro j h; omega
      | succ n ih =>
        intro j hjn hj
        cases hl : listed.getD j false with
        | true => rfl
        | false =>
          exfalso
          have hj' : ops[j]? = some ops[j] := Array.getElem?_eq_getElem hj
          have hmem : j ∈ Region.ready .any ops listed := by
            rw [mem_ready]
            refine ⟨?_, _, hj', fun e he hb => ?_⟩
            · rw [Array.getD_eq_getD_getElem?] at hl ⊢
              rw [Array.getElem?_eq_getElem (by omega)] at hl ⊢
              exact hl
            · have h1 := (tab_get hT hj').mpr ⟨e, he, hb, rfl⟩
              have h2 := chk_anc hc (List.getElem?_eq_getElem (show j < S.length by omega))
              simp only [chkAnc, Bool.and_eq_true, List.all_eq_true] at h2
              have h3 := h2.1 _ h1
              have h3 : e.on < j := by simpa using h3
              exact ih e.on (by omega) (by omega)
          rw [hr] at hmem
          cases hmem
    refine hq a w ?_
    have : stD S σ0 (fun i => listed.getD i false) = stD S σ0 (fun _ => true) := by
      funext t
      refine valT_agree (fun i s hi _ => ?_)
      rw [Nat.zero_add]
      exact hall (i + 1) i (by omega) (by have := (List.getElem?_eq_some_iff.mp hi).1; omega)
    rw [← this]
    exact hs
  intro fuel
  induction fuel with
  | zero =>
    intro listed a w hsz hD ⟨l, hnd, hl, hall⟩ hs
    have hr : Region.ready .any ops listed = [] := by
      apply List.eq_nil_iff_forall_not_mem.mpr
      intro j hj
      obtain ⟨h1, o, ho, _⟩ := mem_ready.mp hj
      have hjs : j < ops.size := (Array.getElem?_eq_some_iff.mp ho).1
      have hjl : j ∉ l := by
        intro h
        have h2 := hall j h
        rw [Array.getD_eq_getD_getElem?, Array.getElem?_eq_getElem (by omega)] at h1 h2
        simp at h1 h2
        rw [h1] at h2; cases h2
      have h3 : (j :: l).length ≤ (List.range ops.size).length := by
        apply List.Nodup.length_le_of_subset (List.nodup_cons.mpr ⟨hjl, hnd⟩)
        intro x hx
        rw [List.mem_range]
        rcases List.mem_cons.mp hx with rfl | hx
        · exact hjs
        · have h2 := hall x hx
          rcases Nat.lt_or_ge x ops.size with h | h
          · exact h
          · rw [Array.getD_eq_getD_getElem?, Array.getElem?_eq_none (by omega)] at h2
            cases h2
      simp at h3
      omega
    exact ⟨hr, hfin listed a w hsz hD hr hs⟩
  | succ fuel ih =>
    intro listed a w hsz hD ⟨l, hnd, hl, hall⟩ hs
    refine ⟨fun hr => hfin listed a w hsz hD hr hs, fun j hj => ?_⟩
    obtain ⟨h1, o, ho, hdep⟩ := mem_ready.mp hj
    have hjs : j < ops.size := (Array.getElem?_eq_some_iff.mp ho).1
    have hjS : S[j]? = some S[j] := List.getElem?_eq_getElem (by omega)
    have hjf : listed.getD j false = false := by
      rw [Array.getD_eq_getD_getElem?, Array.getElem?_eq_getElem (by omega)] at h1 ⊢
      exact h1
    have hdir : ∀ i ∈ tab.getD j [], listed.getD i false = true := by
      intro i hi
      obtain ⟨e, he, hb, rfl⟩ := (tab_get hT ho).mp hi
      exact hdep e he hb
    have hstep := ready_step hc hD hjS hjf hdir h0 (hst j _ hjS _)
    have hset : ∀ i, (listed.setIfInBounds j true).getD i false = (listed.getD i false || i == j) := by
      intro i
      by_cases hij : j = i
      · subst hij
        simp [Array.getD_eq_getD_getElem?, show j < listed.size by omega]
      · rw [getD_set_ne false hij]
        simp [show i ≠ j from fun h => hij h.symm]
    have hfun : (fun i => (listed.setIfInBounds j true).getD i false) = fun i => listed.getD i false || i == j := funext hset
    refine wpOp_all (hstep a w hs) (fun a' w' hs' => ih _ a' w' (by simpa using hsz) ?_ ⟨j :: l, List.nodup_cons.mpr ⟨fun h => ?_, hnd⟩, by simp; omega, fun i hi => ?_⟩ (by rw [hfun]; exact hs'))
    · rw [hfun]
      intro i hi k hk
      simp only [Bool.or_eq_true, beq_iff_eq] at hi ⊢
      rcases hi with hi | rfl
      · exact .inl (hD i hi k hk)
      · exact .inl (hdir k hk)
    · have := hall j h
      rw [hjf] at this; cases this
    · rw [hset]
      rcases List.mem_cons.mp hi with rfl | hi
      · simp
      · simp [hall i hi]
def allD (S : List Spec) (σ : St) : St := S.foldl (fun σ s => over σ s.asg) σ
theorem valT_all (t : Nat) : ∀ (S : List Spec) (k : Nat) (σ : St), valT (fun _ => true) t k (σ t) S = allD S σ t := by
  intro S
  induction S with
  | nil => intros; rfl
  | cons s S ih =>
    intro k σ
    simp only [valT, cond_true, allD, List.foldl_cons]
    exact ih (k + 1) (over σ s.asg)
theorem r_any {id : Nat} {Q : Exit → St → Prop} {σ' : St} (S : List Spec) (hm : P.follows .mixedOrders = true) (hT : Region.tabAfter .any ops = tab) (hc : chk tab S = true) (h0 : ∀ s ∈ S, Clear s σ0)
    (hst : Each (fun j s => ∀ σ, Clear s (over σ (needs S σ0 s)) → OStep P K ops j (over σ (needs S σ0 s)) (over (over σ (needs S σ0 s)) s.asg)) 0 S) (hw : ∀ i, σ' i = allD S σ0 i ∨ σ' i = .junk) (hq : Q .normal σ') : Run P K (.region id ops true) σ0 Q := by
  intro a w hs
  have hrep : ∀ i, (Array.replicate ops.size false).getD i false = false := by
    intro i
    simp only [Array.getD_eq_getD_getElem?, Array.getElem?_replicate]
    split <;> rfl
  have hinit : stD S σ0 (fun i => (Array.replicate ops.size false).getD i false) = σ0 := by
    funext t
    exact valT_none (fun i s hi _ => hrep _)
  have hall : stD S σ0 (fun _ => true) = allD S σ0 := funext fun t => valT_all t S 0 σ0
  refine wp_region_any hm (any_go (K := K) (Q := post K Q) hT hc h0 (fun j s hj => ?_) (fun a w hs => ?_) ops.size _ a _ (by simp) ?_ ⟨[], List.nodup_nil, by simp, by simp⟩ ?_)
  · have := hst.get j s hj
    rwa [Nat.zero_add] at this
  · rw [hall] at hs
    exact ⟨σ', hs.weaken hw, hq⟩
  · intro j hj
    simp only [hrep] at hj
    cases hj
  · rw [hinit]
    exact hs.drew
end
end Go.Proofs.Ytfbjhioefkimbaa.V
namespace Go.Proofs.Ytfbjhioefkimbaa.V
open Go Go.RowKit
set_option linter.unusedVariables false
set_option linter.unusedSimpArgs false

section
variable {P : Program} {ET : TypeId} {w w' : World} {R : Nat → Prop} {K : Ctx} {σ σ' : St} {a : Act} {Fs : Nat → List Nat} {o : Oper} {d : Nat} {ops : Array Oper} {i : Nat}

theorem s_take {x : Operand} {u : U} {l : List Nat} (ho : o.op = .move x ∨ o.op = .assign x) (hx : Src K σ x u l) (hd : o.dst = some d) (hn : okT K d = true) : Step P K σ o (put (junks σ l) d (.u u)) := by
  rintro a w ⟨Fs, hs⟩
  obtain ⟨F, Fs', hu, hs', hF, _, _⟩ := hs.take hx
  have hrun : (execOp a.eval o).run P w = .ok (.value (a.eval x)) w := by
    rcases ho with ho | ho <;> simp [execOp, ho, pure]
  simp only [Oper.wp, hrun, Oper.upon_value, hd]
  exact ⟨_, hs'.put2 hn (Keeps.refl _ _) hF.2 hF.1 (.u hu)⟩
theorem RepUs.pick {xs : List Value} {us : List U} {F : List Nat} (h : RepUs ET w R xs us F) {j : Nat} {u : U} (hj : us[j]? = some u) : ∃ x F1 F2, xs[j]? = some x ∧ RepU ET w R x u F1 ∧ RepUs ET w R xs (us.set j (.c .dead)) F2 ∧ (∀ b, b ∈ F1 → b ∈ F) ∧ (∀ b, b ∈ F2 → b ∈ F) ∧ (F.Nodup → F1.Nodup ∧ F2.Nodup ∧ ∀ b ∈ F1, b ∉ F2) := by
  induction us generalizing xs F j with
  | nil => simp at hj
  | cons u' us ih =>
    cases h with
    | @cons x _ xs _ F1 G h t =>
      cases j with
      | zero =>
        simp only [List.getElem?_cons_zero, Option.some.injEq] at hj
        subst hj
        exact ⟨x, F1, [] ++ G, rfl, h, .cons (.c (.dead _)) t, fun b hb => List.mem_append_left _ hb, fun b hb => List.mem_append_right _ (by simpa using hb), fun hn => ⟨(List.nodup_append.mp hn).1, by simpa using (List.nodup_append.mp hn).2.1, fun b hb hb2 => (List.nodup_append.mp hn).2.2 b hb b (by simpa using hb2) rfl⟩⟩
      | succ j =>
        obtain ⟨x', G1, G2, h1, h2, h3, h4, h5, h6⟩ := ih t (by simpa using hj)
        refine ⟨x', G1, F1 ++ G2, by simpa using h1, h2, .cons h h3, fun b hb => List.mem_append_right _ (h4 b hb), fun b hb => ?_, fun hn => ?_⟩
        · rcases List.mem_append.mp hb with hb | hb
          · exact List.mem_append_left _ hb
          · exact List.mem_append_right _ (h5 b hb)
        · obtain ⟨n1, n2, n3⟩ := List.nodup_append.mp hn
          obtain ⟨m1, m2, m3⟩ := h6 n2
          refine ⟨m1, List.nodup_append.mpr ⟨n1, m2, fun x hx y hy e => ?_⟩, fun b hb hb2 => ?_⟩
          · subst e; exact n3 x hx x (h5 x hy) rfl
          · rcases List.mem_append.mp hb2 with hb2 | hb2
            · exact n3 b hb2 b (h4 b hb) rfl
            · exact m3 b hb hb2
/-! ### Pure operations, many at once -/
/-- In a state that nothing leads to it: a temporary is put. -/
theorem put_over {t : T} (h : ∀ i, i ≠ d → refs (σ i) d = false) : put σ d t = over σ [(d, t)] := by
  funext i
  unfold put over
  by_cases hi : i = d
  · subst hi
    simp [List.lookup]
  · rw [if_neg hi]
    unfold killR
    rw [h i hi]
    simp [List.lookup, show (i == d) = false by simpa using hi]
theorem e_put {t : T} {s : Spec} {j : Nat} (hc : Clear s σ) (hf : s.fresh = some d) (ha : s.asg = [(d, t)]) (h : OStep P K ops j σ (put σ d t)) : OStep P K ops j σ (over σ s.asg) := by
  rw [ha, ← put_over (fun i hi => hc.ref hf hi (by rw [ha, List.lookup_cons, show (i == d) = false by simpa using hi]; simp))]
  exact h
/-- So many operations from one on, all of them pure: what the state becomes. -/
theorem Chain.app {i n m : Nat} {σ1 σ2 σ3 : St} (h : Chain P K ops i n σ1 σ2) (t : Chain P K ops (i + n) m σ2 σ3) : Chain P K ops i (n + m) σ1 σ3 := by
  induction h with
  | nil => simpa using t
  | cons h _ ih =>
    rename_i i n _ _ _ _
    rw [show n + 1 + m = (n + m) + 1 by omega]
    exact .cons h (ih (by rw [show i + 1 + n = i + (n + 1) by omega]; exact t))
end
end Go.Proofs.Ytfbjhioefkimbaa.V
namespace Go.Proofs.Ytfbjhioefkimbaa.V
open Go Go.RowKit
set_option linter.unusedVariables false
set_option linter.unusedSimpArgs false

/-- An entry: its key, its stamp, its value's cells. -/
abbrev Ent := Option (Value × Nat × List C)
def MapIs (ET : TypeId) (w : World) (es : Array MapEntry) (clock : Nat) : Ent → List Nat → Prop
  | none, F => es = #[] ∧ F = []
  | some (key, born, cs), F => born < clock ∧ ∃ arr : Array Value, es = #[⟨key, .agg arr, born⟩] ∧ RepL ET w (fun _ => False) arr.toList cs F
theorem MapIs.frame {ET : TypeId} {w w' : World} {es : Array MapEntry} {clock : Nat} {k : Ent} {F : List Nat} (h : MapIs ET w es clock k F) (hw : ∀ b ∈ F, w'.heap[b]? = w.heap[b]?) : MapIs ET w' es clock k F := by
  cases k with
  | none => exact h
  | some q =>
    obtain ⟨key, born, cs⟩ := q
    obtain ⟨h1, arr, h2, h3⟩ := h
    exact ⟨h1, arr, h2, h3.frame (fun _ h => h) (fun b hb => hw b (hb.resolve_right id))⟩
theorem MapIs.lt {ET : TypeId} {w : World} {es : Array MapEntry} {clock : Nat} {k : Ent} {F : List Nat} (h : MapIs ET w es clock k F) : ∀ b ∈ F, b < w.heap.size := by
  cases k with
  | none => rw [h.2]; simp
  | some q => obtain ⟨_, arr, _, h3⟩ := h; exact h3.lt
section
variable {P : Program} {ET : TypeId} {w w' : World} {R : Nat → Prop} {K : Ctx} {σ : St} {a : Act} {Fs : Nat → List Nat} {o : Oper} {d : Nat}

/-! ### Keys -/
end
end Go.Proofs.Ytfbjhioefkimbaa.V
namespace Go.Proofs.Ytfbjhioefkimbaa.V
open Go Go.RowKit
set_option linter.unusedVariables false
set_option linter.unusedSimpArgs false

/-- Some value of one cell. -/
def anyQ : Opq where
  rep := fun _ v F => (v.cells = #[v] ∧ v.oneCell' = true) ∧ F = []
  frame := fun h _ => h
  lt := by rintro w v F ⟨_, rfl⟩ b hb; cases hb
  one := fun h => h.1
  isp := false
  ptr := by intro h; cases h
def dropC : C → C
  | .v x => .v x
  | .err t => .err t
  | .dead => .dead
  | _ => .x anyQ
section
variable {P : Program} {ET : TypeId} {w w' : World} {R R' : Nat → Prop} {K : Ctx} {σ : St} {a : Act} {Fs : Nat → List Nat} {o : Oper} {d : Nat}

theorem RepC.drop {x : Value} {c : C} {F : List Nat} (h : RepC ET w R x c F) : RepC ET w R' x (dropC c) [] := by
  cases h with
  | v h => exact .v h
  | err t => exact .err t
  | dead x => exact .dead x
  | _ => first
    | exact .x ⟨⟨rfl, rfl⟩, rfl⟩
    | (rename_i q h; exact .x ⟨q.one h, rfl⟩)
/-! ### Walks -/
end
end Go.Proofs.Ytfbjhioefkimbaa.V
namespace Go.Proofs.Ytfbjhioefkimbaa.V
open Go Go.RowKit
set_option linter.unusedVariables false
set_option linter.unusedSimpArgs false

section
variable {P : Program} {ET : TypeId} {w w' : World} {R R' : Nat → Prop} {K : Ctx} {σ : St} {a : Act} {Fs : Nat → List Nat} {o : Oper} {d : Nat}

/-! ### A map's name -/
end
end Go.Proofs.Ytfbjhioefkimbaa.V
namespace Go.Proofs.Ytfbjhioefkimbaa.V
open Go Go.RowKit
set_option linter.unusedVariables false
set_option linter.unusedSimpArgs false

section
variable {P : Program} {K : Ctx} {σ σ' : St} {o : Oper} {d : Nat} {ops : Array Oper} {t : T}

def oneB (P : Program) (t : TypeId) : Bool := (match P.underlying t with
  | some q => !q.isRow
  | none => false) && (P.info? t).map (·.size) == some 1
def aggB (P : Program) (t : TypeId) (n : Nat) : Bool := (match P.underlying t with
  | some q => q.isRow
  | none => false) && (P.info? t).map (·.size) == some n && Nat.blt 0 n
def sizeB (P : Program) (t : TypeId) : Nat := match P.info? t with
  | some i => i.size
  | none => 0
def fldB (P : Program) (s f : Nat) : Option Nat := match P.underlying s with
  | some (.struct fields) => match fields[f]? with
    | some fd => if Nat.blt 0 (sizeB P fd.type) then some fd.offset else none
    | none => none
  | _ => none
theorem oneB_ok {t : TypeId} (h : oneB P t = true) : OneT P t := by
  unfold oneB at h
  simp only [Bool.and_eq_true, beq_iff_eq] at h
  obtain ⟨h1, h2⟩ := h
  refine ⟨?_, h2⟩
  cases hq : P.underlying t with
  | none => rw [hq] at h1; cases h1
  | some q => rw [hq] at h1; exact ⟨q, rfl, by simpa using h1⟩
theorem aggB_ok {t n : Nat} (h : aggB P t n = true) : AggT P t n := by
  unfold aggB at h
  simp only [Bool.and_eq_true, beq_iff_eq] at h
  obtain ⟨⟨h1, h2⟩, h3⟩ := h
  refine ⟨?_, h2, Nat.lt_of_succ_le (by simpa [Nat.blt] using h3)⟩
  cases hq : P.underlying t with
  | none => rw [hq] at h1; cases h1
  | some q => rw [hq] at h1; exact ⟨q, rfl, h1⟩
theorem sizeB_ok {t : Nat} (h : Nat.blt 0 (sizeB P t) = true) : (P.info? t).map (·.size) = some (sizeB P t) ∧ ∃ i, P.info? t = some i ∧ i.size = sizeB P t ∧ i.size ≠ 0 := by
  unfold sizeB at *
  cases hi : P.info? t with
  | none => rw [hi] at h; cases h
  | some i =>
    rw [hi] at h
    refine ⟨rfl, i, rfl, rfl, ?_⟩
    have : 1 ≤ i.size := by simpa [Nat.blt] using h
    omega
theorem fldB_ok {s f off : Nat} (h : fldB P s f = some off) : FieldT P s f off := by
  unfold fldB at h
  split at h
  · rename_i fields hu
    split at h
    · rename_i fd hf
      split at h
      · rename_i hs
        injection h with h
        obtain ⟨_, i, h1, _, h2⟩ := sizeB_ok hs
        exact ⟨fields, fd, i, hu, hf, h, h1, h2⟩
      · cases h
    · cases h
  · cases h
def rdC (r : Nat) (s : Sel) (p : List (Nat × Sel)) (off : Nat) (x : C) : Option T := match x with
  | .v v => some (.u (.c (.v v)))
  | .err e => some (.u (.c (.err e)))
  | .sl true sz rows => some (.whole r (some (s, p, off)) sz rows.length)
  | .sl false sz rows => some (.u (.c (.sl false sz rows)))
  | .pt true _ => some (.addr r s (p ++ [(off, .d)]) 0)
  | .pt false cs => some (.u (.c (.pt false cs)))
  | _ => none
def q_load (P : Program) (K : Ctx) (σ : St) (o : Oper) (d : Nat) : Option T := match o.op with
  | .load t (.tmp i) => match aliasT i (σ i) with
    | .addr r s p off => match σ r with
      | .u (.c c) => match getP c s p with
        | some cs => if Nat.beq r d then none else if oneB P t then (match cs[off]? with
            | some x => rdC r s p off x
            | none => none)
          else if aggB P t (sizeB P t) && Nat.beq ((cs.drop off).take (sizeB P t)).length (sizeB P t) && ((cs.drop off).take (sizeB P t)).all copyC then some (.u (.agg ((cs.drop off).take (sizeB P t)))) else none
        | none => none
      | _ => none
    | _ => none
  | _ => none
theorem q_load_ok (h : q_load P K σ o d = some t) (hd : o.dst = some d) (hn : okT K d = true) : Step P K σ o (put σ d t) := by
  unfold q_load at h
  split at h
  · rename_i ty i ho
    split at h
    · rename_i r s p off hi
      split at h
      · rename_i c hr
        split at h
        · rename_i cs hg
          split at h
          · cases h
          · rename_i hrd
            have hrd : (r == d) = false := by simpa using hrd
            split at h
            · rename_i ht
              split at h
              · rename_i x hx
                unfold rdC at h
                split at h
                · injection h with h; subst h; exact s_load1 ho (oneB_ok ht) hi hr hg hx rfl hd hn
                · injection h with h; subst h; exact s_load1 ho (oneB_ok ht) hi hr hg hx rfl hd hn
                · injection h with h; subst h; exact s_loadS ho (oneB_ok ht) hi hr hg hx hd hn hrd
                · injection h with h; subst h; exact s_load1 ho (oneB_ok ht) hi hr hg hx rfl hd hn
                · injection h with h; subst h; exact s_loadP ho (oneB_ok ht) hi hr hg hx hd hn hrd
                · injection h with h; subst h; exact s_load1 ho (oneB_ok ht) hi hr hg hx rfl hd hn
                · cases h
              · cases h
            · split at h
              · rename_i hb
                simp only [Bool.and_eq_true] at hb
                injection h with h
                subst h
                exact s_loadA ho (aggB_ok hb.1.1) hi hr hg rfl (Nat.eq_of_beq_eq_true hb.1.2) hb.2 hd hn
              · cases h
        · cases h
      · cases h
    · cases h
  · cases h
def q_field (P : Program) (σ : St) (o : Oper) (d : Nat) : Option T := match o.op with
  | .fieldAddr s (.tmp i) f => match aliasT i (σ i) with
    | .addr r sl p off => match fldB P s f with
      | some foff => if Nat.beq r d then none else some (.addr r sl p (off + foff))
      | none => none
    | _ => none
  | _ => none
theorem q_field_ok (h : q_field P σ o d = some t) (hd : o.dst = some d) (hn : okT K d = true) : Step P K σ o (put σ d t) := by
  unfold q_field at h
  split at h
  · rename_i s i f ho
    split at h
    · rename_i r sl p off hi
      split at h
      · rename_i foff hf
        split at h
        · cases h
        · rename_i hrd
          injection h with h
          subst h
          exact s_field ho (fldB_ok hf) hi hd hn (by simpa using hrd)
      · cases h
    · cases h
  · cases h
def isEq : BinOp → Option Bool
  | .eql => some true
  | .neq => some false
  | _ => none
def errB (P : Program) (t : TypeId) : Bool := (P.info? t).map (·.comparable) == some true && match P.underlying t with
  | some (.int _) => true
  | _ => false
def ifaceB (P : Program) (t : TypeId) : Bool := match P.underlying t with
  | some (.interface _) => true
  | _ => false
def ptrB (P : Program) (t : TypeId) : Bool := match P.underlying t with
  | some (.pointer _) => true
  | _ => false
def boolB (P : Program) (t : TypeId) : Bool := match P.underlying t with
  | some .bool => true
  | _ => false
def nilC : Operand → Bool
  | .const (.pointer none) => true
  | _ => false
def isConst : Operand → Bool
  | .const _ => true
  | _ => false
theorem isEq_ok {op : BinOp} {b : Bool} (h : isEq op = some b) : op = .eql ∧ b = true ∨ op = .neq ∧ b = false := by
  cases op <;> simp [isEq] at h <;> simp [h]
def q_eq (P : Program) (K : Ctx) (σ : St) (o : Oper) : Option T := match o.op with
  | .binOp op xt x y _ => match isEq op with
    | some e => match opT K.ET σ x, opT K.ET σ y with
      | .u (.c (.v (.bool p))), .u (.c (.v (.bool q))) => if boolB P xt then some (.u (.c (.v (.bool (if e then p == q else !(p == q)))))) else none
      | .u (.c (.err p)), .u (.c (.err q)) => if ifaceB P xt && errB P K.ET && (isConst x || isConst y || q.isSome) then some (.u (.c (.v (.bool (if e then p == q else !(p == q)))))) else none
      | .addr _ _ _ _, _ => if nilC y && ptrB P xt then some (.u (.c (.v (.bool (!e))))) else none
      | .u (.c (.v (.pointer none))), _ => if nilC y && ptrB P xt then some (.u (.c (.v (.bool e)))) else none
      | _, _ => none
    | none => none
  | _ => none
theorem nilC_ok {y : Operand} (h : nilC y = true) : y = .const (.pointer none) := by
  unfold nilC at h
  split at h
  · rfl
  · cases h
theorem isConst_ok {y : Operand} (h : isConst y = true) : ∃ v, y = .const v := by
  unfold isConst at h
  split at h
  · exact ⟨_, rfl⟩
  · cases h
theorem ptrB_ok {t : TypeId} (h : ptrB P t = true) : PtrT P t := by
  unfold ptrB at h
  split at h
  · rename_i h1; exact ⟨_, h1⟩
  · cases h
theorem ifaceB_ok {t : TypeId} (h : ifaceB P t = true) : IfaceT P t := by
  unfold ifaceB at h
  split at h
  · rename_i h1; exact ⟨_, h1⟩
  · cases h
theorem boolB_ok {t : TypeId} (h : boolB P t = true) : BoolT P t := by
  unfold boolB at h
  split at h
  · rename_i h1; exact h1
  · cases h
theorem errB_ok {t : TypeId} (h : errB P t = true) : ErrT P t := by
  unfold errB at h
  simp only [Bool.and_eq_true, beq_iff_eq] at h
  obtain ⟨h1, h2⟩ := h
  refine ⟨h1, ?_⟩
  split at h2
  · rename_i h3; exact ⟨_, h3⟩
  · cases h2
theorem q_eq_ok (h : q_eq P K σ o = some t) (hd : o.dst = some d) (hn : okT K d = true) : Step P K σ o (put σ d t) := by
  unfold q_eq at h
  split at h
  · rename_i op xt x y yt ho
    split at h
    · rename_i e he
      have hop := isEq_ok he
      split at h
      · rename_i p q hx hy
        split at h
        · rename_i hb
          injection h with h
          subst h
          rcases hop with ⟨rfl, rfl⟩ | ⟨rfl, rfl⟩
          · exact s_eqB ho (.inl rfl) (boolB_ok hb) hx hy hd hn
          · exact s_eqB ho (.inr rfl) (boolB_ok hb) hx hy hd hn
        · cases h
      · rename_i p q hx hy
        split at h
        · rename_i hb
          simp only [Bool.and_eq_true, Bool.or_eq_true] at hb
          injection h with h
          subst h
          have hg : p ≠ none ∨ q ≠ none ∨ (∃ v, x = .const v) ∨ ∃ v, y = .const v := hb.2.elim (fun h => h.elim (fun h => .inr (.inr (.inl (isConst_ok h)))) (fun h => .inr (.inr (.inr (isConst_ok h))))) (fun h => .inr (.inl (fun e => by rw [e] at h; cases h)))
          rcases hop with ⟨rfl, rfl⟩ | ⟨rfl, rfl⟩
          · exact s_eqE ho (.inl rfl) (ifaceB_ok hb.1.1) (errB_ok hb.1.2) hx hy hg hd hn
          · exact s_eqE ho (.inr rfl) (ifaceB_ok hb.1.1) (errB_ok hb.1.2) hx hy hg hd hn
        · cases h
      · rename_i hx
        split at h
        · rename_i hb
          simp only [Bool.and_eq_true] at hb
          injection h with h
          subst h
          have := nilC_ok hb.1
          subst this
          rcases hop with ⟨rfl, rfl⟩ | ⟨rfl, rfl⟩
          · exact s_eqP ho (.inl rfl) (ptrB_ok hb.2) hx hd hn
          · exact s_eqP ho (.inr rfl) (ptrB_ok hb.2) hx hd hn
        · cases h
      · rename_i hx
        split at h
        · rename_i hb
          simp only [Bool.and_eq_true] at hb
          injection h with h
          subst h
          have := nilC_ok hb.1
          subst this
          rcases hop with ⟨rfl, rfl⟩ | ⟨rfl, rfl⟩
          · exact s_eqP0 ho (.inl rfl) (ptrB_ok hb.2) hx hd hn
          · exact s_eqP0 ho (.inr rfl) (ptrB_ok hb.2) hx hd hn
        · cases h
      · cases h
    · cases h
  · cases h
def opQ (P : Program) (K : Ctx) (ops : Array Oper) (j : Nat) (σ : St) (d : Nat) : Option T :=
  match ops[j]? with
  | some o => match o.guard with
    | none => match o.dst with
      | some d' => if Nat.beq d' d && okT K d then (match pureT K.ET σ o.op with
        | some t => if refs t d then none else some t
        | none => match q_load P K σ o d with
          | some t => some t
          | none => match q_field P σ o d with
            | some t => some t
            | none => q_eq P K σ o)
        else none
      | none => none
    | some _ => none
  | none => none
theorem os_q {j : Nat} (h : opQ P K ops j σ d = some t) : OStep P K ops j σ (put σ d t) := by
  unfold opQ at h
  split at h
  · rename_i o ho
    split at h
    · rename_i hg
      split at h
      · rename_i d' hd
        split at h
        · rename_i hb
          simp only [Bool.and_eq_true] at hb
          obtain ⟨hb1, hb2⟩ := hb
          have : d' = d := Nat.eq_of_beq_eq_true hb1
          subst this
          refine os_plain ho hg ?_
          split at h
          · rename_i t' hp
            split at h
            · cases h
            · rename_i hr
              cases h
              exact s_p hp hd hb2 (by simpa using hr)
          · split at h
            · rename_i t' hp
              cases h
              exact q_load_ok hp hd hb2
            · split at h
              · rename_i t' hp
                cases h
                exact q_field_ok hp hd hb2
              · exact q_eq_ok h hd hb2
        · cases h
      · cases h
    · cases h
  · cases h
/-- What the state holds at a list of temporaries. -/
def at_ (σ : St) (l : List (Nat × T)) : List (Nat × T) := l.map fun p => (p.1, σ p.1)
theorem of_weak {l : List (Nat × T)} (h : at_ σ l = l) : ∀ i, St.of l i = σ i ∨ St.of l i = .junk := by
  intro i
  unfold St.of
  cases hl : l.lookup i with
  | none => exact .inr rfl
  | some t =>
    left
    have hm := lookup_mem hl
    have : ∀ p ∈ l, (p.1, σ p.1) = p := by
      unfold at_ at h
      clear hm hl
      induction l with
      | nil => simp
      | cons q l ih =>
        simp only [List.map_cons, List.cons.injEq] at h
        intro p hp
        rcases List.mem_cons.mp hp with rfl | hp
        · exact h.1
        · exact ih h.2 p hp
    have := this _ hm
    injection this with _ this
    exact this.symm
theorem r_reg {id n : Nat} {Q : Exit → St → Prop} {σ1 : St} {l : List (Nat × T)} (h : Chain P K ops 0 n σ σ1) (hn : n = ops.size) (hl : at_ σ1 l = l) (hq : Q .normal (St.of l)) : Run P K (.region id ops false) σ Q := by
  subst hn
  intro a w hs
  refine wp_mono (r_region (id := id) (Q := fun e s => e = .normal ∧ s = σ1) h ⟨rfl, rfl⟩ a w hs) ?_
  rintro e a' w' ⟨s, h1, rfl, rfl⟩
  exact ⟨St.of l, h1.weaken (of_weak hl), hq⟩
theorem r_condT {c : Operand} {x y : Code} {b : Bool} {Q : Exit → St → Prop} (hb : b = true) (hc : opT K.ET σ c = .u (.c (.v (.bool b)))) (h : Run P K x σ Q) : Run P K (.cond c x y) σ Q := by
  subst hb
  exact r_cond hc (by simpa using h)
theorem r_condF {c : Operand} {x y : Code} {b : Bool} {Q : Exit → St → Prop} (hb : b = false) (hc : opT K.ET σ c = .u (.c (.v (.bool b)))) (h : Run P K y σ Q) : Run P K (.cond c x y) σ Q := by
  subst hb
  exact r_cond hc (by simpa using h)
/-! ### Types, looked up -/
def buildB (P : Program) (t : TypeId) : Option (List (Nat × Nat)) := match P.underlying t with
  | some (.struct fields) => if fields.toList.all (fun f => (P.info? f.type).isSome) then some (fields.toList.map fun f => (f.offset, sizeB P f.type)) else none
  | _ => none
theorem run_mapM {α β : Type} {f : α → Sem β} {g : α → β} {w : World} : ∀ {l : List α}, (∀ x ∈ l, (f x).run P w = .ok (g x) w) → (l.mapM f).run P w = .ok (l.map g) w := by
  intro l
  induction l with
  | nil => intro _; rfl
  | cons x l ih =>
    intro h
    rw [List.mapM_cons, Sem.run_bind, h x (List.mem_cons_self ..), Result.andThen_ok, Sem.run_bind, ih (fun y hy => h y (List.mem_cons_of_mem _ hy)), Result.andThen_ok]
    rfl
theorem buildB_ok {t : TypeId} {pl : List (Nat × Nat)} (h : buildB P t = some pl) : BuildT P t pl := by
  unfold buildB at h
  split at h
  · rename_i fields hu
    split at h
    · rename_i hall
      injection h with h
      subst h
      refine ⟨fields, hu, fun w => ?_⟩
      rw [← Array.toArray_toList (xs := fields), List.mapM_toArray, List.toList_toArray]
      have := run_mapM (P := P) (w := w) (f := (fun f => do pure (f.offset, ← sizeOf f.type) : Field → Sem (Nat × Nat))) (g := fun f => (f.offset, sizeB P f.type)) (l := fields.toList) (fun x hx => by
        have h1 := List.all_eq_true.mp hall x hx
        obtain ⟨i, hi⟩ := Option.isSome_iff_exists.mp h1
        simp [sizeOf, typeInfo, hi, sizeB, Result.andThen])
      rw [Sem.run_map, this]; rfl
    · cases h
  · cases h
def zeroB (P : Program) (t : TypeId) : Option (List Value) := match P.info? t with
  | some i => match i.zero with
    | some z => some z.cells.toList
    | none => none
  | none => none
theorem zeroB_ok {t : TypeId} {vs : List Value} {cs : List C} (h : zeroB P t = some vs) (hr : ∀ ET w R, RepL ET w R vs cs []) : ZeroT P t cs := by
  unfold zeroB at h
  split at h
  · rename_i i hi
    split at h
    · rename_i z hz
      injection h with h
      subst h
      exact ⟨i, z, hi, hz, hr⟩
    · cases h
  · cases h
def slB (P : Program) (t sz bytes : Nat) : Bool := match P.underlying t with
  | some (.slice e) => match P.info? e with
    | some i => Nat.beq i.size sz && Nat.beq i.bytes bytes && Nat.blt 0 sz
    | none => false
  | _ => false
theorem slB_ok {t sz bytes : Nat} (h : slB P t sz bytes = true) : SliceT P t sz bytes := by
  unfold slB at h
  split at h
  · rename_i e hu
    split at h
    · rename_i i hi
      simp only [Bool.and_eq_true] at h
      exact ⟨e, i, hu, hi, Nat.eq_of_beq_eq_true h.1.1, Nat.eq_of_beq_eq_true h.1.2, Nat.lt_of_succ_le (by simpa [Nat.blt] using h.2)⟩
    · cases h
  · cases h
end
end Go.Proofs.Ytfbjhioefkimbaa.V
namespace Go.Proofs.Ytfbjhioefkimbaa.V
open Go Go.RowKit
set_option linter.unusedVariables false
set_option linter.unusedSimpArgs false

section
variable {P : Program} {ET : TypeId} {w w' : World} {R : Nat → Prop} {K : Ctx} {σ σ' : St} {a : Act} {Fs : Nat → List Nat} {o : Oper} {d : Nat} {ops : Array Oper}

theorem rounds_ind {c : Code} {Q : Exit → St → Prop} {α : Type} (L : α → List (Nat × T)) (g : Nat → α → Prop) (hstep : ∀ n x, g (n + 1) x → Run P K c (St.of (L x)) (thenQ (fun σ' => ∃ y, g n y ∧ ∀ i, St.of (L y) i = σ' i ∨ St.of (L y) i = .junk) Q)) (h0 : ∀ x, ¬ g 0 x) : ∀ n x, g n x → Rounds P K c n (St.of (L x)) Q := by
  intro n
  induction n with
  | zero => intro x h; exact absurd h (h0 x)
  | succ n ih =>
    intro x h
    refine fun a w hs => wp_mono (hstep n x h a w hs) ?_
    rintro e a' w' ⟨s, h1, h2⟩
    cases e <;> first
      | exact ⟨s, h1, h2⟩
      | (obtain ⟨y, h3, h4⟩ := h2; exact rounds_weak h4 (ih y h3) _ _ h1)
theorem r_loopI {c : Code} {Q : Exit → St → Prop} {α : Type} (L : α → List (Nat × T)) (g : Nat → α → Prop) (n : Nat) (x : α) (hx : g n x) (h0 : ∀ x, ¬ g 0 x) (hstep : ∀ n x, g (n + 1) x → Run P K c (St.of (L x)) (thenQ (fun σ' => ∃ y, g n y ∧ ∀ i, St.of (L y) i = σ' i ∨ St.of (L y) i = .junk) Q)) : Run P K (.loop c) (St.of (L x)) Q :=
  r_loop n (rounds_ind L g hstep h0 n x hx)
theorem cond_t {α : Type} {b : Bool} {x y : Option α} {r : α} (hb : b = true) (h : (bif b then x else y) = some r) : x = some r := by subst hb; exact h
theorem cond_f {α : Type} {b : Bool} {x y : Option α} {r : α} (hb : b = false) (h : (bif b then x else y) = some r) : y = some r := by subst hb; exact h
theorem bind_some {α β : Type} {x : Option α} {f : α → Option β} {r : β} (h : x.bind f = some r) : ∃ y, x = some y ∧ f y = some r := by
  cases x with
  | none => cases h
  | some y => exact ⟨y, rfl, h⟩
theorem guard_some {α : Type} {b : Bool} {x : Option α} {r : α} (h : (bif b then x else none) = some r) : b = true ∧ x = some r := by
  cases b with
  | false => cases h
  | true => exact ⟨rfl, h⟩

/-! ### Contracts of plain values -/
def valU : U → Option Value
  | .c (.v x) => some x
  | .agg cs => (valCs cs).map fun xs => .agg xs.toArray
  | _ => none
def valUs : List U → Option (List Value)
  | [] => some []
  | u :: us => match valU u, valUs us with
    | some x, some xs => some (x :: xs)
    | _, _ => none
theorem RepL.vals {xs : List Value} {cs : List C} {F : List Nat} (h : RepL ET w R xs cs F) {ys : List Value} (hy : valCs cs = some ys) : xs = ys ∧ F = [] := by
  induction cs generalizing xs ys F with
  | nil => cases h; simp only [valCs, Option.some.injEq] at hy; exact ⟨hy, rfl⟩
  | cons c cs ih =>
    cases h with
    | @cons x0 _ zs _ F0 G h t =>
      simp only [valCs] at hy
      split at hy
      · rename_i y ys' h1 h2
        injection hy with hy
        subst hy
        obtain ⟨e1, e2⟩ := ih t h2
        cases c <;> simp only [valC] at h1 <;> try cases h1
        cases h with
        | v h => exact ⟨by rw [e1], by rw [e2]; rfl⟩
      · cases hy
theorem RepUs.vals {xs : List Value} {us : List U} {F : List Nat} (h : RepUs ET w R xs us F) {ys : List Value} (hy : valUs us = some ys) : xs = ys ∧ F = [] := by
  induction us generalizing xs ys F with
  | nil => cases h; simp only [valUs, Option.some.injEq] at hy; exact ⟨hy, rfl⟩
  | cons u us ih =>
    cases h with
    | @cons x0 _ zs _ F0 G h t =>
      simp only [valUs] at hy
      split at hy
      · rename_i y ys' h1 h2
        injection hy with hy
        subst hy
        obtain ⟨e1, e2⟩ := ih t h2
        cases h with
        | c h => cases h <;> simp only [valU] at h1 <;> try cases h1
                 exact ⟨by rw [e1], by rw [e2]; rfl⟩
        | @agg arr cs _ h =>
          simp only [valU] at h1
          cases hv : valCs cs with
          | none => rw [hv] at h1; cases h1
          | some xs' =>
            rw [hv] at h1
            simp only [Option.map_some, Option.some.injEq] at h1
            obtain ⟨e3, e4⟩ := h.vals hv
            subst h1
            refine ⟨?_, by rw [e2, e4]; rfl⟩
            rw [e1, ← e3]
        | fn h => simp only [valU] at h1; cases h1
      · cases hy
theorem skipO {vs : List Value} {ins : List U} (h : vs.length = ins.length) : RepO ET w R vs (ins.map fun _ => none) [] := by
  induction ins generalizing vs with
  | nil => cases vs with
    | nil => exact .nil
    | cons _ _ => simp at h
  | cons u ins ih => cases vs with
    | nil => simp at h
    | cons v vs => exact .skip (ih (by simpa using h))
theorem ac_of {f : FuncId} {ins : List U} {vals : List Value} {res : List U} {rv : Value} (hi : valUs ins = some vals) (hr : ∀ w R, RepR ET w R rv res [])
    (h : ∀ w, Calls P f vals.toArray w fun e w' => e = .returned rv ∧ Below w.heap.size w w') : AC P ET f ins (ins.map fun _ => none) res := by
  intro R w vs F hrep hnd hR hRlt
  have hlen := hrep.len
  obtain ⟨rfl, rfl⟩ := hrep.vals hi
  refine (h w).mono ?_
  rintro e w' ⟨rfl, hb⟩
  exact ⟨rv, [], [], rfl, skipO hlen, hr w' R, List.nodup_nil, by simp, Keeps.of_below hb []⟩
/-! ### Rows of one kind -/
theorem getP_map {α : Type} {f : α → List C} {own : Bool} {sz k : Nat} {xs : List α} (dflt : α) (h : k < xs.length) : getP (.sl own sz (xs.map f)) (.i k sz) [] = some (f (xs.getD k dflt)) := by
  simp only [getP, selC, if_true, List.getElem?_map, List.getElem?_eq_getElem h, Option.map_some, List.getD_eq_getElem?_getD, Option.getD_some]
end
end Go.Proofs.Ytfbjhioefkimbaa.V
namespace Go.Proofs.Ytfbjhioefkimbaa.V
open Go Go.RowKit
set_option linter.unusedVariables false
set_option linter.unusedSimpArgs false

section
variable {P : Program} {ET : TypeId} {w w' : World} {R : Nat → Prop} {K : Ctx} {σ σ' : St} {a : Act} {Fs : Nat → List Nat} {o : Oper} {d : Nat} {ops : Array Oper}

theorem os_gy {i j t : Nat} {b : Bool} (h : ops[i]? = some o) (hg : o.guard = some (j, b)) (hj : (ops[j]?).bind (·.dst) = some t) (ht : σ t = .u (.c (.v (.bool b)))) (hs : Step P K σ o σ') : OStep P K ops i σ σ' := os_yes h hg hj ht hs
/-- What an operation that isn't run leaves. -/
abbrev undefT : T := .tup []
theorem yielded_no {a : Act} {w : World} {j t : Nat} {b : Bool} {F : List Nat} {x : T} (hj : (ops[j]?).bind (·.dst) = some t) (h3 : RepT K.ET w K.R a.tmps (a.tmps.getD t undef) x F) (hx : (∃ v, x = .u (.c (.v v)) ∧ v ≠ .bool b) ∨ ∃ us, x = .tup us) : yielded ops a.tmps j ≠ some b := by
  unfold yielded
  rw [hj]
  simp only [Option.bind_some]
  cases h5 : a.tmps[t]? with
  | none => simp
  | some v =>
    rw [Array.getD_eq_getD_getElem?, h5] at h3
    simp only [Option.getD_some] at h3
    intro h6
    split at h6
    · rename_i c hc
      injection hc with hc
      injection h6 with h6
      subst h6
      subst hc
      rcases hx with ⟨v, rfl, hv⟩ | ⟨us, rfl⟩
      · exact hv h3.v_eq.1.symm
      · cases h3
    · cases h6
theorem os_no2 {i j t : Nat} {b : Bool} (h : ops[i]? = some o) (hg : o.guard = some (j, b)) (hj : (ops[j]?).bind (·.dst) = some t) (ht : (∃ v, σ t = .u (.c (.v v)) ∧ v ≠ .bool b) ∨ ∃ us, σ t = .tup us) (hd : o.dst = some d) (hn : okT K d = true) : OStep P K ops i σ (put σ d undefT) := by
  intro a w h1
  unfold wpOp
  rw [h]
  simp only
  obtain ⟨Fs, hs⟩ := h1
  have h2 := yielded_no hj (hs.rep t) ht
  rw [if_neg (by simpa [Region.wanted, hg] using h2)]
  rw [hd]
  exact ⟨_, hs.put hn (Keeps.refl w _) (by simp) List.nodup_nil (.tup (arr := #[]) .nil)⟩
/-- A guarded operation, looked up as if it weren't guarded. -/
def opG (P : Program) (K : Ctx) (ops : Array Oper) (i : Nat) (σ : St) (d : Nat) : Option T :=
  match ops[i]? with
  | some o => match o.guard with
    | some (j, b) => match (ops[j]?).bind (·.dst) with
      | some t => match σ t with
        | .u (.c (.v (.bool c))) => (match o.dst with
          | some d' => if Nat.beq d' d && okT K d then (match b, c with
            | true, true | false, false => match pureT K.ET σ o.op with
              | some t => if refs t d then none else some t
              | none => match q_load P K σ o d with
                | some t => some t
                | none => match q_field P σ o d with
                  | some t => some t
                  | none => q_eq P K σ o
            | _, _ => some undefT)
            else none
          | none => none)
        | .tup _ => (match o.dst with
          | some d' => if Nat.beq d' d && okT K d then some undefT else none
          | none => none)
        | _ => none
      | none => none
    | none => opQ P K ops i σ d
  | none => none
theorem os_g {i : Nat} {t : T} (h : opG P K ops i σ d = some t) : OStep P K ops i σ (put σ d t) := by
  unfold opG at h
  split at h
  · rename_i o ho
    split at h
    · rename_i j b hg
      split at h
      · rename_i tt hj
        split at h
        · rename_i c ht
          split at h
          · rename_i d' hd
            split at h
            · rename_i hb
              simp only [Bool.and_eq_true] at hb
              obtain ⟨hb1, hb2⟩ := hb
              have : d' = d := Nat.eq_of_beq_eq_true hb1
              subst this
              have key : ∀ t : T, (match pureT K.ET σ o.op with
                  | some t => if refs t d' = true then none else some t
                  | none => match q_load P K σ o d' with
                    | some t => some t
                    | none => match q_field P σ o d' with
                      | some t => some t
                      | none => q_eq P K σ o) = some t → Step P K σ o (put σ d' t) := by
                intro t h
                split at h
                · rename_i t' hp
                  split at h
                  · cases h
                  · rename_i hr
                    cases h
                    exact s_p hp hd hb2 (by simpa using hr)
                · split at h
                  · rename_i t' hp
                    cases h
                    exact q_load_ok hp hd hb2
                  · split at h
                    · rename_i t' hp
                      cases h
                      exact q_field_ok hp hd hb2
                    · exact q_eq_ok h hd hb2
              split at h
              · exact os_yes ho hg hj ht (key _ h)
              · exact os_yes ho hg hj ht (key _ h)
              · rename_i h1 h2
                injection h with h
                subst h
                refine os_no2 ho hg hj (.inl ⟨_, ht, fun e => ?_⟩) hd hb2
                injection e with e
                subst e
                cases c <;> first | exact (h1 rfl rfl).elim | exact (h2 rfl rfl).elim
            · cases h
          · cases h
        · rename_i u ht
          split at h
          · rename_i d' hd
            split at h
            · rename_i hb
              simp only [Bool.and_eq_true] at hb
              obtain ⟨hb1, hb2⟩ := hb
              have : d' = d := Nat.eq_of_beq_eq_true hb1
              subst this
              injection h with h
              subst h
              exact os_no2 ho hg hj (.inr ⟨_, ht⟩) hd hb2
            · cases h
          · cases h
        · cases h
      · cases h
    · exact os_q h
  · cases h
theorem os_to {j : Nat} {t t' : T} (h : OStep P K ops j σ (put σ d t)) (e : t = t') : OStep P K ops j σ (put σ d t') := by subst e; exact h
theorem os_ge {j : Nat} {t t' : T} (h : opG P K ops j σ d = some t) (e : t = t') : OStep P K ops j σ (put σ d t') := by subst e; exact os_g h
def okG (P : Program) (K : Ctx) (ops : Array Oper) : Nat → List Nat → St → Bool
  | _, [], _ => true
  | j, d :: ds, σ => match opG P K ops j σ d with
    | some t => okG P K ops (j + 1) ds (put σ d t)
    | none => false
def stG (P : Program) (K : Ctx) (ops : Array Oper) : Nat → List Nat → St → St
  | _, [], σ => σ
  | j, d :: ds, σ => stG P K ops (j + 1) ds (put σ d ((opG P K ops j σ d).getD .junk))
theorem c_g {ds : List Nat} : ∀ {j : Nat} {σ : St}, okG P K ops j ds σ = true → Chain P K ops j ds.length σ (stG P K ops j ds σ) := by
  induction ds with
  | nil => intro j σ _; exact .nil
  | cons d ds ih =>
    intro j σ h
    simp only [okG] at h
    split at h
    · rename_i t ht
      simp only [stG, ht, Option.getD_some]
      exact .cons (os_g ht) (ih h)
    · cases h
theorem calleeF {f : FuncId} : CalleeT K σ (.value (.func f)) f [] :=  .func
theorem c_call {args : Array Operand} {tys : Array TypeId} {f : FuncId} {ins : List U} {hs : List (Option Hole)} {outs : List (Option U)} {res : List U} (hac : ACK K P f ins outs res) (hf : FnT P f) (ho : o.op = .call { callee := .value (.func f), args := args, argTypes := tys })
    (hA : Args (ArgC K σ') σ args.toList ins hs σ') (hok : okOuts hs outs = true) (hd : okD K o.dst = true) : Step P K σ o (putR (back hs outs (fun j => killD (σ' j))) o.dst (resT res)) :=
  s_callC (caps := []) ho hf calleeF hA (by simpa using hac) hok hd
theorem c_callQ {args : Array Operand} {tys : Array TypeId} {f : FuncId} {ins : List U} {outs : List (Option U)} {res : List U} (hac : ACK K P f ins outs res) (hf : FnT P f) (ho : o.op = .call { callee := .value (.func f), args := args, argTypes := tys })
    (hA : Rds (ArgC K σ) args.toList ins) (hd : okD K o.dst = true) : Step P K σ o (putR σ o.dst (resT res)) :=
  s_callQ (caps := []) ho hf calleeF hA (by simpa using hac) hd
def OutsAt (σ : St) (pins : List Nat) : Nat → List (Option U) → Prop
  | _, [] => True
  | i, none :: l => OutsAt σ pins (i + 1) l
  | i, some u :: l => (σ i = .u u ∧ pins.contains i = true) ∧ OutsAt σ pins (i + 1) l
theorem outs_at {pins : List Nat} {l : List (Option U)} : ∀ {k : Nat}, OutsAt σ pins k l → ∀ (i : Nat) (u : U), l[i]? = some (some u) → σ (k + i) = .u u ∧ pins.contains (k + i) = true := by
  induction l with
  | nil => intro k _ i u h; simp at h
  | cons x l ih =>
    intro k h i u hi
    cases i with
    | zero =>
      simp only [List.getElem?_cons_zero, Option.some.injEq] at hi
      subst hi
      exact h.1
    | succ i =>
      have h2 : OutsAt σ pins (k + 1) l := by
        cases x with
        | none => exact h
        | some u => exact h.2
      have := ih h2 i u (by simpa using hi)
      rw [show k + (i + 1) = k + 1 + i by omega]
      exact this
theorem outs_of {pins : List Nat} {l : List (Option U)} (h : OutsAt σ pins 0 l) : ∀ (i : Nat) (u : U), l[i]? = some (some u) → σ i = .u u ∧ pins.contains i = true := by
  intro i u hi
  have := outs_at h i u hi
  rwa [Nat.zero_add] at this
theorem pins_lt {pins : List Nat} {n : Nat} (h : pins.all (fun i => Nat.blt i n) = true) : ∀ i, pins.contains i = true → i < n := by
  intro i hi
  have := List.all_eq_true.mp h i (by simpa using hi)
  exact Nat.lt_of_succ_le (by simpa [Nat.blt] using this)
theorem hand_root {AR : Operand → U → Prop} {i r : Nat} {own : Bool} {c : C} {cs : List C} {xs : List Operand} {us : List U} {hs : List (Option Hole)} (h : aliasT i (σ i) = .addr r .d [] 0) (hr : σ r = .u (.c c)) (hc : c = .pt own cs) (t : Args AR (upd σ r .junk) xs us hs σ') : Args AR σ (.tmp i :: xs) (.c c :: us) (some (r, none, c) :: hs) σ' := by
  subst hc
  exact .hand (.ptr h hr) hr rfl rfl t
theorem cg_then {j m : Nat} {ds : List Nat} {σ2 : St} (k : Nat) (hk : j + ds.length = k) (h : okG P K ops j ds σ = true) (t : Chain P K ops k m (stG P K ops j ds σ) σ2) : Chain P K ops j (ds.length + m) σ σ2 := by
  subst hk
  exact (c_g h).app t
theorem co_then {j m : Nat} {σ1 σ2 : St} (k : Nat) (hk : j + 1 = k) (h : OStep P K ops j σ σ1) (t : Chain P K ops k m σ1 σ2) : Chain P K ops j (m + 1) σ σ2 := by
  subst hk
  exact .cons h t
end
end Go.Proofs.Ytfbjhioefkimbaa.V
namespace Go.Proofs.Ytfbjhioefkimbaa.V
open Go Go.RowKit
set_option linter.unusedVariables false
set_option linter.unusedSimpArgs false

section
variable {P : Program} {ET : TypeId} {w w' : World} {R : Nat → Prop} {K : Ctx} {σ σ' : St} {a : Act} {Fs : Nat → List Nat} {o : Oper} {d : Nat} {ops : Array Oper}

theorem s_moveT {i : Nat} {us : List U} (ho : o.op = .move (.tmp i) ∨ o.op = .assign (.tmp i)) (hi : σ i = .tup us) (hd : o.dst = some d) (hn : okT K d = true) : Step P K σ o (put (upd σ i .junk) d (.tup us)) := by
  rintro a w ⟨Fs, hs⟩
  have h1 := hs.rep i
  rw [hi] at h1
  have hrun : (execOp a.eval o).run P w = .ok (.value (a.eval (.tmp i))) w := by
    rcases ho with ho | ho <;> simp [execOp, ho, pure]
  simp only [Oper.wp, hrun, Oper.upon_value, hd]
  have h2 := hs.out i
  refine ⟨_, h2.put2 hn (Keeps.refl _ _) (F := Fs i) (fun b hb => ⟨fun j hj => ?_, hs.own i b hb⟩) (hs.nd i) ?_⟩
  · unfold updF at hj
    split at hj
    · cases hj
    · rename_i hne
      exact hne (hs.dis j i b hj hb)
  · rw [getD_eval]
    generalize a.tmps.getD i undef = v at h1 ⊢
    generalize Fs i = F at h1 ⊢
    cases h1 with
    | tup h => exact .tup h
theorem RepUs.get {xs : List Value} {us : List U} {F : List Nat} (h : RepUs ET w R xs us F) {j : Nat} {u : U} (hj : us[j]? = some u) : ∃ x F1, xs[j]? = some x ∧ RepU ET w R x u F1 := by
  obtain ⟨x, F1, _, h1, h2, _⟩ := h.pick hj
  exact ⟨x, F1, h1, h2⟩
/-! ### In any order -/
theorem e_g {t : T} {s : Spec} {j : Nat} (hc : Clear s σ) (hf : s.fresh = some d) (ha : s.asg = [(d, t)]) (h : opG P K ops j σ d = some t) : OStep P K ops j σ (over σ s.asg) := e_put hc hf ha (os_g h)
theorem over_lookup {A : List (Nat × T)} {i : Nat} : over σ A i = (A.lookup i).getD (σ i) := rfl
theorem junkL_lookup {l : List Nat} {i : Nat} : (l.map fun j => (j, T.junk)).lookup i = if l.contains i then some .junk else none := by
  induction l with
  | nil => rfl
  | cons j l ih =>
    simp only [List.map_cons, List.lookup_cons, ih]
    by_cases h : i = j
    · subst h; simp
    · have h1 : (i == j) = false := by simpa using h
      rw [h1]
      simp [h, Ne.symm h]
theorem put_junks_over {l : List Nat} {t : T} {s : Spec} (hc : Clear s σ) (hf : s.fresh = some d) (ha : s.asg = (d, t) :: l.map fun j => (j, .junk) := by rfl) : put (junks σ l) d t = over σ ((d, t) :: l.map fun j => (j, .junk)) := by
  funext i
  rw [over_lookup, List.lookup_cons]
  unfold put junks
  by_cases hi : i = d
  · subst hi; simp
  · have h1 : (i == d) = false := by simpa using hi
    rw [h1, if_neg hi, junkL_lookup]
    simp only
    by_cases h3 : l.contains i = true
    · simp only [h3, if_true, Option.getD_some]; rfl
    · have h4 : l.contains i = false := by simpa using h3
      have h2 := hc.ref hf hi (by rw [ha, List.lookup_cons, h1]; simp only; rw [junkL_lookup, h4]; simp)
      simp only [h4, Bool.false_eq_true, if_false, Option.getD_none]
      unfold killR
      rw [h2]
      simp
/-- The same, where what leads to what is put is told to be lost. -/
theorem upd_junks_over {l : List Nat} {r : Nat} {t : T} : upd (junks σ l) r t = over σ ((r, t) :: l.map fun j => (j, .junk)) := by
  funext i
  rw [over_lookup, List.lookup_cons]
  unfold upd junks
  by_cases hi : i = r
  · subst hi; simp
  · have h1 : (i == r) = false := by simpa using hi
    rw [h1, if_neg hi, junkL_lookup]
    simp only
    by_cases h3 : l.contains i = true
    · simp only [h3, if_true, Option.getD_some]
    · have h4 : l.contains i = false := by simpa using h3
      simp only [h4, Bool.false_eq_true, if_false, Option.getD_none]
theorem kill_junks_over {l : List Nat} {r : Nat} {t : T} {s : Spec} (hc : Clear s σ) (hd : s.deep = true) (ha : s.asg = (r, t) :: l.map fun j => (j, .junk)) : upd (fun j => killD (junks σ l j)) r t = over σ s.asg := by
  rw [ha, ← upd_junks_over]
  funext i
  unfold upd
  split
  · rfl
  · rename_i hi
    unfold junks
    simp only
    by_cases hl : l.contains i = true
    · simp only [hl, if_true]; rfl
    · have hl : l.contains i = false := by simpa using hl
      simp only [hl, Bool.false_eq_true, if_false]
      have h1 := hc.2 hd i
      cases h : isDeep (σ i) with
      | false =>
        revert h
        generalize σ i = x
        intro h
        cases x with
        | addr r s p off => cases p with
          | nil => rfl
          | cons _ _ => cases h
        | view r pl sz lo n => cases pl with
          | none => rfl
          | some _ => cases h
        | whole r pl sz n => cases pl with
          | none => rfl
          | some _ => cases h
        | _ => rfl
      | true =>
        have h2 := h1 h
        rw [ha] at h2
        unfold has at h2
        rw [List.lookup_cons, show (i == r) = false by simpa using hi, junkL_lookup] at h2
        simp only [hl] at h2
        cases h2
theorem put_upd_over {i : Nat} {t y : T} {s : Spec} (hc : Clear s σ) (hf : s.fresh = some d) (hy : refs y d = false) (ha : s.asg = [(d, t), (i, y)] := by rfl) : put (upd σ i y) d t = over σ [(d, t), (i, y)] := by
  funext j
  rw [over_lookup, List.lookup_cons]
  unfold put upd
  by_cases hj : j = d
  · subst hj; simp
  · have h1 : (j == d) = false := by simpa using hj
    rw [h1, if_neg hj]
    unfold killR
    by_cases h3 : j = i
    · subst h3; simp [List.lookup, hy]
    · have h4 : (j == i) = false := by simpa using h3
      have h2 := hc.ref hf hj (by rw [ha]; simp [List.lookup_cons, h1, h4])
      simp [List.lookup, h3, h4, h2]
theorem e_eq {s : Spec} {j : Nat} (h : OStep P K ops j σ σ') (he : σ' = over σ s.asg) : OStep P K ops j σ (over σ s.asg) := he ▸ h
theorem r_anyW {id : Nat} {Q : Exit → St → Prop} {tab : List (List Nat)} {l0 l : List (Nat × T)} (S : List Spec) (hm : P.follows .mixedOrders = true) (hT : Region.tabAfter .any ops = tab) (hc : chk tab S = true) (h0 : chk0 l0 S = true)
    (hst : Each (fun j s => ∀ σ, Clear s (over σ (needs S (St.of l0) s)) → OStep P K ops j (over σ (needs S (St.of l0) s)) (over (over σ (needs S (St.of l0) s)) s.asg)) 0 S) (hl : at_ (allD S (St.of l0)) l = l) (hq : Q .normal (St.of l)) : Run P K (.region id ops true) (St.of l0) Q := by
  refine r_any S hm hT hc (fun s hs => ?_) hst (of_weak hl) hq
  have h1 := List.all_eq_true.mp h0 s hs
  simp only [Bool.and_eq_true] at h1
  have key : ∀ t, (∃ p ∈ l0, p.1 = t ∧ p.2 = St.of l0 t) ∨ St.of l0 t = .junk := by
    intro t
    unfold St.of
    cases hl : l0.lookup t with
    | none => exact .inr rfl
    | some y => exact .inl ⟨_, lookup_mem hl, rfl, rfl⟩
  refine ⟨fun d hd t ht hrf => ?_, fun hdp t ht => ?_⟩
  · rcases key t with ⟨p, hp, rfl, e⟩ | e
    · have h2 := h1.1
      rw [hd] at h2
      have h3 := List.all_eq_true.mp h2 p hp
      simp only [Bool.or_eq_true, beq_iff_eq, Bool.not_eq_true'] at h3
      rcases h3 with (h3 | h3) | h3
      · exact absurd h3 ht
      · rw [← e, h3] at hrf; cases hrf
      · exact jk_ok h3
    · rw [e] at hrf; cases hrf
  · rcases key t with ⟨p, hp, rfl, e⟩ | e
    · have h2 := h1.2
      rw [hdp] at h2
      simp only [Bool.not_true, Bool.false_or] at h2
      have h3 := List.all_eq_true.mp h2 p hp
      simp only [Bool.or_eq_true, Bool.not_eq_true'] at h3
      rcases h3 with h3 | h3
      · rw [← e, h3] at ht; cases ht
      · exact h3
    · rw [e] at ht; cases ht
def slZB (P : Program) (t : TypeId) : Option (List Value) := match P.underlying t with
  | some (.slice e) => zeroB P e
  | _ => none
theorem slZ_ok {t sz bytes : Nat} {vs : List Value} {zs : List C} (h : slB P t sz bytes = true) (hv : slZB P t = some vs) (hl : vs.length = sz) (hr : ∀ ET w R, RepL ET w R vs zs []) : SliceZ P t sz bytes zs := by
  obtain ⟨e, i, h1, h2, h3, h4, h5⟩ := slB_ok h
  unfold slZB at hv
  rw [h1] at hv
  simp only [zeroB, h2] at hv
  split at hv
  · rename_i z hz
    injection hv with hv
    subst hv
    exact ⟨e, i, z, h1, h2, h3, h4, h5, hz, by simpa using hl, hr⟩
  · cases hv
end
end Go.Proofs.Ytfbjhioefkimbaa.V
namespace Go.Proofs.Ytfbjhioefkimbaa.V
open Go Go.RowKit
set_option linter.unusedVariables false
set_option linter.unusedSimpArgs false

section
variable {P : Program} {ET : TypeId} {w w' : World} {R : Nat → Prop} {K : Ctx} {σ σ' : St} {a : Act} {Fs : Nat → List Nat}

/-! ### Stores into rows of one kind -/
theorem s_storeR {α : Type} {f : α → List C} {t i r n k sz off : Nat} {s : Sel} {p : List (Nat × Sel)} {c c' : C} {cs us : List C} {x : Operand} {u : U} {o : Oper} (ho : o.op = .store t (.tmp i) x) (ht : (P.info? t).map (·.size) = some n) (hi : aliasT i (σ i) = .addr r s p off) (hx : opT K.ET σ x = .u u) (hc : copyU u = true) (hr : σ r = .u (.c c)) (hg : getP c s p = some cs)
    (hown : ownP c s p = true) (hu : cellsU u = us) (hn : us.length = n) (hle : off + n ≤ cs.length) (hlv : liveL us = true) (hsc : ((cs.drop off).take n).all scalarC = true) (hlu : liveU u = true) (hd : o.dst = none) (e : setP c s p (cs.take off ++ (us ++ cs.drop (off + n))) = c') : Step P K σ o (upd σ r (.u (.c c'))) := by
  subst e
  exact s_storeS ho ht hi hx hc hr hg hown hu hn hle hlv hsc hlu hd
theorem killD_self {x : T} (h : isDeep x = false) : killD x = x := by
  cases x with
  | addr r s p off => cases p with
    | nil => rfl
    | cons _ _ => cases h
  | view r pl sz lo n => cases pl with
    | none => rfl
    | some _ => cases h
  | whole r pl sz n => cases pl with
    | none => rfl
    | some _ => cases h
  | _ => rfl
theorem call_over {i d : Nat} {t : T} {s : Spec} (hc : Clear s σ) (hf : s.fresh = some d) (hd : s.deep = true) (ha : s.asg = [(d, t), (i, .junk)]) : put (fun j => killD (upd σ i .junk j)) d t = over σ s.asg := by
  rw [ha]
  funext j
  rw [over_lookup, List.lookup_cons]
  unfold put
  by_cases hj : j = d
  · subst hj; simp
  · have h1 : (j == d) = false := by simpa using hj
    rw [h1, if_neg hj]
    unfold upd
    by_cases h3 : j = i
    · subst h3
      simp only [if_true, List.lookup_cons, beq_self_eq_true, Option.getD_some]
      rfl
    · have h4 : (j == i) = false := by simpa using h3
      simp only [if_neg h3, List.lookup_cons, h4, List.lookup_nil, Option.getD_none]
      have h5 : isDeep (σ j) = false := by
        cases h : isDeep (σ j) with
        | false => rfl
        | true =>
          have h6 := hc.2 hd j h
          rw [ha] at h6
          simp [has, List.lookup_cons, h1, h4] at h6
      rw [killD_self h5]
      unfold killR
      rw [hc.ref hf hj (by rw [ha]; simp [List.lookup_cons, h1, h4])]
      simp
theorem getP_in {o : Bool} {cells cs : List C} {so : Nat} {c' : C} {sel : Sel} (h : cells[so]? = some c') (hg : getP c' sel [] = some cs) : getP (.pt o cells) .d [(so, sel)] = some cs := by
  simp only [getP, selC, Option.bind_some, h]
  exact hg
theorem mine_map {α : Type} {f : α → List C} {xs : List α} (h : ∀ x, (f x).all plainC = true) : ∀ r ∈ xs.map f, r.all plainC = true := by
  intro r hr
  obtain ⟨x, _, rfl⟩ := List.mem_map.mp hr
  exact h x
end
end Go.Proofs.Ytfbjhioefkimbaa.V
namespace Go.Proofs.Ytfbjhioefkimbaa.V
open Go Go.RowKit
set_option linter.unusedVariables false
set_option linter.unusedSimpArgs false

section
variable {P : Program} {ET : TypeId}
/-- Arguments without own memory; one bool is handed back. -/
theorem AC.callsB {f : FuncId} {ins : List U} {outs : List (Option U)} {b : Bool} {vals : List Value} (h : AC P ET f ins outs [.c (.v (.bool b))]) {w : World} {R : Nat → Prop} (hv : RepUs ET w R vals ins []) (hR : ∀ x, R x → x < w.heap.size) :
    Calls P f vals.toArray w fun e w' => e = .returned (.bool b) ∧ Below w.heap.size w w' := by
  refine (h R w vals [] hv List.nodup_nil (by simp) hR).mono ?_
  rintro e w' ⟨rv, H1, H2, rfl, _, hr, _, _, hk⟩
  refine ⟨?_, hk.below⟩
  cases hr with
  | one hr =>
    cases hr with
    | c hr => cases hr with
      | v _ => rfl
  | many hl _ => exact absurd rfl hl
theorem ACg.callsB {T : (Nat → Prop) → World → Prop} {f : FuncId} {ins : List U} {outs : List (Option U)} {b : Bool} {vals : List Value} (h : ACg T P ET f ins outs [.c (.v (.bool b))]) {w : World} {R : Nat → Prop} (hT : T R w) (hv : RepUs ET w R vals ins []) (hR : ∀ x, R x → x < w.heap.size) :
    Calls P f vals.toArray w fun e w' => e = .returned (.bool b) ∧ Below w.heap.size w w' := by
  refine (h R w vals [] hT hv List.nodup_nil (by simp) hR).mono ?_
  rintro e w' ⟨rv, H1, H2, rfl, _, hr, _, _, hk⟩
  refine ⟨?_, hk.below⟩
  cases hr with
  | one hr =>
    cases hr with
    | c hr => cases hr with
      | v _ => rfl
  | many hl _ => exact absurd rfl hl
end
end Go.Proofs.Ytfbjhioefkimbaa.V
namespace Go.Proofs.Ytfbjhioefkimbaa.V
open Go
set_option linter.unusedVariables false
set_option linter.unusedSimpArgs false
theorem rowAt_off {P : Program} {fits : TypeId → Bool} {d : Nat} {e : TypeId} {count off n : Nat} (h : rowAt P fits d e count off n = true) : off ≤ count * P.cellsOf e := by
  cases d with
  | zero => simp [rowAt] at h
  | succ d =>
    rw [rowAt] at h
    by_cases hs : P.cellsOf e = 0
    · simp [hs] at h
    · simp only [hs, if_false, Bool.or_eq_true, Bool.and_eq_true, beq_iff_eq, decide_eq_true_eq] at h
      have hd := Nat.div_add_mod off (P.cellsOf e)
      rw [Nat.mul_comm] at hd
      rcases h with ⟨⟨hr, hi⟩, _⟩ | ⟨hi, _⟩
      · have := Nat.mul_le_mul_right (P.cellsOf e) (show off / P.cellsOf e ≤ count by omega)
        omega
      · have h1 := Nat.mul_le_mul_right (P.cellsOf e) (show off / P.cellsOf e + 1 ≤ count by omega)
        rw [Nat.add_mul, Nat.one_mul] at h1
        have := Nat.mod_lt off (show 0 < P.cellsOf e by omega)
        omega
theorem liesAt_off {P : Program} : ∀ (d : Nat) {e u : TypeId} {count off n : Nat}, liesAt P d e count off u n = true → off ≤ count * P.cellsOf e := by
  intro d
  induction d with
  | zero => intro e u count off n h; simp [liesAt] at h
  | succ d ih =>
    intro e u count off n h
    rw [liesAt] at h
    simp only [Bool.or_eq_true] at h
    rcases h with h | h
    · exact rowAt_off h
    · split at h
      · exact ih h
      · cases h
/-- A flat type: what its cells read as. -/
def FitV {α : Type} (P : Program) (t : TypeId) (sz : Nat) (vals : α → List Value) (wf : α → Prop) : Prop :=
  (∀ a, (vals a).length = sz ∧ ∀ v ∈ vals a, plainV v = true) ∧
  ∀ (H : Type) (enc : TypeId × Value → H) (w : World) (sp : Nat → Bool) (held : Bool) (n : Nat) (cs : List Value) (x : DataW H × List MemPlace), DataW.trod enc P w 0 sp held n t cs = some x → ∃ a, cs = vals a ∧ wf a
theorem FitV.int {P : Program} {t : TypeId} {k : IntKind} (ht : P.underlying t = some (.int k)) : FitV P t 1 (fun a => [.int k a]) (fun a => (Lit.int k a).wf = true) :=
  ⟨fun a => ⟨rfl, by simp [plainV]⟩, fun H enc w sp held n cs x h => by
    obtain ⟨m, rfl, _, hw⟩ := DataW.trod_int ht h
    exact ⟨m, rfl, hw⟩⟩
theorem FitV.bool {P : Program} {t : TypeId} (ht : P.underlying t = some .bool) : FitV P t 1 (fun a => [.bool a]) (fun _ => True) :=
  ⟨fun a => ⟨rfl, by simp [plainV]⟩, fun H enc w sp held n cs x h => by
    obtain ⟨m, rfl, _⟩ := DataW.trod_bool ht h
    exact ⟨m, rfl, trivial⟩⟩
/-- The fields of a struct, from an offset on. -/
def FitFV {α : Type} (P : Program) (fs : List Field) (off sz : Nat) (vals : α → List Value) (wf : α → Prop) : Prop :=
  (∀ a, (vals a).length = sz ∧ ∀ v ∈ vals a, plainV v = true) ∧
  ∀ (H : Type) (enc : TypeId × Value → H) (w : World) (sp : Nat → Bool) (held : Bool) (n : Nat) (cs : List Value), cs.length = off + sz → (∀ (i : Nat) (f : Field), fs[i]? = some f → ∃ y, DataW.trod enc P w 0 sp held n f.type ((cs.drop f.offset).take (P.cellsOf f.type)) = some y) → ∃ a, cs.drop off = vals a ∧ wf a
section
variable {P : Program} {α β : Type} {wf : α → Prop} {wf' : β → Prop}
theorem FitFV.last (f : Field) (off sz : Nat) {vals : α → List Value} (h : FitV P f.type sz vals wf) (ho : f.offset = off) (hc : P.cellsOf f.type = sz) : FitFV P [f] off sz vals wf :=
  ⟨h.1, fun H enc w sp held n cs hl hall => by
    obtain ⟨y, hy⟩ := hall 0 f rfl
    rw [ho, hc, List.take_of_length_le (by rw [List.length_drop]; omega)] at hy
    exact h.2 H enc w sp held n _ y hy⟩
theorem FitFV.cons (f : Field) (fs : List Field) (off sz sz' : Nat) {vals : α → List Value} {vals' : β → List Value} (h : FitV P f.type sz vals wf) (ho : f.offset = off) (hc : P.cellsOf f.type = sz) (hs : FitFV P fs (off + sz) sz' vals' wf') : FitFV P (f :: fs) off (sz + sz') (fun a : α × β => vals a.1 ++ vals' a.2) (fun a => wf a.1 ∧ wf' a.2) :=
  ⟨fun a => ⟨by rw [List.length_append, (h.1 a.1).1, (hs.1 a.2).1], fun v hv => (List.mem_append.mp hv).elim ((h.1 a.1).2 v) ((hs.1 a.2).2 v)⟩, fun H enc w sp held n cs hl hall => by
    obtain ⟨y, hy⟩ := hall 0 f rfl
    rw [ho, hc] at hy
    obtain ⟨a, ha, wa⟩ := h.2 H enc w sp held n _ y hy
    obtain ⟨b, hb, wb⟩ := hs.2 H enc w sp held n cs (by omega) (fun i g hg => hall (i + 1) g (by simpa using hg))
    refine ⟨(a, b), ?_, wa, wb⟩
    show cs.drop off = vals a ++ vals' b
    rw [← ha, ← hb, show cs.drop (off + sz) = (cs.drop off).drop sz by rw [List.drop_drop]]
    exact (List.take_append_drop sz (cs.drop off)).symm⟩
theorem FitV.struct {t : TypeId} {sz : Nat} {vals : α → List Value} {fs : Array Field} (ht : P.underlying t = some (.struct fs)) (h : FitFV P fs.toList 0 sz vals wf) (hc : P.cellsOf t = sz) : FitV P t sz vals wf :=
  ⟨h.1, fun H enc w sp held n cs x hx => by
    obtain ⟨xs, m, _, _, hl, hlen, hf⟩ := DataW.trod_struct ht hx
    have := h.2 H enc w sp held m cs (by omega) (fun i f hi => by
      have hi' : fs[i]? = some f := by simpa using hi
      have h1 := hf i f hi'
      have hlt : i < xs.length := by
        have := (Array.getElem?_eq_some_iff.1 hi').1
        omega
      rw [List.getElem?_eq_getElem hlt] at h1
      exact ⟨_, h1⟩)
    simpa using this⟩
theorem FitV.iso {t : TypeId} {sz : Nat} {vals : α → List Value} (h : FitV P t sz vals wf) (g : α → β) (f : β → α) (hfg : ∀ a, f (g a) = a) : FitV P t sz (fun b => vals (f b)) (fun b => wf (f b)) :=
  ⟨fun b => h.1 (f b), fun H enc w sp held n cs x hx => by
    obtain ⟨a, ha, wa⟩ := h.2 H enc w sp held n cs x hx
    exact ⟨g a, by show cs = vals (f (g a)); rw [hfg]; exact ha, by show wf (f (g a)); rw [hfg]; exact wa⟩⟩
end
theorem RepL.plains {ET : TypeId} {w : World} {R : Nat → Prop} : ∀ {vs : List Value}, (∀ v ∈ vs, plainV v = true) → RepL ET w R vs (vs.map C.v) []
  | [], _ => .nil
  | v :: vs, h => .cons (F := []) (G := []) (.v (h v (List.mem_cons_self ..))) (RepL.plains fun x hx => h x (List.mem_cons_of_mem _ hx))
/-- A slice that is handed in: a content that nobody writes. -/
theorem open_sl {P : Program} {ET : TypeId} {α : Type} {H : Type} {enc : TypeId × Value → H} {W : World} {base : Nat} {t e : TypeId} {sz : Nat} {v : Value} {x : DataW H × List MemPlace} {vals : α → List Value} {wf : α → Prop} {held : Bool}
    (ht : P.underlying t = some (.slice e)) (fit : FitV P e sz vals wf) (hc : P.cellsOf e = sz) (hsz : 0 < sz) (hv : Value.okWide P W .any base t v) {fuel : Nat} (h : DataW.trod enc P W 0 (fun _ => true) held fuel t [v] = some x) :
    ∃ l : List α, RepC ET W (fun b => b < W.heap.size) v (.sl false sz (l.map fun a => (vals a).map C.v)) [] ∧ l.length ≤ maxLen ∧ ∀ a ∈ l, wf a := by
  rcases Deep.open_slice ht h with ⟨h0, _⟩ | ⟨a, len, cap, m, n, D, Pl, h0, _, hl, hm, hmm, _, hel⟩
  · obtain rfl : v = .slice none 0 0 := by simpa using h0
    exact ⟨[], .nil false sz, by simp [maxLen], by simp⟩
  · obtain rfl : v = .slice (some a) len cap := by simpa using h0
    simp only [if_true] at hmm
    subst m
    rw [hc] at hel
    have hk : Cell.ok P W .any base t (.slice (some a) len cap) := by
      simp only [Value.okWide, ht, Cell.okWide] at hv
      exact hv
    simp only [Cell.ok, ht] at hk
    obtain ⟨_, _, _, hspot, row, cells, hshape, hlies⟩ := hk
    obtain ⟨b, off, spot⟩ := a
    obtain rfl : spot = none := hspot
    obtain ⟨arr, fz, hb, hcells⟩ : ∃ arr fz, W.heap[b]? = some (.cells arr row fz) ∧ arr.size = cells := by
      simp only [World.shape?] at hshape
      split at hshape
      · rename_i c el fz hb
        injection hshape with hshape
        injection hshape with e1 e2
        subst e1
        exact ⟨c, _, hb, e2⟩
      · cases hshape
    have hcell : ∀ o, W.cell? ⟨b, o, none⟩ = arr[o]? := by
      intro o
      simp only [World.cell?, hb]
      simp
    have hrow : ∀ i, i < cap → ∃ cs', (arr.toList.drop (off + i * sz)).take sz = cs' ∧ cs'.length = sz ∧ ∃ y, cs' = vals y ∧ wf y := by
      intro i hi
      obtain ⟨cs', h1, h2⟩ := hel i hi
      obtain ⟨_, hlen, hx⟩ := World.cells?_some h1
      obtain ⟨y, hy, wy⟩ := fit.2 H enc W _ _ n cs' _ h2
      refine ⟨cs', ?_, hlen, y, hy, wy⟩
      apply List.ext_getElem?
      intro j
      by_cases hj : j < sz
      · have h3 := hx j hj
        rw [show (⟨b, off, none⟩ : Addr).add (i * sz) = ⟨b, off + i * sz, none⟩ from Addr.add_mid b off _, show (⟨b, off + i * sz, none⟩ : Addr).add j = ⟨b, off + i * sz + j, none⟩ from Addr.add_mid b _ _, hcell] at h3
        rw [List.getElem?_take_of_lt hj, List.getElem?_drop, ← h3, Array.getElem?_toList]
      · rw [List.getElem?_take, if_neg hj, List.getElem?_eq_none (by omega)]
    have hfit : off + cap * sz ≤ arr.size := by
      by_cases h0 : cap = 0
      · subst h0
        have h1 := liesAt_off _ hlies
        have h2 := Nat.div_mul_le_self cells (P.cellsOf row)
        simp only at h1
        omega
      · obtain ⟨cs', h1, h2, _⟩ := hrow (cap - 1) (by omega)
        have h3 := congrArg List.length h1
        rw [h2, List.length_take, List.length_drop, Array.length_toList] at h3
        have h4 : (cap - 1) * sz + sz = cap * sz := by rw [← Nat.succ_mul]; congr 1; omega
        omega
    have hall : ∀ k, k ≤ cap → ∃ l : List α, l.length = k ∧ (arr.toList.drop off).take (k * sz) = (l.map vals).flatten ∧ ∀ a ∈ l, wf a := by
      intro k
      induction k with
      | zero => intro _; exact ⟨[], rfl, by simp, by simp⟩
      | succ k ih =>
        intro hk
        obtain ⟨l, h1, h2, h3⟩ := ih (by omega)
        obtain ⟨cs', h4, h5, y, h6, h7⟩ := hrow k (by omega)
        refine ⟨l ++ [y], by simp [h1], ?_, fun a ha => ?_⟩
        · rw [Nat.succ_mul, List.take_add, h2, List.drop_drop, h4, h6]
          simp
        · rcases List.mem_append.mp ha with ha | ha
          · exact h3 a ha
          · rw [List.mem_singleton.mp ha]; exact h7
    obtain ⟨l, h1, h2, h3⟩ := hall len hl
    refine ⟨l, ?_, by omega, h3⟩
    refine .sl (et := (row, fz)) hb (by simp [h1]) hl hsz hfit ?_ ?_ (.inr ⟨rfl, ?_, rfl, rfl⟩) (fun h => by cases h)
    · intro r hr
      obtain ⟨a, _, rfl⟩ := List.mem_map.mp hr
      simp [(fit.1 a).1]
    · rw [h2]
      have : (l.map fun a => (vals a).map C.v).flatten = ((l.map vals).flatten).map C.v := by
        rw [List.map_flatten, List.map_map]
        rfl
      rw [this]
      exact RepL.plains fun v hv => by
        obtain ⟨r, hr, hv⟩ := List.mem_flatten.mp hv
        obtain ⟨a, _, rfl⟩ := List.mem_map.mp hr
        exact (fit.1 a).2 v hv
    · exact blk_lt hb
end Go.Proofs.Ytfbjhioefkimbaa.V
