/- Layer 19: what next, Pair, Pairs and the reference's Pairs compute. -/
import Derived.Test.YtlmjjkggoemabaaScanLib
namespace Go.Proofs.Ytlmjjkggoemabaa.ScanLib
open Go.RowKit Go.Proofs.YtlmjjkggoemabaaW.PrintWords Go.Proofs.YtlmjjkggoemabaaW.PrintLast Go.Proofs.YtlmjjkggoemabaaW.PrintMore Go.Proofs.Ytlmjjkggoemabaa.Bits Go.Proofs.Ytlmjjkggoemabaa.Pow Go.Proofs.Ytlmjjkggoemabaa.Q
set_option linter.unusedVariables false
set_option linter.unusedSimpArgs false

/-- the first that is true among the first so many; -1: none -/
def firstT (m : List Bool) : Nat → Int
  | 0 => -1
  | i + 1 => if firstT m i < 0 ∧ m.getD i false = true then (i : Int) else firstT m i
/-- the last that is true among the first so many; -1: none -/
def lastT (f : List Bool) : Nat → Int
  | 0 => -1
  | i + 1 => if f.getD i false = true then (i : Int) else lastT f i
theorem firstT_bd (m : List Bool) (i : Nat) : -1 ≤ firstT m i ∧ firstT m i < i := by
  induction i with
  | zero => simp [firstT]
  | succ i ih => rw [firstT]; split <;> omega
theorem lastT_bd (m : List Bool) (i : Nat) : -1 ≤ lastT m i ∧ lastT m i < i := by
  induction i with
  | zero => simp [lastT]
  | succ i ih => rw [lastT]; split <;> omega
theorem firstT_is (m : List Bool) (i : Nat) (h : 0 ≤ firstT m i) : m.getD (firstT m i).toNat false = true := by
  induction i with
  | zero => simp [firstT] at h
  | succ i ih =>
    rw [firstT] at h ⊢
    split
    · next c => simpa using c.2
    · next c => rw [if_neg c] at h; exact ih h
theorem firstT_none (m : List Bool) (i : Nat) (h : firstT m i < 0) : ∀ j, j < i → m.getD j false = false := by
  induction i with
  | zero => intro j hj; omega
  | succ i ih =>
    intro j hj
    rw [firstT] at h
    split at h
    · omega
    · next c =>
      by_cases e : j = i
      · subst e
        cases hm : m.getD j false with
        | false => rfl
        | true => exact absurd ⟨h, hm⟩ c
      · exact ih h j (by omega)
/-- once found, it stays -/
theorem firstT_stays (m : List Bool) (i d : Nat) (h : 0 ≤ firstT m i) : firstT m (i + d) = firstT m i := by
  induction d with
  | zero => rfl
  | succ d ih =>
    rw [show i + (d + 1) = (i + d) + 1 by omega, firstT, ih]
    rw [if_neg (by omega)]

theorem index_loop (m : List Bool) (hl : m.length ≤ 600) : ∀ (d i : Nat), i + d = m.length → firstT m i < 0 →
    Ev (fun k => slices_Index_bool_bool.l0 k m true (m.length : Int) (i : Int)) (firstT m m.length) := by
  intro d
  induction d with
  | zero =>
    intro i hi h
    have e : i = m.length := by omega
    have hb := firstT_bd m i
    refine Ev.step (f := fun _ => some (-1)) (fun k => ?_) (Ev.congr (fun k => ?_) (Ev.now _))
    · simp only [slices_Index_bool_bool.l0]
      rw [if_neg (by omega)]
    · rw [← e]; congr 1; omega
  | succ d ih =>
    intro i hi h
    by_cases hm : m.getD i false = true
    · have e : firstT m (i + 1) = (i : Int) := by rw [firstT, if_pos ⟨h, hm⟩]
      have e2 : firstT m m.length = (i : Int) := by
        rw [← e, show m.length = i + 1 + d by omega]
        exact firstT_stays m (i + 1) d (by omega)
      rw [e2]
      refine Ev.step (f := fun _ => some (i : Int)) (fun k => ?_) (Ev.now _)
      simp only [slices_Index_bool_bool.l0]
      rw [if_pos (by omega), if_pos (by omega), if_pos (by omega), if_pos (by unfold rdOf; rw [Int.toNat_natCast, hm]; rfl)]
    · have e : firstT m (i + 1) < 0 := by rw [firstT, if_neg (fun c => hm c.2)]; exact h
      refine Ev.step (fun k => ?_) (ih (i + 1) (by omega) e)
      simp only [slices_Index_bool_bool.l0]
      rw [if_pos (by omega), if_pos (by omega), if_pos (by omega), if_neg (by unfold rdOf; rw [Int.toNat_natCast]; simp only [Bool.not_eq_true] at hm; rw [hm]; decide), wrap64_of (by omega) (by omega)]
      rfl

theorem last_loop (f : List Bool) (hl : f.length ≤ 600) (x7 : Int) : ∀ (d : Nat), d ≤ f.length →
    Ev (fun k => scan_next.l0 k f x7 ((d : Int) - 1)) (x7, lastT f d, decide (x7 ≥ 0 ∧ x7 < lastT f d)) := by
  have fin : ∀ t : Int, Ev (fun k => scan_next.j1 k f x7 t false) (x7, t, decide (x7 ≥ 0 ∧ x7 < t)) := by
    intro t
    refine Ev.step (f := fun _ => some (x7, t, decide (x7 ≥ 0 ∧ x7 < t))) (fun k => ?_) (Ev.now _)
    simp only [scan_next.j1]
    rw [if_neg (by decide)]
    by_cases h : x7 ≥ 0
    · rw [if_pos h]; simp [h]
    · rw [if_neg h]; simp [h]
  intro d
  induction d with
  | zero =>
    intro hd
    refine Ev.step (fun k => ?_) (fin (-1))
    simp only [scan_next.l0]
    rw [if_neg (by omega)]
    rfl
  | succ d ih =>
    intro hd
    have hx : ((d + 1 : Nat) : Int) - 1 = (d : Int) := by omega
    rw [hx]
    have hj : ∀ k, scan_next.l0 (k + 1) f x7 (d : Int) = scan_next.j1 k f x7 (d : Int) (!(f.getD d false)) := by
      intro k
      simp only [scan_next.l0]
      rw [if_pos (by omega), if_pos (by omega), if_pos (by omega)]
      unfold rdOf
      rw [Int.toNat_natCast]
    by_cases hf : f.getD d false = true
    · refine Ev.step hj ?_
      rw [hf, lastT, if_pos hf]
      exact fin (d : Int)
    · simp only [Bool.not_eq_true] at hf
      refine Ev.step hj ?_
      rw [hf, lastT, if_neg (by rw [hf]; decide)]
      refine Ev.step (fun k => ?_) (ih (by omega))
      simp only [scan_next.j1]
      rw [if_pos (by rfl), wrap64_of (by omega) (by omega)]

def cond (f m : List Bool) : Prop := firstT m m.length ≥ 0 ∧ firstT m m.length < lastT f f.length
instance (f m : List Bool) : Decidable (cond f m) := by unfold cond; infer_instance
theorem next_ev (f m : List Bool) (hf : f.length ≤ 600) (hm : m.length ≤ 600) :
    Ev (fun k => scan_next.f k f m) (firstT m m.length, lastT f f.length, decide (cond f m)) := by
  have h1 : Ev (fun k => slices_Index_bool_bool.f k m true) (firstT m m.length) := index_loop m hm m.length 0 (by omega) (by simp [firstT])
  have h2 := last_loop f hf (firstT m m.length) f.length (Nat.le_refl _)
  refine Ev.bind (f := fun k t => scan_next.l0 k f t (wrap64 ((f.length : Int) - 1))) h1 ?_
  rw [wrap64_of (n := (f.length : Int) - 1) (by omega) (by omega)]
  exact h2

def setF (f m : List Bool) : List Bool := (f.set (firstT m m.length).toNat true).set (lastT f f.length).toNat false
def setM (f m : List Bool) : List Bool := (m.set (firstT m m.length).toNat false).set (lastT f f.length).toNat false
def pairsOf : Nat → List Bool → List Bool → List S35
  | 0, _, _ => []
  | c + 1, f, m => if cond f m then ⟨firstT m m.length, lastT f f.length⟩ :: pairsOf c (setF f m) (setM f m) else []
def cnt (m : List Bool) : Nat := m.count true

theorem count_set_le (m : List Bool) (i : Nat) : (m.set i false).count true ≤ m.count true := by
  induction m generalizing i with
  | nil => simp
  | cons b m ih =>
    cases i with
    | zero => simp [List.count_cons]
    | succ i => simp only [List.set_cons_succ, List.count_cons]; have := ih i; omega
theorem count_set_lt (m : List Bool) (i : Nat) (h : m.getD i false = true) : (m.set i false).count true < m.count true := by
  induction m generalizing i with
  | nil => simp at h
  | cons b m ih =>
    cases i with
    | zero => simp at h; subst h; simp [List.count_cons]
    | succ i =>
      simp only [List.set_cons_succ, List.count_cons]
      have := ih i (by simpa using h)
      omega
theorem cnt_setM (f m : List Bool) (h : cond f m) : cnt (setM f m) < cnt m := by
  unfold cnt setM
  have h1 := count_set_le (m.set (firstT m m.length).toNat false) (lastT f f.length).toNat
  have h2 := count_set_lt m (firstT m m.length).toNat (firstT_is m m.length h.1)
  omega
theorem cond_cnt (f m : List Bool) (h : cond f m) : 0 < cnt m := by
  have := cnt_setM f m h
  omega
theorem setF_len (f m : List Bool) : (setF f m).length = f.length := by simp [setF]
theorem setM_len (f m : List Bool) : (setM f m).length = m.length := by simp [setM]

theorem pairs_loop : ∀ (c : Nat) (f m : List Bool) (out : List S35), f.length = m.length → f.length ≤ 600 → cnt m ≤ c → out.length + c ≤ 2000 →
    Ev (fun k => scan_Pairs.l0 k f m out) (out ++ pairsOf c f m, none) := by
  intro c
  induction c with
  | zero =>
    intro f m out hl hf hc ho
    have hn : ¬ cond f m := fun h => by have := cond_cnt f m h; omega
    refine Ev.step (fun k => ?_) (Ev.bind (next_ev f m hf (by omega)) (f := fun k bt => if bt.2.2 = true then (if out.length < 8796093022208 then (if 0 ≤ bt.1 then (if bt.1 < (f.length : Int) then (if bt.1 < (m.length : Int) then (if 0 ≤ bt.2.1 then (if bt.2.1 < (f.length : Int) then (if bt.2.1 < (m.length : Int) then (scan_Pairs.l0 k ((f.set (bt.1 : Int).toNat true).set (bt.2.1 : Int).toNat false) ((m.set (bt.1 : Int).toNat false).set (bt.2.1 : Int).toNat false) (out ++ [(⟨bt.1, bt.2.1⟩ : S35)])) else (none)) else (none)) else (none)) else (none)) else (none)) else (none)) else (none)) else some (out, none)) (Ev.congr (fun k => ?_) (Ev.now _)))
    · simp only [scan_Pairs.l0]
    · simp [hn, pairsOf]
  | succ c ih =>
    intro f m out hl hf hc ho
    by_cases h : cond f m
    · have hlt := cnt_setM f m h
      have h1 := ih (setF f m) (setM f m) (out ++ [⟨firstT m m.length, lastT f f.length⟩]) (by rw [setF_len, setM_len, hl]) (by rw [setF_len]; exact hf) (by omega) (by simp; omega)
      rw [List.append_assoc, List.singleton_append] at h1
      rw [show pairsOf (c + 1) f m = ⟨firstT m m.length, lastT f f.length⟩ :: pairsOf c (setF f m) (setM f m) by rw [pairsOf, if_pos h]]
      refine Ev.step (fun k => ?_) (Ev.bind (next_ev f m hf (by omega)) (f := fun k bt => if bt.2.2 = true then (if out.length < 8796093022208 then (if 0 ≤ bt.1 then (if bt.1 < (f.length : Int) then (if bt.1 < (m.length : Int) then (if 0 ≤ bt.2.1 then (if bt.2.1 < (f.length : Int) then (if bt.2.1 < (m.length : Int) then (scan_Pairs.l0 k ((f.set (bt.1 : Int).toNat true).set (bt.2.1 : Int).toNat false) ((m.set (bt.1 : Int).toNat false).set (bt.2.1 : Int).toNat false) (out ++ [(⟨bt.1, bt.2.1⟩ : S35)])) else (none)) else (none)) else (none)) else (none)) else (none)) else (none)) else (none)) else some (out, none)) (Ev.congr (fun k => ?_) h1))
      · simp only [scan_Pairs.l0]
      · have ha := firstT_bd m m.length
        have hb := lastT_bd f f.length
        have h' := h
        obtain ⟨h3, h4⟩ := h'
        simp only
        rw [if_pos (decide_eq_true h), if_pos (by omega), if_pos (by omega), if_pos (by omega), if_pos (by omega), if_pos (by omega), if_pos (by omega), if_pos (by omega)]
        rfl
    · refine Ev.step (fun k => ?_) (Ev.bind (next_ev f m hf (by omega)) (f := fun k bt => if bt.2.2 = true then (if out.length < 8796093022208 then (if 0 ≤ bt.1 then (if bt.1 < (f.length : Int) then (if bt.1 < (m.length : Int) then (if 0 ≤ bt.2.1 then (if bt.2.1 < (f.length : Int) then (if bt.2.1 < (m.length : Int) then (scan_Pairs.l0 k ((f.set (bt.1 : Int).toNat true).set (bt.2.1 : Int).toNat false) ((m.set (bt.1 : Int).toNat false).set (bt.2.1 : Int).toNat false) (out ++ [(⟨bt.1, bt.2.1⟩ : S35)])) else (none)) else (none)) else (none)) else (none)) else (none)) else (none)) else (none)) else some (out, none)) (Ev.congr (fun k => ?_) (Ev.now _)))
      · simp only [scan_Pairs.l0]
      · simp [h, pairsOf]

/-! ### the reference's Pairs -/
theorem ref_mvs_loop (n : Int) (f : List Bool) (r : List S35) : ∀ (suf pre : List Int) (m : List Bool), (∀ i ∈ suf, okMv n i) → (m.length : Int) = n → (pre ++ suf).length ≤ 600 →
    Ev (fun k => paviorref19_Pairs.l1 k n f (mvs m suf) [] 0) r → Ev (fun k => paviorref19_Pairs.l0 k n (pre ++ suf) f m (pre.length : Int)) r := by
  intro suf
  induction suf with
  | nil =>
    intro pre m hall hl hlen h
    refine Ev.step (fun k => ?_) h
    simp only [paviorref19_Pairs.l0]
    rw [if_neg (by simp)]
    rfl
  | cons i suf ih =>
    intro pre m hall hl hlen h
    obtain ⟨i0, i1⟩ := hall i (by simp)
    have h1 := ih (pre ++ [i]) (m.set i.toNat true) (fun j hj => hall j (by simp [hj])) (by simpa using hl) (by simpa using hlen) h
    refine Ev.step (fun k => ?_) h1
    simp only [paviorref19_Pairs.l0]
    rw [if_pos (by simp; omega), if_pos (by omega), rd_at, if_pos i0, if_pos (by omega), wrap64_of (by omega) (by simp at hlen; omega)]
    simp

theorem ref_scan_loop (n : Int) (hn : n ≤ 600) (f m : List Bool) (out : List S35) (left : Int) (r : List S35) (hf : (f.length : Int) = n) (hm : (m.length : Int) = n)
    (h : Ev (fun k => paviorref19_Pairs.j5 k n f m out left (firstT m m.length) (lastT f f.length) (decide (¬ cond f m))) r) :
    ∀ (d i : Nat), i + d = m.length → Ev (fun k => paviorref19_Pairs.l2 k n f m out left (firstT m i) (lastT f i) (i : Int)) r := by
  intro d
  induction d with
  | zero =>
    intro i hi
    have e : i = m.length := by omega
    have e2 : m.length = f.length := by omega
    subst e
    refine Ev.step (fun k => ?_) h
    simp only [paviorref19_Pairs.l2]
    rw [if_neg (by omega), show decide (¬ cond f m) = decide (firstT m m.length < 0 ∨ firstT m m.length ≥ lastT f f.length) from decide_eq_decide.mpr (by unfold cond; omega), e2]
    by_cases c : firstT m f.length < 0
    · rw [if_pos c]
      simp [c]
    · rw [if_neg c]
      simp [c]
  | succ d ih =>
    intro i hi
    have h1 := ih (i + 1) (by omega)
    have hj4 : ∀ (t : Int), t = firstT m (i + 1) → Ev (fun k => paviorref19_Pairs.j4 k n f m out left t (lastT f i) (i : Int)) r := by
      intro t ht
      subst ht
      refine Ev.step (fun k => ?_) h1
      simp only [paviorref19_Pairs.j4]
      rw [if_pos (by omega), if_pos (by omega), wrap64_of (by omega) (by omega)]
      rw [show rdOf false f (i : Int) = f.getD i false by unfold rdOf; rw [Int.toNat_natCast], lastT]
      split <;> rfl
    have hj3 : ∀ b : Bool, b = decide (firstT m i < 0 ∧ m.getD i false = true) → Ev (fun k => paviorref19_Pairs.j3 k n f m out left (firstT m i) (lastT f i) (i : Int) b) r := by
      intro b hb
      by_cases c : firstT m i < 0 ∧ m.getD i false = true
      · refine Ev.step (fun k => ?_) (hj4 (i : Int) (by rw [firstT, if_pos c]))
        simp only [paviorref19_Pairs.j3]
        rw [if_pos (by rw [hb]; simpa using c)]
      · refine Ev.step (fun k => ?_) (hj4 (firstT m i) (by rw [firstT, if_neg c]))
        simp only [paviorref19_Pairs.j3]
        rw [if_neg (by rw [hb]; simpa using c)]
    refine Ev.step (fun k => ?_) (hj3 _ rfl)
    simp only [paviorref19_Pairs.l2]
    rw [if_pos (by omega), if_pos (by omega), if_pos (by omega), show rdOf false m (i : Int) = m.getD i false by unfold rdOf; rw [Int.toNat_natCast]]
    by_cases c : m.getD i false = true
    · rw [if_pos c, show decide (firstT m i < 0 ∧ m.getD i false = true) = decide (firstT m i < 0) from decide_eq_decide.mpr ⟨fun h => h.1, fun h => ⟨h, c⟩⟩]
    · rw [if_neg c, show decide (firstT m i < 0 ∧ m.getD i false = true) = false from decide_eq_false (fun h => c h.2)]

theorem ref_pairs_loop (n : Int) (hn : n ≤ 512) (h1n : 1 ≤ n) : ∀ (c : Nat) (f m : List Bool) (out : List S35) (left : Int), (f.length : Int) = n → (m.length : Int) = n → cnt m ≤ c → 0 ≤ left → left + c ≤ n → out.length + c ≤ 2000 →
    Ev (fun k => paviorref19_Pairs.l1 k n f m out left) (out ++ pairsOf c f m) := by
  intro c
  induction c with
  | zero =>
    intro f m out left hf hm hc h0 hleft ho
    have hn' : ¬ cond f m := fun h => by have := cond_cnt f m h; omega
    have h5 : Ev (fun k => paviorref19_Pairs.j5 k n f m out left (firstT m m.length) (lastT f f.length) (decide (¬ cond f m))) (out ++ pairsOf 0 f m) := by
      refine Ev.step (f := fun _ => some out) (fun k => ?_) (Ev.congr (fun k => ?_) (Ev.now _))
      · simp only [paviorref19_Pairs.j5]
        rw [if_pos (by simpa using hn')]
      · simp [pairsOf]
    have h2 := ref_scan_loop n (by omega) f m out left _ hf hm h5 m.length 0 (by omega)
    refine Ev.step (fun k => ?_) h2
    simp only [paviorref19_Pairs.l1]
    rw [if_pos (by omega)]
    rfl
  | succ c ih =>
    intro f m out left hf hm hc h0 hleft ho
    have h5 : Ev (fun k => paviorref19_Pairs.j5 k n f m out left (firstT m m.length) (lastT f f.length) (decide (¬ cond f m))) (out ++ pairsOf (c + 1) f m) := by
      by_cases h : cond f m
      · have hlt := cnt_setM f m h
        have h1 := ih (setF f m) (setM f m) (out ++ [⟨firstT m m.length, lastT f f.length⟩]) (left + 1) (by rw [setF_len]; exact hf) (by rw [setM_len]; exact hm) (by omega) (by omega) (by omega) (by simp; omega)
        rw [List.append_assoc, List.singleton_append] at h1
        rw [show pairsOf (c + 1) f m = ⟨firstT m m.length, lastT f f.length⟩ :: pairsOf c (setF f m) (setM f m) by rw [pairsOf, if_pos h]]
        refine Ev.step (fun k => ?_) h1
        have ha := firstT_bd m m.length
        have hb := lastT_bd f f.length
        have h' := h
        obtain ⟨h3, h4⟩ := h'
        simp only [paviorref19_Pairs.j5]
        rw [if_neg (by simpa using h), if_pos (by omega), if_pos (by omega), if_pos (by omega), if_pos (by omega), if_pos (by omega), if_pos (by omega), if_pos (by omega), wrap64_of (by omega) (by omega)]
        rfl
      · refine Ev.step (f := fun _ => some out) (fun k => ?_) (Ev.congr (fun k => ?_) (Ev.now _))
        · simp only [paviorref19_Pairs.j5]
          rw [if_pos (by simpa using h)]
        · simp [pairsOf, h]
    have h2 := ref_scan_loop n (by omega) f m out left _ hf hm h5 m.length 0 (by omega)
    refine Ev.step (fun k => ?_) h2
    simp only [paviorref19_Pairs.l1]
    rw [if_pos (by omega)]
    rfl

theorem cnt_le (m : List Bool) : cnt m ≤ m.length := List.count_le_length
def fr (n : Int) (free : List S41) : List Bool := marks (List.replicate n.toNat false) free
def mo (n : Int) (mv : List Int) : List Bool := mvs (List.replicate n.toNat false) mv
def thePairs (n : Int) (free : List S41) (mv : List Int) : List S35 := pairsOf n.toNat (fr n free) (mo n mv)
theorem fr_len (n : Int) (free : List S41) : (fr n free).length = n.toNat := by simp [fr, marks_len]
theorem mo_len (n : Int) (mv : List Int) : (mo n mv).length = n.toNat := by simp [mo, mvs_len]

theorem ref_pairs_ev (n : Int) (free : List S41) (mv : List Int) (h : okAll n free mv) (hf : free.length ≤ 600) (hm : mv.length ≤ 600) :
    Ev (fun k => paviorref19_Pairs.f k n free mv) (thePairs n free mv) := by
  obtain ⟨h1, h2, h3, h4⟩ := h
  have hl := ref_pairs_loop n h2 h1 n.toNat (fr n free) (mo n mv) [] 0 (by rw [fr_len]; omega) (by rw [mo_len]; omega) (by have := cnt_le (mo n mv); rw [mo_len] at this; exact this) (by omega) (by omega) (by simp; omega)
  have hl2 := ref_mvs_loop n (fr n free) _ mv [] (List.replicate n.toNat false) h4 (by simp; omega) hm hl
  refine Ev.bind (f := fun k t167 => (if 0 ≤ n then (if (n : Int).toNat ≤ 281474976710656 then (paviorref19_Pairs.l0 k n mv t167 (List.replicate (n : Int).toNat false) 0) else (none)) else (none))) (ref_free_ev n free h1 h2 h3 hf) (Ev.congr (fun k => ?_) hl2)
  rw [if_pos (by omega), if_pos (by omega)]
  rfl

theorem pairs_ev (n : Int) (free : List S41) (mv : List Int) (hf : free.length ≤ 600) (hm : mv.length ≤ 600) :
    Ev (fun k => scan_Pairs.f k n free mv) (if okAll n free mv then (thePairs n free mv, none) else ([], some 1)) := by
  refine Ev.bind (f := fun k bt115 => (if bt115.2.2 = true then (scan_Pairs.l0 k bt115.1 bt115.2.1 ([] : List (S35))) else (some (([] : List (S35)), some 1)))) (marked_ev n free mv hf hm) ?_
  by_cases h : okAll n free mv
  · simp only [if_pos h, if_true]
    obtain ⟨h1, h2, h3, h4⟩ := h
    exact pairs_loop n.toNat (fr n free) (mo n mv) [] (by rw [fr_len, mo_len]) (by rw [fr_len]; omega) (by have := cnt_le (mo n mv); rw [mo_len] at this; exact this) (by simp; omega)
  · simp only [if_neg h]
    exact Ev.now _

theorem pair_ev (n : Int) (free : List S41) (mv : List Int) (hf : free.length ≤ 600) (hm : mv.length ≤ 600) :
    Ev (fun k => scan_Pair.f k n free mv) (if okAll n free mv then (if cond (fr n free) (mo n mv) then (firstT (mo n mv) (mo n mv).length, lastT (fr n free) (fr n free).length, none) else (0, 0, some 3)) else (0, 0, some 1)) := by
  refine Ev.bind (f := fun k bt145 => (if bt145.2.2 = true then ((scan_next.f k bt145.1 bt145.2.1).bind fun bt152 => (if bt152.2.2 = true then (some (bt152.1, bt152.2.1, none)) else (some ((0 : Int), (0 : Int), some (3 : Int))))) else (some ((0 : Int), (0 : Int), some (1 : Int))))) (marked_ev n free mv hf hm) ?_
  by_cases h : okAll n free mv
  · simp only [if_pos h, if_true]
    obtain ⟨h1, h2, h3, h4⟩ := h
    have hx := next_ev (fr n free) (mo n mv) (by rw [fr_len]; omega) (by rw [mo_len]; omega)
    refine Ev.bind (f := fun k bt152 => (if bt152.2.2 = true then (some (bt152.1, bt152.2.1, none)) else (some ((0 : Int), (0 : Int), some (3 : Int))))) hx ?_
    by_cases c : cond (fr n free) (mo n mv)
    · simp only [c, decide_true, if_true]; exact Ev.now _
    · simp only [c, decide_false, if_false]; exact Ev.now _
  · simp only [if_neg h]
    exact Ev.now _

theorem thePairs_head (n : Int) (free : List S41) (mv : List Int) (h : okAll n free mv) :
    thePairs n free mv = if cond (fr n free) (mo n mv) then ⟨firstT (mo n mv) (mo n mv).length, lastT (fr n free) (fr n free).length⟩ :: pairsOf (n.toNat - 1) (setF (fr n free) (mo n mv)) (setM (fr n free) (mo n mv)) else [] := by
  obtain ⟨h1, h2, h3, h4⟩ := h
  unfold thePairs
  obtain ⟨c, hc⟩ : ∃ c, n.toNat = c + 1 := ⟨n.toNat - 1, by omega⟩
  rw [hc, pairsOf]
  rfl

theorem up_ev : Ev (fun k => paviorlaw19_up.f k) true := by
  have h : thePairs 8 [⟨4, 0⟩, ⟨6, 1⟩] [0, 1, 5] = [⟨0, 7⟩, ⟨1, 6⟩] := by rfl
  have hp := pairs_ev 8 [⟨4, 0⟩, ⟨6, 1⟩] [0, 1, 5] (by simp) (by simp)
  rw [if_pos (by decide +kernel), h] at hp
  refine Ev.bind (f := fun k bt138 => (if bt138.2.isNone = true then (if (bt138.1.length : Int) = 2 then (if 0 < (bt138.1.length : Int) then (if (((rd_T35 bt138.1 0).f0) == 0 && (((rd_T35 bt138.1 0).f1) == 7)) = true then (if 1 < (bt138.1.length : Int) then (some (((rd_T35 bt138.1 1).f0) == 1 && (((rd_T35 bt138.1 1).f1) == 6))) else (none)) else (some false)) else (none)) else (some false)) else (some false))) hp ?_
  exact Ev.congr (fun k => by decide) (Ev.now true)

end Go.Proofs.Ytlmjjkggoemabaa.ScanLib
