/- Layer 19: what marked, next, Pairs and the reference's May, Free and Pairs compute. -/
import Derived.Test.YtlmjjkggoemabaaPow
import Derived.Test.YtlmjjkggoemabaaQx5
import Derived.Test.YtlmjjkggoemabaaQx6
import Derived.Test.YtlmjjkggoemabaaQx7
import Derived.Test.YtlmjjkggoemabaaQx4
namespace Go.Proofs.Ytlmjjkggoemabaa.ScanLib
open Go.RowKit Go.Proofs.YtlmjjkggoemabaaW.PrintWords Go.Proofs.YtlmjjkggoemabaaW.PrintLast Go.Proofs.YtlmjjkggoemabaaW.PrintMore Go.Proofs.Ytlmjjkggoemabaa.Bits Go.Proofs.Ytlmjjkggoemabaa.Pow Go.Proofs.Ytlmjjkggoemabaa.Q
set_option linter.unusedVariables false
set_option linter.unusedSimpArgs false

/-! ### what is marked -/
def okRun (n : Int) (b : S41) : Prop := 0 ≤ b.f1 ∧ b.f1 ≤ 9 ∧ 0 ≤ b.f0 ∧ b.f0 < n ∧ b.f0 + pw b.f1 ≤ n
instance (n : Int) (b : S41) : Decidable (okRun n b) := by unfold okRun; infer_instance
def okMv (n : Int) (i : Int) : Prop := 0 ≤ i ∧ i < n
instance (n i : Int) : Decidable (okMv n i) := by unfold okMv; infer_instance
/-- d places from a on are true -/
def fillR (f : List Bool) (a : Int) : Nat → List Bool
  | 0 => f
  | d + 1 => fillR (f.set a.toNat true) (a + 1) d
def marks (f : List Bool) : List S41 → List Bool
  | [] => f
  | b :: bs => marks (fillR f b.f0 (pw b.f1).toNat) bs
def mvs (m : List Bool) : List Int → List Bool
  | [] => m
  | i :: is => mvs (m.set i.toNat true) is
theorem fillR_len (d : Nat) : ∀ (f : List Bool) (a : Int), (fillR f a d).length = f.length := by
  induction d with
  | zero => intro f a; rfl
  | succ d ih => intro f a; rw [fillR, ih]; simp
theorem marks_len (bs : List S41) : ∀ f, (marks f bs).length = f.length := by
  induction bs with
  | nil => intro f; rfl
  | cons b bs ih => intro f; rw [marks, ih, fillR_len]
theorem mvs_len (is : List Int) : ∀ m, (mvs m is).length = m.length := by
  induction is with
  | nil => intro f; rfl
  | cons b bs ih => intro f; rw [mvs, ih]; simp

theorem rd41_at (pre : List S41) (b : S41) (suf : List S41) : rd_T41 (pre ++ b :: suf) (pre.length : Int) = b := by
  unfold rd_T41
  rw [List.getD_eq_getElem?_getD]
  simp
theorem rd_at (pre : List Int) (b : Int) (suf : List Int) : rd (pre ++ b :: suf) (pre.length : Int) = b := by
  unfold rd
  rw [List.getD_eq_getElem?_getD]
  simp

theorem fill_loop (x0 : Int) (x2 : List Int) (x10 : List Bool) (x26 : List S41) (x27 x28 a o : Int) (r : List Bool × List Bool × Bool) (h0 : 0 ≤ o) (ho : o ≤ 9) (ha : 0 ≤ a) (hn : x0 ≤ 512) (hend : a + pw o ≤ x0) :
    ∀ (d : Nat) (i : Int) (f : List Bool), a ≤ i → i + d = a + pw o → (f.length : Int) = x0 →
      Ev (fun k => scan_marked.l0 k x0 x2 (fillR f i d) x10 x26 x27 (wrap64 (x28 + 1))) r →
      Ev (fun k => scan_marked.l1 k x0 x2 f x10 i x26 x27 x28 a o) r := by
  intro d
  have hp := pw_pos o
  have hw : wrap64 (a + shl .i64 1 o) = a + pw o := by rw [shl_one o h0 (by omega), wrap64_of (by omega) (by omega)]
  induction d with
  | zero =>
    intro i f hi hd hl h
    refine Ev.step (fun k => ?_) h
    simp only [scan_marked.l1]
    rw [if_pos h0, hw, if_neg (by omega)]
    rfl
  | succ d ih =>
    intro i f hi hd hl h
    refine Ev.step (fun k => ?_) (ih (i + 1) (f.set i.toNat true) (by omega) (by omega) (by simpa using hl) h)
    simp only [scan_marked.l1]
    rw [if_pos h0, hw, if_pos (by omega), if_pos (by omega), if_pos (by omega), wrap64_of (n := i + 1) (by omega) (by omega)]

theorem mv_loop (n : Int) (hn : n ≤ 512) (x9 : List Bool) : ∀ (suf pre : List Int) (m : List Bool), (m.length : Int) = n → (pre ++ suf).length ≤ 600 →
    Ev (fun k => scan_marked.l2 k n x9 m (pre ++ suf) ((pre ++ suf).length : Int) (pre.length : Int)) (if ∀ i ∈ suf, okMv n i then (x9, mvs m suf, true) else ([], [], false)) := by
  intro suf
  induction suf with
  | nil =>
    intro pre m hl hlen
    refine Ev.step (f := fun _ => some (x9, m, true)) (fun k => ?_) (Ev.congr (fun k => ?_) (Ev.now _))
    · simp only [scan_marked.l2]
      rw [if_neg (by simp)]
    · simp [mvs]
  | cons i suf ih =>
    intro pre m hl hlen
    have hlt : (pre.length : Int) < ((pre ++ i :: suf).length : Int) := by simp; omega
    by_cases hi : okMv n i
    · have h1 : Ev (fun k => scan_marked.l2 k n x9 (m.set i.toNat true) (pre ++ i :: suf) ((pre ++ i :: suf).length : Int) ((pre.length : Int) + 1)) (if ∀ j ∈ suf, okMv n j then (x9, mvs (m.set i.toNat true) suf, true) else ([], [], false)) := by
        have := ih (pre ++ [i]) (m.set i.toNat true) (by simpa using hl) (by simpa using hlen)
        simpa using this
      have e : (if ∀ j ∈ i :: suf, okMv n j then (x9, mvs m (i :: suf), true) else (([] : List Bool), ([] : List Bool), false)) = (if ∀ j ∈ suf, okMv n j then (x9, mvs (m.set i.toNat true) suf, true) else ([], [], false)) := by
        simp [hi, mvs]
      rw [e]
      refine Ev.step (f := fun k => scan_marked.j5 k n x9 m i (pre ++ i :: suf) ((pre ++ i :: suf).length : Int) (pre.length : Int) false) (fun k => ?_) (Ev.step (fun k => ?_) h1)
      · simp only [scan_marked.l2]
        rw [if_pos hlt, if_pos (by omega), if_pos hlt, rd_at, if_neg (by have := hi.1; omega), show decide (i ≥ n) = false by have := hi.2; simp; omega]
      · simp only [scan_marked.j5]
        rw [if_neg (by decide), if_pos hi.1, if_pos (by have := hi.2; omega), wrap64_of (by omega) (by simp at hlen; omega)]
    · have e : (if ∀ j ∈ i :: suf, okMv n j then (x9, mvs m (i :: suf), true) else (([] : List Bool), ([] : List Bool), false)) = ([], [], false) := by
        simp [hi]
      rw [e]
      refine Ev.step (f := fun k => scan_marked.j5 k n x9 m i (pre ++ i :: suf) ((pre ++ i :: suf).length : Int) (pre.length : Int) true) (fun k => ?_) (Ev.step (f := fun _ => some ([], [], false)) (fun k => ?_) (Ev.now _))
      · simp only [scan_marked.l2]
        rw [if_pos hlt, if_pos (by omega), if_pos hlt, rd_at]
        by_cases h0 : i < 0
        · rw [if_pos h0]
        · rw [if_neg h0, show decide (i ≥ n) = true by unfold okMv at hi; simp; omega]
      · simp only [scan_marked.j5]
        rw [if_pos trivial]

def okAll (n : Int) (free : List S41) (mv : List Int) : Prop := 1 ≤ n ∧ n ≤ 512 ∧ (∀ b ∈ free, okRun n b) ∧ ∀ i ∈ mv, okMv n i
instance (n : Int) (free : List S41) (mv : List Int) : Decidable (okAll n free mv) := by unfold okAll; infer_instance

theorem run_loop (n : Int) (hn : n ≤ 512) (mv : List Int) (hmv : mv.length ≤ 600) (m0 : List Bool) (hm0 : (m0.length : Int) = n) : ∀ (suf pre : List S41) (f : List Bool), (f.length : Int) = n → (pre ++ suf).length ≤ 600 →
    Ev (fun k => scan_marked.l0 k n mv f m0 (pre ++ suf) ((pre ++ suf).length : Int) (pre.length : Int)) (if (∀ b ∈ suf, okRun n b) ∧ ∀ i ∈ mv, okMv n i then (marks f suf, mvs m0 mv, true) else ([], [], false)) := by
  intro suf
  induction suf with
  | nil =>
    intro pre f hl hlen
    have h := mv_loop n hn f mv [] m0 hm0 hmv
    refine Ev.step (fun k => ?_) (by simpa [marks] using h)
    simp only [scan_marked.l0]
    rw [if_neg (by simp)]
  | cons b suf ih =>
    intro pre f hl hlen
    have hlt : (pre.length : Int) < ((pre ++ b :: suf).length : Int) := by simp; omega
    by_cases hb : okRun n b
    · have hb' := hb
      obtain ⟨b1, b2, b3, b4, b5⟩ := hb'
      have hp := pw_pos b.f1
      have h1 := ih (pre ++ [b]) (fillR f b.f0 (pw b.f1).toNat) (by rw [fillR_len]; exact hl) (by simpa using hlen)
      have e : (if (∀ c ∈ b :: suf, okRun n c) ∧ ∀ i ∈ mv, okMv n i then (marks f (b :: suf), mvs m0 mv, true) else (([] : List Bool), ([] : List Bool), false)) = (if (∀ c ∈ suf, okRun n c) ∧ ∀ i ∈ mv, okMv n i then (marks (fillR f b.f0 (pw b.f1).toNat) suf, mvs m0 mv, true) else ([], [], false)) := by
        simp [hb, marks]
      rw [e]
      have h2 := fill_loop n mv m0 (pre ++ b :: suf) ((pre ++ b :: suf).length : Int) (pre.length : Int) b.f0 b.f1 _ b1 b2 b3 hn b5 (pw b.f1).toNat b.f0 f (by omega) (by omega) hl
        (by rw [wrap64_of (n := (pre.length : Int) + 1) (by omega) (by simp at hlen; omega)]; simpa using h1)
      refine Ev.step (f := fun k => scan_marked.j2 k n mv f m0 (pre ++ b :: suf) ((pre ++ b :: suf).length : Int) (pre.length : Int) false b.f0 b.f1) (fun k => ?_) (Ev.step (fun k => ?_) h2)
      · simp only [scan_marked.l0]
        rw [if_pos hlt, if_pos (by omega), if_pos hlt, rd41_at, if_neg (by omega), if_neg (by omega), if_neg (by omega), if_neg (by omega), if_pos (by omega), shl_one _ b1 (by omega), wrap64_of (n := b.f0 + pw b.f1) (by omega) (by omega), show decide (b.f0 + pw b.f1 > n) = false by simp; omega]
      · simp only [scan_marked.j2]
        rw [if_neg (by decide)]
    · have e : (if (∀ c ∈ b :: suf, okRun n c) ∧ ∀ i ∈ mv, okMv n i then (marks f (b :: suf), mvs m0 mv, true) else (([] : List Bool), ([] : List Bool), false)) = ([], [], false) := by
        simp [hb]
      rw [e]
      refine Ev.step (f := fun k => scan_marked.j2 k n mv f m0 (pre ++ b :: suf) ((pre ++ b :: suf).length : Int) (pre.length : Int) true b.f0 b.f1) (fun k => ?_) (Ev.step (f := fun _ => some ([], [], false)) (fun k => ?_) (Ev.now _))
      · simp only [scan_marked.l0]
        rw [if_pos hlt, if_pos (by omega), if_pos hlt, rd41_at]
        by_cases c1 : b.f1 < 0
        · rw [if_pos c1]
        rw [if_neg c1]
        by_cases c2 : b.f1 > 9
        · rw [if_pos c2]
        rw [if_neg c2]
        by_cases c3 : b.f0 < 0
        · rw [if_pos c3]
        rw [if_neg c3]
        by_cases c4 : b.f0 ≥ n
        · rw [if_pos c4]
        have hp9 : pw b.f1 ≤ 512 := pw_le (b := 9) (by omega)
        have hp := pw_pos b.f1
        rw [if_neg c4, if_pos (by omega), shl_one _ (by omega) (by omega), wrap64_of (n := b.f0 + pw b.f1) (by omega) (by omega), show decide (b.f0 + pw b.f1 > n) = true by unfold okRun at hb; simp; omega]
      · simp only [scan_marked.j2]
        rw [if_pos trivial]

theorem marked_ev (n : Int) (free : List S41) (mv : List Int) (hf : free.length ≤ 600) (hm : mv.length ≤ 600) :
    Ev (fun k => scan_marked.f k n free mv) (if okAll n free mv then (marks (List.replicate n.toNat false) free, mvs (List.replicate n.toNat false) mv, true) else ([], [], false)) := by
  by_cases hn : n < 1 ∨ n > 512
  · rw [if_neg (fun h => by have := h.1; have := h.2.1; omega)]
    refine Ev.step (f := fun _ => some ([], [], false)) (fun k => ?_) (Ev.now _)
    unfold scan_marked.f
    by_cases h1 : n < 1
    · rw [if_pos h1]; simp only [scan_marked.j0]; rw [if_pos trivial]
    · rw [if_neg h1, show decide (n > 512) = true by simp; omega]; simp only [scan_marked.j0]; rw [if_pos trivial]
  · have e : (if okAll n free mv then (marks (List.replicate n.toNat false) free, mvs (List.replicate n.toNat false) mv, true) else (([] : List Bool), ([] : List Bool), false)) = (if (∀ b ∈ free, okRun n b) ∧ ∀ i ∈ mv, okMv n i then (marks (List.replicate n.toNat false) free, mvs (List.replicate n.toNat false) mv, true) else ([], [], false)) := by
      have h1 : 1 ≤ n := by omega
      have h2 : n ≤ 512 := by omega
      simp [okAll, h1, h2]
    rw [e]
    refine Ev.step (fun k => ?_) (run_loop n (by omega) mv hm (List.replicate n.toNat false) (by simp; omega) free [] (List.replicate n.toNat false) (by simp; omega) hf)
    unfold scan_marked.f
    rw [if_neg (by omega), show decide (n > 512) = false by simp; omega]
    simp only [scan_marked.j0]
    rw [if_neg (by decide), if_pos (by omega), if_pos (by omega)]
    rfl

/-! ### the reference's May and Free -/
theorem ref_mv_loop (n : Int) (x0 : Int) : ∀ (suf pre : List Int), (pre ++ suf).length ≤ 600 →
    Ev (fun k => paviorref19_May.l1 k n (pre ++ suf) (pre.length : Int)) (decide (∀ i ∈ suf, okMv n i)) := by
  intro suf
  induction suf with
  | nil =>
    intro pre hlen
    refine Ev.step (f := fun _ => some true) (fun k => ?_) (Ev.congr (fun k => ?_) (Ev.now _))
    · simp only [paviorref19_May.l1]
      rw [if_neg (by simp)]
    · simp
  | cons i suf ih =>
    intro pre hlen
    have hlt : (pre.length : Int) < ((pre ++ i :: suf).length : Int) := by simp; omega
    by_cases hi : okMv n i
    · have h1 : Ev (fun k => paviorref19_May.l1 k n (pre ++ i :: suf) ((pre.length : Int) + 1)) (decide (∀ j ∈ suf, okMv n j)) := by
        have := ih (pre ++ [i]) (by simpa using hlen)
        simpa using this
      have e : decide (∀ j ∈ i :: suf, okMv n j) = decide (∀ j ∈ suf, okMv n j) := by simp [hi]
      rw [e]
      refine Ev.step (f := fun k => paviorref19_May.j4 k n (pre ++ i :: suf) (pre.length : Int) false) (fun k => ?_) (Ev.step (fun k => ?_) h1)
      · simp only [paviorref19_May.l1]
        rw [if_pos hlt, if_pos (by omega), rd_at, if_neg (by have := hi.1; omega), show decide (i ≥ n) = false by have := hi.2; simp; omega]
      · simp only [paviorref19_May.j4]
        rw [if_neg (by decide), wrap64_of (by omega) (by simp at hlen; omega)]
    · have e : decide (∀ j ∈ i :: suf, okMv n j) = false := by simp [hi]
      rw [e]
      refine Ev.step (f := fun k => paviorref19_May.j4 k n (pre ++ i :: suf) (pre.length : Int) true) (fun k => ?_) (Ev.step (f := fun _ => some false) (fun k => ?_) (Ev.now _))
      · simp only [paviorref19_May.l1]
        rw [if_pos hlt, if_pos (by omega), rd_at]
        by_cases h0 : i < 0
        · rw [if_pos h0]
        · rw [if_neg h0, show decide (i ≥ n) = true by unfold okMv at hi; simp; omega]
      · simp only [paviorref19_May.j4]
        rw [if_pos trivial]

theorem ref_run_loop (n : Int) (hn : n ≤ 512) (mv : List Int) (hmv : mv.length ≤ 600) : ∀ (suf pre : List S41), (pre ++ suf).length ≤ 600 →
    Ev (fun k => paviorref19_May.l0 k n (pre ++ suf) mv (pre.length : Int)) (decide ((∀ b ∈ suf, okRun n b) ∧ ∀ i ∈ mv, okMv n i)) := by
  intro suf
  induction suf with
  | nil =>
    intro pre hlen
    have h := ref_mv_loop n 0 mv [] hmv
    refine Ev.step (fun k => ?_) (by simpa using h)
    simp only [paviorref19_May.l0]
    rw [if_neg (by simp)]
  | cons b suf ih =>
    intro pre hlen
    have hlt : (pre.length : Int) < ((pre ++ b :: suf).length : Int) := by simp; omega
    by_cases hr : b.f1 < 0 ∨ b.f1 > 9 ∨ b.f0 < 0 ∨ b.f0 ≥ n
    · have e : decide ((∀ c ∈ b :: suf, okRun n c) ∧ ∀ i ∈ mv, okMv n i) = false := by
        have : ¬ okRun n b := fun h => by obtain ⟨h1, h2, h3, h4, _⟩ := h; omega
        simp [this]
      rw [e]
      refine Ev.step (f := fun k => paviorref19_May.j2 k n (pre ++ b :: suf) mv (pre.length : Int) true) (fun k => ?_) (Ev.step (f := fun _ => some false) (fun k => ?_) (Ev.now _))
      · simp only [paviorref19_May.l0]
        rw [if_pos hlt, if_pos (by omega), rd41_at]
        by_cases c1 : b.f1 < 0
        · rw [if_pos c1]
        rw [if_neg c1]
        by_cases c2 : b.f1 > 9
        · rw [if_pos c2]
        rw [if_neg c2]
        by_cases c3 : b.f0 < 0
        · rw [if_pos c3]
        rw [if_neg c3, if_pos (by omega)]
      · simp only [paviorref19_May.j2]
        rw [if_pos trivial]
    · have hp9 : pw b.f1 ≤ 512 := pw_le (b := 9) (by omega)
      have hp := pw_pos b.f1
      have hpw := power_ev b.f1 (by omega) (by omega)
      by_cases hb : b.f0 + pw b.f1 ≤ n
      · have h1 := ih (pre ++ [b]) (by simpa using hlen)
        have hok : okRun n b := ⟨by omega, by omega, by omega, by omega, hb⟩
        have e : decide ((∀ c ∈ b :: suf, okRun n c) ∧ ∀ i ∈ mv, okMv n i) = decide ((∀ c ∈ suf, okRun n c) ∧ ∀ i ∈ mv, okMv n i) := by simp [hok]
        rw [e]
        have h2 : Ev (fun k => paviorref19_May.j2 k n (pre ++ b :: suf) mv (pre.length : Int) (decide (wrap64 (b.f0 + pw b.f1) > n))) (decide ((∀ c ∈ suf, okRun n c) ∧ ∀ i ∈ mv, okMv n i)) := by
          refine Ev.step (fun k => ?_) (by simpa using h1)
          simp only [paviorref19_May.j2]
          rw [wrap64_of (n := b.f0 + pw b.f1) (by omega) (by omega), if_neg (by simp; omega), wrap64_of (by omega) (by simp at hlen; omega)]
        refine Ev.step (fun k => ?_) (Ev.bind (f := fun k t => paviorref19_May.j2 k n (pre ++ b :: suf) mv (pre.length : Int) (decide (wrap64 (b.f0 + t) > n))) hpw h2)
        simp only [paviorref19_May.l0]
        rw [if_pos hlt, if_pos (by omega), rd41_at, if_neg (by omega), if_neg (by omega), if_neg (by omega), if_neg (by omega)]
      · have e : decide ((∀ c ∈ b :: suf, okRun n c) ∧ ∀ i ∈ mv, okMv n i) = false := by
          have : ¬ okRun n b := fun h => hb h.2.2.2.2
          simp [this]
        rw [e]
        have h2 : Ev (fun k => paviorref19_May.j2 k n (pre ++ b :: suf) mv (pre.length : Int) (decide (wrap64 (b.f0 + pw b.f1) > n))) false := by
          refine Ev.step (f := fun _ => some false) (fun k => ?_) (Ev.now _)
          simp only [paviorref19_May.j2]
          rw [wrap64_of (n := b.f0 + pw b.f1) (by omega) (by omega), if_pos (by simp; omega)]
        refine Ev.step (fun k => ?_) (Ev.bind (f := fun k t => paviorref19_May.j2 k n (pre ++ b :: suf) mv (pre.length : Int) (decide (wrap64 (b.f0 + t) > n))) hpw h2)
        simp only [paviorref19_May.l0]
        rw [if_pos hlt, if_pos (by omega), rd41_at, if_neg (by omega), if_neg (by omega), if_neg (by omega), if_neg (by omega)]

theorem ref_may_ev (n : Int) (free : List S41) (mv : List Int) (hf : free.length ≤ 600) (hm : mv.length ≤ 600) :
    Ev (fun k => paviorref19_May.f k n free mv) (decide (okAll n free mv)) := by
  by_cases hn : n < 1 ∨ n > 512
  · rw [show decide (okAll n free mv) = false by rw [decide_eq_false_iff_not]; intro h; have := h.1; have := h.2.1; omega]
    refine Ev.step (f := fun _ => some false) (fun k => ?_) (Ev.now _)
    unfold paviorref19_May.f
    by_cases h1 : n < 1
    · rw [if_pos h1]; simp only [paviorref19_May.j0]; rw [if_pos trivial]
    · rw [if_neg h1, show decide (n > 512) = true by simp; omega]; simp only [paviorref19_May.j0]; rw [if_pos trivial]
  · have e : decide (okAll n free mv) = decide ((∀ b ∈ free, okRun n b) ∧ ∀ i ∈ mv, okMv n i) := by
      have h1 : 1 ≤ n := by omega
      have h2 : n ≤ 512 := by omega
      simp [okAll, h1, h2]
    rw [e]
    refine Ev.step (fun k => ?_) (ref_run_loop n (by omega) mv hm free [] hf)
    unfold paviorref19_May.f
    rw [if_neg (by omega), show decide (n > 512) = false by simp; omega]
    simp only [paviorref19_May.j0]
    rw [if_neg (by decide)]
    rfl

theorem ref_fill_loop (pre : List S41) (b : S41) (suf : List S41) (n : Int) (hn : n ≤ 512) (hb : okRun n b) (r : List Bool) (hlen : (pre ++ b :: suf).length ≤ 600) :
    ∀ (d : Nat) (j : Int) (f : List Bool), 0 ≤ j → j + d = pw b.f1 → (f.length : Int) = n →
      Ev (fun k => paviorref19_Free.l0 k (pre ++ b :: suf) (fillR f (b.f0 + j) d) ((pre.length : Int) + 1)) r →
      Ev (fun k => paviorref19_Free.l1 k (pre ++ b :: suf) f (pre.length : Int) j) r := by
  intro d
  obtain ⟨b1, b2, b3, b4, b5⟩ := hb
  have hp := pw_pos b.f1
  have hp9 : pw b.f1 ≤ 512 := pw_le (b := 9) (by omega)
  have hlt : (pre.length : Int) < ((pre ++ b :: suf).length : Int) := by simp; omega
  have hpw := power_ev b.f1 (by omega) (by omega)
  have hw1 : wrap64 ((pre.length : Int) + 1) = (pre.length : Int) + 1 := wrap64_of (by omega) (by simp at hlen; omega)
  have unf : ∀ (j : Int) (f : List Bool) (k : Nat), paviorref19_Free.l1 (k + 1) (pre ++ b :: suf) f (pre.length : Int) j = (paviorref01_Power.f k b.f1).bind (fun t => if j < t then (if 0 ≤ wrap64 (b.f0 + j) then (if wrap64 (b.f0 + j) < (f.length : Int) then paviorref19_Free.l1 k (pre ++ b :: suf) (f.set (wrap64 (b.f0 + j)).toNat true) (pre.length : Int) (wrap64 (j + 1)) else none) else none) else paviorref19_Free.l0 k (pre ++ b :: suf) f ((pre.length : Int) + 1)) := by
    intro j f k
    simp only [paviorref19_Free.l1]
    rw [if_pos (by omega), if_pos hlt, rd41_at, hw1]
  induction d with
  | zero =>
    intro j f hj hd hl h
    refine Ev.step (unf j f) (Ev.bind hpw (Ev.congr (fun k => ?_) h))
    rw [if_neg (by omega)]; rfl
  | succ d ih =>
    intro j f hj hd hl h
    have h1 := ih (j + 1) (f.set (b.f0 + j).toNat true) (by omega) (by omega) (by simpa using hl) (by rw [show b.f0 + (j + 1) = b.f0 + j + 1 by omega]; exact h)
    refine Ev.step (unf j f) (Ev.bind hpw (Ev.congr (fun k => ?_) h1))
    rw [if_pos (by omega), wrap64_of (n := b.f0 + j) (by omega) (by omega), wrap64_of (n := j + 1) (by omega) (by omega), if_pos (by omega), if_pos (by omega)]

theorem ref_free_loop (n : Int) (hn : n ≤ 512) : ∀ (suf pre : List S41) (f : List Bool), (∀ b ∈ suf, okRun n b) → (f.length : Int) = n → (pre ++ suf).length ≤ 600 →
    Ev (fun k => paviorref19_Free.l0 k (pre ++ suf) f (pre.length : Int)) (marks f suf) := by
  intro suf
  induction suf with
  | nil =>
    intro pre f hall hl hlen
    refine Ev.step (f := fun _ => some f) (fun k => ?_) (Ev.now _)
    simp only [paviorref19_Free.l0]
    rw [if_neg (by simp)]
  | cons b suf ih =>
    intro pre f hall hl hlen
    have hb := hall b (by simp)
    have hp := pw_pos b.f1
    have h1 := ih (pre ++ [b]) (fillR f b.f0 (pw b.f1).toNat) (fun c hc => hall c (by simp [hc])) (by rw [fillR_len]; exact hl) (by simpa using hlen)
    have h2 := ref_fill_loop pre b suf n hn hb (marks (fillR f b.f0 (pw b.f1).toNat) suf) hlen (pw b.f1).toNat 0 f (by omega) (by omega) hl (by simpa using h1)
    refine Ev.step (fun k => ?_) h2
    simp only [paviorref19_Free.l0]
    rw [if_pos (by simp; omega)]

theorem ref_free_ev (n : Int) (free : List S41) (h1 : 1 ≤ n) (hn : n ≤ 512) (hall : ∀ b ∈ free, okRun n b) (hf : free.length ≤ 600) :
    Ev (fun k => paviorref19_Free.f k n free) (marks (List.replicate n.toNat false) free) := by
  refine Ev.congr (fun k => ?_) (ref_free_loop n hn free [] (List.replicate n.toNat false) hall (by simp; omega) hf)
  unfold paviorref19_Free.f
  rw [if_pos (by omega), if_pos (by omega)]
  rfl

end Go.Proofs.Ytlmjjkggoemabaa.ScanLib
