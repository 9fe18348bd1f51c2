/- Layer 19: what scan.Broken and the reference's Broken count: the free frames that lie in no whole free run. -/
import Derived.Test.YtlmjjkggoemabaaScanLib
import Derived.Test.YtlmjjkggoemabaaQx10
namespace Go.Proofs.Ytlmjjkggoemabaa.ScanBroken
open Go.RowKit Go.Proofs.YtlmjjkggoemabaaW.PrintWords Go.Proofs.YtlmjjkggoemabaaW.PrintLast Go.Proofs.YtlmjjkggoemabaaW.PrintMore Go.Proofs.Ytlmjjkggoemabaa.Bits Go.Proofs.Ytlmjjkggoemabaa.Pow Go.Proofs.Ytlmjjkggoemabaa.Q Go.Proofs.Ytlmjjkggoemabaa.ScanLib Go.Proofs.Ytlmjjkggoemabaa.HBroken
set_option linter.unusedVariables false
set_option linter.unusedSimpArgs false

/-- chunk j is whole, and free -/
def W (f : List Bool) (p j : Nat) : Bool := decide ((pt f p j).length = p) && !((pt f p j).contains false)
theorem one_W (f : List Bool) (p j : Nat) : one f p j = if W f p j = true then 0 else cnt (pt f p j) := by
  unfold one W
  by_cases h1 : (pt f p j).length = p
  · cases h2 : (pt f p j).contains false <;> simp only [h1, decide_true, Bool.true_and, Bool.not_true, Bool.not_false, true_and, if_true] <;> simp
  · rw [if_neg (fun h => h1 h.1), decide_eq_false h1]
    simp
def bad (f : List Bool) (p i : Nat) : Bool := f.getD i false && !(W f p (i / p))
def B (f : List Bool) (p i : Nat) : Nat := (List.range i).countP (bad f p)
theorem B_succ (f : List Bool) (p i : Nat) : B f p (i + 1) = B f p i + (if bad f p i = true then 1 else 0) := by
  unfold B
  rw [List.range_succ, List.countP_append]
  simp
theorem B_le (f : List Bool) (p i : Nat) : B f p i ≤ i := by
  have := List.countP_le_length (p := bad f p) (l := List.range i)
  rw [List.length_range] at this
  exact this
theorem pt_getD (f : List Bool) (p j m : Nat) (h : m < (pt f p j).length) : (pt f p j).getD m false = f.getD (j * p + m) false := by
  rw [pt_len] at h
  simp only [pt, List.getD_eq_getElem?_getD, List.getElem?_take, List.getElem?_drop]
  rw [if_pos (by omega)]
theorem B_block (f : List Bool) (p : Nat) (hp : 0 < p) (j : Nat) : ∀ m, m ≤ (pt f p j).length → B f p (j * p + m) = B f p (j * p) + (if W f p j = true then 0 else cnt ((pt f p j).take m))
  | 0, _ => by simp [cnt]
  | m + 1, h => by
    have ih := B_block f p hp j m (by omega)
    have hm : m < p := by have := pt_len f p j; omega
    have hd : (j * p + m) / p = j := by rw [Nat.mul_comm, Nat.mul_add_div hp, Nat.div_eq_of_lt hm]; omega
    rw [← Nat.add_assoc, B_succ, ih, cnt_succ _ _ h]
    unfold bad
    rw [hd, ← pt_getD f p j m h]
    cases W f p j <;> cases (pt f p j).getD m false <;> simp <;> omega
theorem B_tot (f : List Bool) (p : Nat) (hp : 0 < p) : ∀ J, J ≤ rounds f.length p → B f p (min f.length (J * p)) = tot f p (List.range J)
  | 0, _ => by simp [B, tot]
  | J + 1, h => by
    have ih := B_tot f p hp J (by omega)
    have hJ : J * p < f.length := Nat.lt_of_not_le (fun hn => by have := rounds_eq f.length p hp J (Nat.not_lt.mpr hn) (by omega); omega)
    have e1 : min f.length (J * p) = J * p := by omega
    have e2 : min f.length ((J + 1) * p) = J * p + (pt f p J).length := by rw [pt_len, Nat.succ_mul]; omega
    rw [e1] at ih
    rw [List.range_succ, tot_snoc, one_W, ← ih, e2, B_block f p hp J _ (Nat.le_refl _), List.take_length]
theorem B_all (f : List Bool) (p : Nat) (hp : 0 < p) : B f p f.length = tot f p (List.range (rounds f.length p)) := by
  rw [← B_tot f p hp _ (Nat.le_refl _)]
  have : ¬ rounds f.length p * p < f.length := fun h => Nat.lt_irrefl _ (rounds_lt f.length p hp _ h)
  rw [show min f.length (rounds f.length p * p) = f.length by omega]

theorem wrap64_nat (u : Nat) (h : u ≤ 1000000000) : wrap64 (u : Int) = (u : Int) := wrap64_of (by omega) (by omega)
theorem tdiv_nat (a b : Nat) : Int.tdiv (a : Int) (b : Int) = ((a / b : Nat) : Int) := rfl
theorem all_W (f : List Bool) (p j : Nat) (hp : 0 < p) : (decide (j * p + p ≤ f.length) && (pt f p j).all id) = W f p j := by
  unfold W
  have h1 : ((pt f p j).length = p) ↔ j * p + p ≤ f.length := by rw [pt_len]; omega
  have h2 : (pt f p j).all id = !((pt f p j).contains false) := by
    rw [Bool.eq_iff_iff]
    simp [List.all_eq_true]
  rw [h2]
  congr 1
  exact decide_eq_decide.mpr h1.symm

theorem l1_go (k : Nat) (x0 : Int) (x7 : List Bool) (x8 x9 x10 : Int) (w : Bool) (x12 : Int) (h : x12 < x8) : paviorref19_Broken.l1 (k + 1) x0 x7 x8 x9 x10 w x12 = paviorref19_Broken.j2 k x0 x7 x8 x9 x10 w x12 w := by
  simp only [paviorref19_Broken.l1]
  rw [if_pos h]
theorem l1_end (k : Nat) (x0 : Int) (x7 : List Bool) (x8 x9 x10 : Int) (w : Bool) (x12 : Int) (h : ¬ x12 < x8) : paviorref19_Broken.l1 (k + 1) x0 x7 x8 x9 x10 w x12 = paviorref19_Broken.j2 k x0 x7 x8 x9 x10 w x12 false := by
  simp only [paviorref19_Broken.l1]
  rw [if_neg h]
theorem j2_true (k : Nat) (x0 : Int) (x7 : List Bool) (x8 x9 x10 : Int) (w : Bool) (x12 z y : Int) (h8 : ¬ x8 = 0) (hz : wrap64 ((wrap64 ((wrap64 (Int.tdiv x10 x8)) * x8)) + x12) = z) (h0 : 0 ≤ z) (h1 : z < (x7.length : Int)) (hy : wrap64 (x12 + 1) = y) :
    paviorref19_Broken.j2 (k + 1) x0 x7 x8 x9 x10 w x12 true = paviorref19_Broken.l1 k x0 x7 x8 x9 x10 (rdOf false x7 z) y := by
  simp only [paviorref19_Broken.j2]
  rw [if_pos trivial, if_neg h8, hz, hy, if_pos h0, if_pos h1]
theorem j2_false (k : Nat) (x0 : Int) (x7 : List Bool) (x8 x9 x10 : Int) (w : Bool) (x12 : Int) (h0 : 0 ≤ x10) (h1 : x10 < (x7.length : Int)) :
    paviorref19_Broken.j2 (k + 1) x0 x7 x8 x9 x10 w x12 false = paviorref19_Broken.j3 k x0 x7 x8 x9 x10 (rdOf false x7 x10 && !w) := by
  simp only [paviorref19_Broken.j2]
  rw [if_neg Bool.false_ne_true, if_pos h0, if_pos h1]
  cases rdOf false x7 x10
  · rw [if_neg Bool.false_ne_true]; rfl
  · rw [if_pos rfl]; rfl
theorem j3_true (k : Nat) (x0 : Int) (x7 : List Bool) (x8 x9 x10 y z : Int) (hy : wrap64 (x9 + 1) = y) (hz : wrap64 (x10 + 1) = z) : paviorref19_Broken.j3 (k + 1) x0 x7 x8 x9 x10 true = paviorref19_Broken.l0 k x0 x7 x8 y z := by
  simp only [paviorref19_Broken.j3]
  rw [if_pos trivial, hy, hz]
theorem j3_false (k : Nat) (x0 : Int) (x7 : List Bool) (x8 x9 x10 z : Int) (hz : wrap64 (x10 + 1) = z) : paviorref19_Broken.j3 (k + 1) x0 x7 x8 x9 x10 false = paviorref19_Broken.l0 k x0 x7 x8 x9 z := by
  simp only [paviorref19_Broken.j3]
  rw [if_neg Bool.false_ne_true, hz]
theorem l0_go (k : Nat) (x0 : Int) (x7 : List Bool) (x8 x9 x10 : Int) (b : Bool) (h : x10 < x0) (h8 : ¬ x8 = 0) (hb : decide ((wrap64 ((wrap64 ((wrap64 (Int.tdiv x10 x8)) * x8)) + x8)) ≤ x0) = b) : paviorref19_Broken.l0 (k + 1) x0 x7 x8 x9 x10 = paviorref19_Broken.l1 k x0 x7 x8 x9 x10 b 0 := by
  simp only [paviorref19_Broken.l0]
  rw [if_pos h, if_neg h8, hb]
theorem l0_end (k : Nat) (x0 : Int) (x7 : List Bool) (x8 x9 x10 : Int) (h : ¬ x10 < x0) : paviorref19_Broken.l0 (k + 1) x0 x7 x8 x9 x10 = some x9 := by
  simp only [paviorref19_Broken.l0]
  rw [if_neg h]
theorem via {α : Type} {g f : Nat → Option α} {r : α} (h : ∀ k, g (k + 1) = f k) (hf : Ev f r) : Ev g r := Ev.step h hf

theorem ref_inner (f : List Bool) (n p c i r : Int) (a : Nat) (P I : Nat) (hn : n = f.length) (hpp : p = P) (hii : i = I) (hn5 : f.length ≤ 512) (hp : 0 < P) (hp5 : P ≤ 512) (hi : I < f.length) (e2 : wrap64 ((wrap64 (Int.tdiv i p)) * p) = ((a * P : Nat) : Int)) (hq : a * P ≤ I) : ∀ (d m : Nat) (w0 : Bool) (x : Int), x = m → m + d = P → (w0 = true → a * P + P ≤ f.length) →
    Ev (fun k => paviorref19_Broken.j3 k n f p c i (f.getD I false && !(w0 && ((pt f P a).drop m).all id))) r →
    Ev (fun k => paviorref19_Broken.l1 k n f p c i w0 x) r := by
  have ri : rdOf false f i = f.getD I false := by rw [hii]; exact rdOf_nat f I
  have i0 : 0 ≤ i := by omega
  have i1 : i < (f.length : Int) := by omega
  intro d
  induction d with
  | zero =>
    intro m w0 x hx hm hw h
    have e : ((pt f P a).drop m) = [] := List.drop_eq_nil_of_le (by rw [pt_len]; omega)
    rw [e, List.all_nil, Bool.and_true] at h
    refine via (fun k => l1_end k n f p c i w0 x (by omega)) (via (fun k => j2_false k n f p c i w0 x i0 i1) ?_)
    rw [ri]
    exact h
  | succ d ih =>
    intro m w0 x hx hm hw h
    refine via (fun k => l1_go k n f p c i w0 x (by omega)) ?_
    cases w0 with
    | false =>
      refine via (fun k => j2_false k n f p c i false x i0 i1) ?_
      rw [ri]
      rw [Bool.false_and] at h
      exact h
    | true =>
      have hw' := hw rfl
      have hl : m < (pt f P a).length := by rw [pt_len]; omega
      have e3 : wrap64 ((wrap64 ((wrap64 (Int.tdiv i p)) * p)) + x) = ((a * P + m : Nat) : Int) := by
        rw [e2, hx, ← Int.natCast_add]
        exact wrap64_nat _ (by omega)
      have e4 : wrap64 (x + 1) = ((m + 1 : Nat) : Int) := by
        rw [wrap64_of (by omega) (by omega)]
        omega
      have e : ((pt f P a).drop m).all id = (f.getD (a * P + m) false && ((pt f P a).drop (m + 1)).all id) := by
        rw [← pt_getD f P a m hl, List.drop_eq_getElem_cons hl, List.all_cons, List.getD_eq_getElem?_getD, List.getElem?_eq_getElem hl]
        rfl
      rw [e, Bool.true_and] at h
      have h1 := ih (m + 1) (f.getD (a * P + m) false) ((m + 1 : Nat) : Int) rfl (by omega) (fun _ => hw') h
      refine via (fun k => j2_true k n f p c i true x _ _ (by omega) e3 (by omega) (by omega) e4) ?_
      rw [rdOf_nat]
      exact h1

theorem ref_outer (f : List Bool) (n p : Int) (P : Nat) (hn : n = f.length) (hpp : p = P) (hn5 : f.length ≤ 512) (hp : 0 < P) (hp5 : P ≤ 512) (r : Int) (hr : r = ((B f P f.length : Nat) : Int)) : ∀ (d i : Nat) (x y : Int), x = i → y = ((B f P i : Nat) : Int) → i + d = f.length →
    Ev (fun k => paviorref19_Broken.l0 k n f p y x) r := by
  intro d
  induction d with
  | zero =>
    intro i x y hx hy hi
    obtain rfl : i = f.length := by omega
    subst hr
    subst hy
    exact ev_succ (ev_now (fun k => l0_end k n f p _ x (by omega)))
  | succ d ih =>
    intro i x y hx hy hi
    obtain ⟨a, ha⟩ : ∃ a, i / P = a := ⟨_, rfl⟩
    have hq : a * P ≤ i := by rw [← ha]; exact Nat.div_mul_le_self _ _
    have hai : a ≤ i := by rw [← ha]; exact Nat.div_le_self i P
    have hB := B_le f P i
    have e1 : wrap64 (Int.tdiv x p) = ((a : Nat) : Int) := by
      rw [hx, hpp, tdiv_nat, ha]
      exact wrap64_nat _ (Nat.le_trans hai (by omega))
    have e2 : wrap64 ((wrap64 (Int.tdiv x p)) * p) = ((a * P : Nat) : Int) := by
      rw [e1, hpp, ← Int.natCast_mul]
      exact wrap64_nat _ (Nat.le_trans hq (by omega))
    have e3 : wrap64 (wrap64 ((wrap64 (Int.tdiv x p)) * p) + p) = ((a * P + P : Nat) : Int) := by
      rw [e2, hpp, ← Int.natCast_add]
      exact wrap64_nat _ (by omega)
    have e4 : decide (wrap64 (wrap64 ((wrap64 (Int.tdiv x p)) * p) + p) ≤ n) = decide (a * P + P ≤ f.length) := by
      rw [e3]
      exact decide_eq_decide.mpr (by omega)
    have e5 : wrap64 (x + 1) = ((i + 1 : Nat) : Int) := by
      rw [wrap64_of (by omega) (by omega)]
      omega
    have hb : (f.getD i false && !(W f P a)) = bad f P i := by unfold bad; rw [ha]
    have hs := B_succ f P i
    clear ha e1 e3
    refine via (fun k => l0_go k n f p y x _ (by omega) (by omega) e4) ?_
    refine ref_inner f n p y x r a P i hn hpp hx hn5 hp hp5 (by omega) e2 hq P 0 (decide (a * P + P ≤ f.length)) 0 rfl (by omega) (fun h => of_decide_eq_true h) ?_
    rw [List.drop_zero, all_W f P a hp, hb]
    cases hbi : bad f P i with
    | true =>
      rw [hbi, if_pos rfl] at hs
      refine via (fun k => j3_true k n f p y x _ _ rfl e5) ?_
      exact ih (i + 1) _ _ rfl (by rw [hs, hy, wrap64_of (by omega) (by omega)]; omega) (by omega)
    | false =>
      rw [hbi, if_neg Bool.false_ne_true, Nat.add_zero] at hs
      refine via (fun k => j3_false k n f p y x _ e5) ?_
      exact ih (i + 1) _ _ rfl (by omega) (by omega)

end Go.Proofs.Ytlmjjkggoemabaa.ScanBroken
