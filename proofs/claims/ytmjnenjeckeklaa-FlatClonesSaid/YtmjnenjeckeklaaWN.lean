
import Derived.Test.YtmjnenjeckeklaaWShare
import Derived.Test.YtmjnenjeckeklaaWZeros
set_option linter.unusedSimpArgs false
namespace Go.Proofs.YtmjnenjeckeklaaW.PrintWords
open Go.RowKit
namespace Kd
def chunks (sz : Nat) (n : Nat) (inner : List Value) : List (List Value) := (List.range n).map fun j => (inner.drop (j * sz)).take sz
theorem kU (sz n : Nat) (inner : List Value) : (chunks sz n inner).length = n := by simp [chunks]
theorem I9 {sz n : Nat} {inner : List Value} {j : Nat} (hj : j < n) : (chunks sz n inner)[j]? = some ((inner.drop (j * sz)).take sz) := by simp [chunks, hj]
theorem vl {sz n : Nat} {inner : List Value} {j : Nat} {c : List Value} (h : (chunks sz n inner)[j]? = some c) : c = (inner.drop (j * sz)).take sz := by
 have hj : j < n := by have := (br.1 h).1; rwa [kU] at this
 rw [I9 hj] at h; injection h with h; exact h.symm
theorem D8 {α : Type} {Rr : α → List Value → Prop} {sz : Nat} {xs : List α} {inner : List Value} (h : jj Rr sz xs inner) (hR : ∀ x c, Rr x c → c.length = sz ∧ ∀ u ∈ c, u.oneCell' = true) : jj (fun x cs => cs = x ∧ cs.length = sz ∧ ∀ u ∈ cs, u.oneCell' = true) sz (chunks sz xs.length inner) inner := by
 refine ⟨by rw [kU]; exact h.1, fun j p hj => ?_⟩; have hjl : j < xs.length := by have := (br.1 hj).1; rwa [kU] at this
 have hp := vl hj; exact ⟨hp.symm, hR _ _ (h.2 j _ (aA hjl))⟩
section
variable {α : Type} {d : Kd α} {e base n cc g : Nat} {ok ok' okp S : Nat → Prop} {w w1 W W1 : World} {A : Option Addr} {u v v1 : Value} {xs : List α} {x : α} {c : List Value}
def N {α : Type} (d : Kd α) (e : Nat) (w : World) (base : Nat) (ok : Nat → Prop) (v : Value) (xs : List α) : Prop :=
  (∀ k, v.ownBlock = some k → ok k) ∧ ∃ rows : List (List Value), rows.length = xs.length ∧ (raw d.sz).R e w base (fun k => some k = v.ownBlock) v rows ∧ ∀ (j : Nat) (x : α) (c : List Value), xs[j]? = some x → rows[j]? = some c → FK d w (fun k => ok k ∧ some k ≠ v.ownBlock) x c
theorem Ja {sz : Nat} {rows : List (List Value)} (h : (raw sz).R e w base ok v rows) : (raw sz).R e w base (fun k => some k = v.ownBlock) v rows := yy rfl h
theorem R_N (h : d.R e w base ok v xs) : N d e w base ok v xs := by
 obtain ⟨h0, inner, ho, hr⟩ := h; refine ⟨h0, chunks d.sz xs.length inner, kU _ _ _, ⟨fun k hk => hk.symm, inner, by rw [kU]; exact ho, D8 hr (fun x c hp => ⟨d.K_len (d.K_of_M hp), d.K_one (d.K_of_M hp)⟩)⟩, fun j x c hx hc => ?_⟩; rw [vl hc]; exact N4 (hr.2 j x hx)
theorem uG (d : Kd α) (e : Nat) (w : World) (base : Nat) (ok : Nat → Prop) : N d e w base ok (.slice none 0 0) [] := R_N (qa _ _ _ _ _)
theorem Ra (h : N d e w base ok v xs) (hok : ∀ k, ok k → ok' k) : N d e w base ok' v xs := by
 obtain ⟨h0, rows, hl, hR, hf⟩ := h; exact ⟨fun k hk => hok k (h0 k hk), rows, hl, hR, fun j x c hx hc => CM (hf j x c hx hc) (fun k hk => ⟨hok k hk.1, hk.2⟩)⟩
theorem YS (h : N d e w base ok v xs) : ∀ k, v.ownBlock = some k → k < w.heap.size := by
 obtain ⟨_, rows, _, hR, _⟩ := h; exact u7 hR
theorem N5 (h : N d e w base ok v xs) : N d e w base (fun k => ok k ∧ k < w.heap.size) v xs := by
 have hlt := YS h; obtain ⟨h0, rows, hl, hR, hf⟩ := h; exact ⟨fun k hk => ⟨h0 k hk, hlt k hk⟩, rows, hl, hR, fun j x c hx hc => CM (D9 (hf j x c hx hc)) (fun k hk => ⟨⟨hk.1.1, hk.2⟩, hk.1.2⟩)⟩
theorem CN {base' : Nat} (h : N d e w base ok v xs) (hb : base' ≤ base) : N d e w base' ok v xs := by
 obtain ⟨h0, rows, hl, hR, hf⟩ := h; exact ⟨h0, rows, hl, kQ hR hb, hf⟩
theorem Rb (h : N d e w base ok v xs) (hm : ∀ k, ok k → k < w.heap.size → w1.heap[k]? = w.heap[k]?) : N d e w1 base ok v xs := by
 obtain ⟨h0, rows, hl, hR, hf⟩ := h; exact ⟨h0, rows, hl, zk hR (fun k hk hlt => hm k (h0 k hk.symm) hlt), fun j x c hx hc => HF (hf j x c hx hc) (fun k hk hlt => hm k hk.1 hlt)⟩
theorem yC (h : N d e w base ok v xs) (hb : Below w.heap.size w w1) : N d e w1 base ok v xs := Rb h (fun k _ hk => hb.block k hk)
theorem CO (h : N d e w base ok v xs) (o : Obj) : N d e (w.alloc o) base ok v xs := yC h (ga (Below.refl _ _) o)
theorem FU (h : N d e w base ok v xs) : N d e w.drew base ok v xs := yC h (vm (Below.refl _ _))
theorem yD (h : N d e w base ok v xs) (m : Nat) : N d e (w.drewN m) base ok v xs := yC h (fY (Below.refl _ _) m)
theorem zT (h : N d e W base ok v xs) (hbase : ∀ k, u.ownBlock = some k → W.heap.size ≤ k) (hb : Below W.heap.size W w1) : N d e w1 base (fun k => ok k ∧ some k ≠ u.ownBlock) v xs :=
  Ra (yC (N5 h) hb) (fun k hk => ⟨hk.1, fun he => by have := hbase k he.symm; have := hk.2; omega⟩)
theorem CP (h : N d e w base ok v xs) : ∃ A c, v = .slice A xs.length c := by
 obtain ⟨_, rows, hl, hR, _⟩ := h; obtain ⟨A, c, he⟩ := kO hR; exact ⟨A, c, by rw [he, hl]⟩
theorem rj {n c : Nat} (h : N d e w base ok (.slice A n c) xs) : n = xs.length ∧ n ≤ c ∧ d.C w A xs.length xs := by
 obtain ⟨_, rows, hl, hR, hf⟩ := h; obtain ⟨hn, hc, hC⟩ := jO hR; refine ⟨by omega, hc, ?_⟩; rw [hl] at hC; refine ⟨rfl, hC.2.1, fun hp => ?_⟩; obtain ⟨ad, he, hcell⟩ := hC.2.2 hp; refine ⟨ad, he, fun j p hj => ?_⟩; have hjl : j < rows.length := by have := (br.1 hj).1; omega
 obtain ⟨c', hcl, hK, hcc⟩ := hcell j _ (aA hjl); have hk := FV (hf j p _ hj (aA hjl)); refine ⟨c', hcl, ?_, hcc⟩; rw [show c' = rows[j] from hK.1]; exact hk
end
end Kd
end Go.Proofs.YtmjnenjeckeklaaW.PrintWords
