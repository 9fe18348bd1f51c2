
import Derived.Test.YtmjnenjeckeklaaWKept
namespace Go.Proofs.YtmjnenjeckeklaaW.PrintWords
open Go.RowKit
def oN (P : World → Prop) (W : World) (ok : Nat → Prop) : Prop := ∀ W' : World, (∀ k, ok k → k < W.heap.size → W'.heap[k]? = W.heap[k]?) → P W'
theorem JB {W W1 : World} {k : Nat} (h : W1.heap[k]? = W.heap[k]?) (hlt : k < W.heap.size) : k < W1.heap.size := by
 rw [Array.getElem?_eq_getElem hlt] at h; exact (Array.getElem?_eq_some_iff.1 h).1
namespace oN
variable {P Q : World → Prop} {W W1 : World} {ok ok' : Nat → Prop}
theorem now (h : oN P W ok) : P W := h W (fun _ _ _ => rfl)
theorem mono (h : oN P W ok) (hok : ∀ k, ok k → ok' k) : oN P W ok' := fun W' hW => h W' (fun k hk hlt => hW k (hok k hk) hlt)
theorem bound (h : oN P W ok) : oN P W (fun k => ok k ∧ k < W.heap.size) := fun W' hW => h W' (fun k hk hlt => hW k ⟨hk, hlt⟩ hlt)
theorem step (h : oN P W ok) (hm : ∀ k, ok k → k < W.heap.size → W1.heap[k]? = W.heap[k]?) : oN P W1 ok := fun W' hW => h W' (fun k hk hlt => (hW k hk (JB (hm k hk hlt) hlt)).trans (hm k hk hlt))
end oN
namespace Kd
def F {α : Type} (d : Kd α) (W : World) (ok : Nat → Prop) (A : Option Addr) (n : Nat) (xs : List α) : Prop := oN (fun W => d.C W A n xs) W ok
def FK {α : Type} (d : Kd α) (W : World) (ok : Nat → Prop) (x : α) (c : List Value) : Prop := oN (fun W => d.K W x c) W ok
section
variable {α β : Type} {d : Kd α} {e base n n' cc g N : Nat} {ok ok' okp S : Nat → Prop} {w w0 w1 W W1 : World} {A A' : Option Addr} {u v v1 : Value} {xs : List α} {xs' : List β} {d' : Kd β} {x : α} {c : List Value}
theorem Oa (d : Kd α) (W : World) (ok : Nat → Prop) : F d W ok none ([] : List α).length [] := fun W' _ => P3 d W'
theorem KG (h : d.R e W base ok (.slice A n cc) xs) : F d W ok A n xs := fun W' hW => by
  have h2 := dm (sW h hW)
  rw [h2.1]
  exact h2.2.2
theorem AT (h : FK d W ok x c) : d.K W x c := oN.now h
theorem xq (h : FK d W ok x c) (hok : ∀ k, ok k → ok' k) : FK d W ok' x c := oN.mono h hok
theorem zg (h : FK d W ok x c) : FK d W (fun k => ok k ∧ k < W.heap.size) x c := oN.bound h
theorem Co (h : FK d W ok x c) (hm : ∀ k, ok k → k < W.heap.size → W1.heap[k]? = W.heap[k]?) : FK d W1 ok x c := oN.step h hm
theorem I0 (h : d.M W base ok x c) : FK d W ok x c := fun _ hW => d.K_of_M (Gw h hW)
end
end Kd
end Go.Proofs.YtmjnenjeckeklaaW.PrintWords
