
import Derived.Test.YtmjnenjeckeklaaWKept
set_option linter.unusedSimpArgs false
namespace Go.Proofs.YtmjnenjeckeklaaW.PrintWords
open Go.RowKit
def vp (P : World → Prop) (W : World) (ok : Nat → Prop) : Prop := ∀ W' : World, (∀ k, ok k → k < W.heap.size → W'.heap[k]? = W.heap[k]?) → P W'
theorem OM {W W1 : World} {k : Nat} (h : W1.heap[k]? = W.heap[k]?) (hlt : k < W.heap.size) : k < W1.heap.size := by
 rw [cV hlt] at h; exact (ck.1 h).1
namespace vp
variable {P Q : World → Prop} {W W1 : World} {ok ok' : Nat → Prop}
theorem now (h : vp P W ok) : P W := h W (fun _ _ _ => rfl)
theorem mono (h : vp P W ok) (hok : ∀ k, ok k → ok' k) : vp P W ok' := fun W' hW => h W' (fun k hk hlt => hW k (hok k hk) hlt)
theorem bound (h : vp P W ok) : vp P W (fun k => ok k ∧ k < W.heap.size) := fun W' hW => h W' (fun k hk hlt => hW k ⟨hk, hlt⟩ hlt)
theorem step (h : vp P W ok) (hm : ∀ k, ok k → k < W.heap.size → W1.heap[k]? = W.heap[k]?) : vp P W1 ok := fun W' hW => h W' (fun k hk hlt => (hW k hk (OM (hm k hk hlt) hlt)).trans (hm k hk hlt))
end vp
namespace Kd
def F {α : Type} (d : Kd α) (W : World) (ok : Nat → Prop) (A : Option Addr) (n : Nat) (xs : List α) : Prop := vp (fun W => d.C W A n xs) W ok
def FK {α : Type} (d : Kd α) (W : World) (ok : Nat → Prop) (x : α) (c : List Value) : Prop := vp (fun W => d.K W x c) W ok
section
variable {α β : Type} {d : Kd α} {e base n n' cc g N : Nat} {ok ok' okp S : Nat → Prop} {w w0 w1 W W1 : World} {A A' : Option Addr} {u v v1 : Value} {xs : List α} {xs' : List β} {d' : Kd β} {x : α} {c : List Value}
theorem Td (d : Kd α) (W : World) (ok : Nat → Prop) : F d W ok none ([] : List α).length [] := fun W' _ => Vb d W'
theorem PR (h : d.R e W base ok (.slice A n cc) xs) : F d W ok A n xs := fun W' hW => by
  have h2 := jO (zk h hW)
  rw [h2.1]
  exact h2.2.2
theorem FV (h : FK d W ok x c) : d.K W x c := vp.now h
theorem CM (h : FK d W ok x c) (hok : ∀ k, ok k → ok' k) : FK d W ok' x c := vp.mono h hok
theorem D9 (h : FK d W ok x c) : FK d W (fun k => ok k ∧ k < W.heap.size) x c := vp.bound h
theorem HF (h : FK d W ok x c) (hm : ∀ k, ok k → k < W.heap.size → W1.heap[k]? = W.heap[k]?) : FK d W1 ok x c := vp.step h hm
theorem N4 (h : d.M W base ok x c) : FK d W ok x c := fun _ hW => d.K_of_M (L4 h hW)
end
end Kd
end Go.Proofs.YtmjnenjeckeklaaW.PrintWords
