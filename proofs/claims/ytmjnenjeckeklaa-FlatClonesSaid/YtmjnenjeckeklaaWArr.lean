
import Derived.Test.YtmjnenjeckeklaaWWords
set_option linter.unusedSimpArgs false
namespace Go.Proofs.YtmjnenjeckeklaaW.PrintWords
open Go.RowKit
namespace Kd
theorem KR {α : Type} {R : α → List Value → Prop} {size : Nat} {ps : List α} {cs : List Value} (h : jj R size ps cs) (hs0 : 0 < size) (hR : ∀ p c, R p c → ∀ u ∈ c, u.oneCell' = true) : ∀ u ∈ cs, u.oneCell' = true := by
 intro u hu; obtain ⟨q, hq, rfl⟩ := List.mem_iff_getElem.1 hu
 have hql : q / size < ps.length := by
  rw [fM hs0, ← h.1]; exact hq
 refine hR _ _ (h.2 (q / size) _ (aA hql)) _ ?_; rw [eP]; refine ⟨q % size, ?_⟩; rw [bP, aj (Nat.mod_lt _ hs0), bL, fA, fF, aA hq]
section
variable {α : Type} {n : Nat} {d : Kd α} {hs : 0 < d.sz} {w : World} {base : Nat} {ok : Nat → Prop} {xs : List α} {cs : List Value}
end
section
variable {α : Type} {n : Nat} {enc : α → Value} {h1 : ∀ x, (enc x).oneCell' = true} {hs : 0 < (scalar enc h1).sz} {w : World} {base : Nat} {ok : Nat → Prop} {xs : List α} {cs : List Value}
end
end Kd
end Go.Proofs.YtmjnenjeckeklaaW.PrintWords
