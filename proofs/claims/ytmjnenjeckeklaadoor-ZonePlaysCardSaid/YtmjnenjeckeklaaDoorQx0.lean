
import Derived.Test.YtmjnenjeckeklaaDoorProg
import Derived.Below
import Derived.Deep.Draws
import Derived.Deep.AppendLies
import Derived.Maps.AppendAt
import Derived.OwnWalk
import Derived.Laws.BytesArg
import Derived.Laws.MakeOwn
import Derived.Laws.OwnMore
import Derived.Deep.OwnRows
import Derived.Tactics
import Derived.Lib.ConvBytes
import Derived.Laws.Slices
import Derived.WalkKit
import Derived.KernelRfl
import Derived.RowKit3
import Derived.Deep.LoopGhost
import Derived.Deep.QuietTactic
import Derived.BigQuiet
import Derived.WideLaws
import Derived.Deep.DeepCutAuto
import Derived.Deep.CutBlock
import Derived.Deep.RegionHeld3
import Derived.Laws.Rows
import Derived.Lib.AppendStr
import Derived.ArgAppend
import Derived.Laws.IdiomCopy
import Derived.OrdersHeld
import Derived.Laws.BitsLemmas
import Derived.RowKit
import Derived.Test.YtmjnenjeckeklaaDoorHLen64
import Derived.Test.YtmjnenjeckeklaaDoorWWords
import Derived.Test.YtmjnenjeckeklaaDoorWLast
import Derived.Test.YtmjnenjeckeklaaDoorWQPut
import Derived.Test.YtmjnenjeckeklaaDoorWApart
import Derived.Test.YtmjnenjeckeklaaDoorWArr
import Derived.Test.YtmjnenjeckeklaaDoorWZeros
import Derived.Test.YtmjnenjeckeklaaDoorWFoot
import Derived.Test.YtmjnenjeckeklaaDoorWKept
import Derived.Test.YtmjnenjeckeklaaDoorWShare
import Derived.Test.YtmjnenjeckeklaaDoorWN
import Derived.Test.YtmjnenjeckeklaaDoorWRepsOne
import Derived.Test.YtmjnenjeckeklaaDoorWNEv
import Derived.Test.YtmjnenjeckeklaaDoorWMore
namespace Go.Proofs.YtmjnenjeckeklaaDoor.Q
open Go.RowKit Go.Proofs.YtmjnenjeckeklaaDoorW.PrintWords Go.Proofs.YtmjnenjeckeklaaDoorW.PrintLast Go.Proofs.YtmjnenjeckeklaaDoorW.PrintMore
attribute [local go_sem] max2_int min2_int max_two min_two max_three min_three max_four min_four
set_option linter.unusedVariables false
set_option linter.unusedSimpArgs false
def errW : Option Int → Value
  | none => .nilIface
  | some c => .iface 0 (.int .i64 c)
theorem errW_none : errW none = .nilIface := rfl
theorem errW_some (c : Int) : errW (some c) = .iface 0 (.int .i64 c) := rfl
def tab64 : List Int := [0, 1, 56, 2, 57, 49, 28, 3, 61, 58, 42, 50, 38, 29, 17, 4, 62, 47, 59, 36, 45, 43, 51, 22, 53, 39, 33, 30, 24, 18, 12, 5, 63, 55, 48, 27, 60, 41, 37, 16, 46, 35, 44, 21, 52, 32, 23, 11, 54, 26, 40, 15, 34, 20, 31, 10, 25, 14, 19, 9, 13, 8, 7, 6]
def Tab (w : World) : Prop := 1 < w.heap.size ∧ ∀ i : Nat, i < 64 → w.cell? ⟨1, i, none⟩ = some (.int .u8 (tab64.getD i 0))
theorem tab_below {w w' : World} (h : Tab w) (hb : Below w.heap.size w w') : Tab w' :=
  ⟨Nat.lt_of_lt_of_le h.1 hb.size, fun i hi => (hb.cell (p := ⟨1, i, none⟩) h.1).trans (h.2 i hi)⟩
end Go.Proofs.YtmjnenjeckeklaaDoor.Q
