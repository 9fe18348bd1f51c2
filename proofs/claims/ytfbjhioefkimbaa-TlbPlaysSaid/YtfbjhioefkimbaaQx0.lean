-- Written by this session's program wip/tools/xprint.py (the kit's printer, turned by it); not the kit's own print.
import Derived.Test.YtfbjhioefkimbaaProg
import Derived.Below
import Derived.Deep.Draws
import Derived.Deep.AppendLies
import Derived.Maps.AppendAt
import Derived.OwnWalk
import Derived.Laws.BytesArg
import Derived.Laws.MakeOwn
import Derived.Laws.OwnMore
import Derived.Deep.OwnRows
import Derived.Tactics
import Derived.Lib.ConvBytes
import Derived.Laws.Slices
import Derived.WalkKit
import Derived.KernelRfl
import Derived.RowKit3
import Derived.Deep.LoopGhost
import Derived.Deep.QuietTactic
import Derived.BigQuiet
import Derived.WideLaws
import Derived.Deep.DeepCutAuto
import Derived.Deep.CutBlock
import Derived.Deep.RegionHeld3
import Derived.Laws.Rows
import Derived.Lib.AppendStr
import Derived.ArgAppend
import Derived.Laws.IdiomCopy
import Derived.OrdersHeld
import Derived.Laws.BitsLemmas
import Derived.RowKit
import Derived.Test.YtfbjhioefkimbaaWWords
import Derived.Test.YtfbjhioefkimbaaWLast
import Derived.Test.YtfbjhioefkimbaaWQPut
import Derived.Test.YtfbjhioefkimbaaWApart
import Derived.Test.YtfbjhioefkimbaaWArr
import Derived.Test.YtfbjhioefkimbaaWZeros
import Derived.Test.YtfbjhioefkimbaaWFoot
import Derived.Test.YtfbjhioefkimbaaWKept
import Derived.Test.YtfbjhioefkimbaaWShare
import Derived.Test.YtfbjhioefkimbaaWN
import Derived.Test.YtfbjhioefkimbaaWRepsOne
import Derived.Test.YtfbjhioefkimbaaWNEv
import Derived.Test.YtfbjhioefkimbaaWMore
namespace Go.Proofs.Ytfbjhioefkimbaa.Q
open Go.RowKit Go.Proofs.YtfbjhioefkimbaaW.PrintWords Go.Proofs.YtfbjhioefkimbaaW.PrintLast Go.Proofs.YtfbjhioefkimbaaW.PrintMore
attribute [local go_sem] max2_int min2_int max_two min_two max_three min_three max_four min_four   -- for this text's walks alone
set_option linter.unusedVariables false
set_option linter.unusedSimpArgs false



def errW : Option Int → Value
  | none => .nilIface
  | some c => .iface 48 (.int .i64 c)
theorem errW_none : errW none = .nilIface := rfl
theorem errW_some (c : Int) : errW (some c) = .iface 48 (.int .i64 c) := rfl

theorem eqErr_of (P : Program) (d : Nat) (w : World) {ti tn : TypeId} {ms : Array (String × TypeId)} {i : TypeInfo} (a b : Int) (hi : P.underlying ti = some (.interface ms)) (hn : P.underlying tn = some (.int .i64)) (hinfo : P.info? tn = some i) (hcomp : i.comparable = true) :
    (Op.equalIn (d + 2) ti (.iface tn (.int .i64 a)) (.iface tn (.int .i64 b))).run P w = .ok (a == b) w := by
  simp [Op.equalIn, run_underlying hi, run_underlying hn, typeInfo, hinfo, hcomp]
theorem eqErr_ofl (P : Program) (d : Nat) (w : World) {ti tn : TypeId} {ms : Array (String × TypeId)} (v : Value) (hi : P.underlying ti = some (.interface ms)) :
    (Op.equalIn (d + 1) ti .nilIface (.iface tn v)).run P w = .ok false w := by simp [Op.equalIn, run_underlying hi]
theorem eqErr_some (w : World) (a b : Int) : (binOp .eql 27 (.iface 48 (.int .i64 a)) (.iface 48 (.int .i64 b))).run Try.prog w = .ok (.bool (a == b)) w := by
  simp only [binOp]
  simp [Op.equal, Op.maxDepth, eqErr_of Try.prog 9998 w a b Try.underlying27 Try.underlying48 (i := (Try.prog.info? 48).get (by kernel_rfl)) (by kernel_rfl) (by kernel_rfl)]
theorem neErr_some (w : World) (a b : Int) : (binOp .neq 27 (.iface 48 (.int .i64 a)) (.iface 48 (.int .i64 b))).run Try.prog w = .ok (.bool (a != b)) w := by
  simp only [binOp]
  simp [Op.equal, Op.maxDepth, eqErr_of Try.prog 9998 w a b Try.underlying27 Try.underlying48 (i := (Try.prog.info? 48).get (by kernel_rfl)) (by kernel_rfl) (by kernel_rfl), bne]
theorem eqErr_left (w : World) (b : Int) : (binOp .eql 27 .nilIface (.iface 48 (.int .i64 b))).run Try.prog w = .ok (.bool false) w := by
  simp only [binOp]
  simp [Op.equal, Op.maxDepth, eqErr_ofl Try.prog 9999 w (tn := 48) (.int .i64 b) Try.underlying27]
theorem neErr_left (w : World) (b : Int) : (binOp .neq 27 .nilIface (.iface 48 (.int .i64 b))).run Try.prog w = .ok (.bool true) w := by
  simp only [binOp]
  simp [Op.equal, Op.maxDepth, eqErr_ofl Try.prog 9999 w (tn := 48) (.int .i64 b) Try.underlying27]

-- the values' own types
/-! #### struct type 30 -/
structure S30 where
  f0 : Int
  f1 : Int
  f2 : Int
  f3 : Int
  f4 : Bool
  f5 : Bool
def z30 : S30 := ⟨(0 : Int), (0 : Int), (0 : Int), (0 : Int), false, false⟩
end Go.Proofs.Ytfbjhioefkimbaa.Q
