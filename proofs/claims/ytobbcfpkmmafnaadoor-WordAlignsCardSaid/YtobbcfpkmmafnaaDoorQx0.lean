-- Written by this session's program wip/tools/xprint.py (the kit's printer, turned by it); not the kit's own print.
import Derived.Test.YtobbcfpkmmafnaaDoorProg
import Derived.Below
import Derived.Deep.Draws
import Derived.Deep.AppendLies
import Derived.Maps.AppendAt
import Derived.OwnWalk
import Derived.Laws.BytesArg
import Derived.Laws.MakeOwn
import Derived.Laws.OwnMore
import Derived.Deep.OwnRows
import Derived.Tactics
import Derived.Lib.ConvBytes
import Derived.Laws.Slices
import Derived.WalkKit
import Derived.KernelRfl
import Derived.RowKit3
import Derived.Deep.LoopGhost
import Derived.Deep.QuietTactic
import Derived.BigQuiet
import Derived.WideLaws
import Derived.Deep.DeepCutAuto
import Derived.Deep.CutBlock
import Derived.Deep.RegionHeld3
import Derived.Laws.Rows
import Derived.Lib.AppendStr
import Derived.ArgAppend
import Derived.Laws.IdiomCopy
import Derived.OrdersHeld
import Derived.Laws.BitsLemmas
import Derived.RowKit
import Derived.Test.YtobbcfpkmmafnaaDoorHLen64
import Derived.Test.YtobbcfpkmmafnaaDoorWWords
import Derived.Test.YtobbcfpkmmafnaaDoorWLast
import Derived.Test.YtobbcfpkmmafnaaDoorWTab
import Derived.Test.YtobbcfpkmmafnaaDoorWFour
import Derived.Test.YtobbcfpkmmafnaaDoorWQPut
import Derived.Test.YtobbcfpkmmafnaaDoorWApart
import Derived.Test.YtobbcfpkmmafnaaDoorWArr
import Derived.Test.YtobbcfpkmmafnaaDoorWZeros
import Derived.Test.YtobbcfpkmmafnaaDoorWFoot
import Derived.Test.YtobbcfpkmmafnaaDoorWKept
import Derived.Test.YtobbcfpkmmafnaaDoorWShare
import Derived.Test.YtobbcfpkmmafnaaDoorWN
import Derived.Test.YtobbcfpkmmafnaaDoorWFootNe
import Derived.Test.YtobbcfpkmmafnaaDoorWAt
import Derived.Test.YtobbcfpkmmafnaaDoorWEqStruct
import Derived.Test.YtobbcfpkmmafnaaDoorWRepsOne
import Derived.Test.YtobbcfpkmmafnaaDoorWInv
import Derived.Test.YtobbcfpkmmafnaaDoorWInvWords
import Derived.Test.YtobbcfpkmmafnaaDoorWGuard
import Derived.Test.YtobbcfpkmmafnaaDoorWNEv
import Derived.Test.YtobbcfpkmmafnaaDoorWMore
namespace Go.Proofs.YtobbcfpkmmafnaaDoor.Q
open Go.RowKit Go.Proofs.YtobbcfpkmmafnaaDoorW.PrintWords Go.Proofs.YtobbcfpkmmafnaaDoorW.PrintLast Go.Proofs.YtobbcfpkmmafnaaDoorW.PrintMore
attribute [local go_sem] max2_int min2_int max_two min_two max_three min_three max_four min_four   -- for this text's walks alone
set_option linter.unusedVariables false
set_option linter.unusedSimpArgs false



def errW : Option Int → Value
  | none => .nilIface
  | some c => .iface 30 (.int .i64 c)
theorem errW_none : errW none = .nilIface := rfl
theorem errW_some (c : Int) : errW (some c) = .iface 30 (.int .i64 c) := rfl

/-- the table of math/bits: block 1 -/
def tab64 : List Int := [0, 1, 56, 2, 57, 49, 28, 3, 61, 58, 42, 50, 38, 29, 17, 4, 62, 47, 59, 36, 45, 43, 51, 22, 53, 39, 33, 30, 24, 18, 12, 5, 63, 55, 48, 27, 60, 41, 37, 16, 46, 35, 44, 21, 52, 32, 23, 11, 54, 26, 40, 15, 34, 20, 31, 10, 25, 14, 19, 9, 13, 8, 7, 6]
def Tab (w : World) : Prop := 1 < w.heap.size ∧ ∀ i : Nat, i < 64 → w.cell? ⟨1, i, none⟩ = some (.int .u8 (tab64.getD i 0))
theorem tab_below {w w' : World} (h : Tab w) (hb : Below w.heap.size w w') : Tab w' :=
  ⟨Nat.lt_of_lt_of_le h.1 hb.size, fun i hi => (hb.cell (p := ⟨1, i, none⟩) h.1).trans (h.2 i hi)⟩

theorem eqErr_of (P : Program) (d : Nat) (w : World) {ti tn : TypeId} {ms : Array (String × TypeId)} {i : TypeInfo} (a b : Int) (hi : P.underlying ti = some (.interface ms)) (hn : P.underlying tn = some (.int .i64)) (hinfo : P.info? tn = some i) (hcomp : i.comparable = true) :
    (Op.equalIn (d + 2) ti (.iface tn (.int .i64 a)) (.iface tn (.int .i64 b))).run P w = .ok (a == b) w := by
  simp [Op.equalIn, run_underlying hi, run_underlying hn, typeInfo, hinfo, hcomp]
theorem eqErr_ofl (P : Program) (d : Nat) (w : World) {ti tn : TypeId} {ms : Array (String × TypeId)} (v : Value) (hi : P.underlying ti = some (.interface ms)) :
    (Op.equalIn (d + 1) ti .nilIface (.iface tn v)).run P w = .ok false w := by simp [Op.equalIn, run_underlying hi]
theorem eqErr_some (w : World) (a b : Int) : (binOp .eql 25 (.iface 30 (.int .i64 a)) (.iface 30 (.int .i64 b))).run Tryd.prog w = .ok (.bool (a == b)) w := by
  simp only [binOp]
  simp [Op.equal, Op.maxDepth, eqErr_of Tryd.prog 9998 w a b Tryd.underlying25 Tryd.underlying30 (i := (Tryd.prog.info? 30).get (by kernel_rfl)) (by kernel_rfl) (by kernel_rfl)]
theorem neErr_some (w : World) (a b : Int) : (binOp .neq 25 (.iface 30 (.int .i64 a)) (.iface 30 (.int .i64 b))).run Tryd.prog w = .ok (.bool (a != b)) w := by
  simp only [binOp]
  simp [Op.equal, Op.maxDepth, eqErr_of Tryd.prog 9998 w a b Tryd.underlying25 Tryd.underlying30 (i := (Tryd.prog.info? 30).get (by kernel_rfl)) (by kernel_rfl) (by kernel_rfl), bne]
theorem eqErr_left (w : World) (b : Int) : (binOp .eql 25 .nilIface (.iface 30 (.int .i64 b))).run Tryd.prog w = .ok (.bool false) w := by
  simp only [binOp]
  simp [Op.equal, Op.maxDepth, eqErr_ofl Tryd.prog 9999 w (tn := 30) (.int .i64 b) Tryd.underlying25]
theorem neErr_left (w : World) (b : Int) : (binOp .neq 25 .nilIface (.iface 30 (.int .i64 b))).run Tryd.prog w = .ok (.bool true) w := by
  simp only [binOp]
  simp [Op.equal, Op.maxDepth, eqErr_ofl Tryd.prog 9999 w (tn := 30) (.int .i64 b) Tryd.underlying25]

theorem info39 : (Tryd.prog.info? 39).map (fun i => (i.zero, i.size, i.bytes)) = some (some (.agg #[(.int .i64 0), (.int .i64 0)]), 2, 16) := by kernel_rfl
-- the values' own types
/-! #### struct type 39 -/
structure S39 where
  f0 : Int
  f1 : Int
def z39 : S39 := ⟨(0 : Int), (0 : Int)⟩
def k39 : Kd S39 := Kd.iso (Kd.pair (Kd.int .i64) (Kd.int .i64)) (fun x : S39 => (x.f0, x.f1))
theorem k39_open {w : World} {x : S39} {cs : List Value} (h : k39.K w x cs) : cs = [.int .i64 x.f0, .int .i64 x.f1] := by
  obtain ⟨_, _, rfl, rfl, rfl⟩ := h
  exact rfl
theorem k39_openM {w : World} {base : Nat} {ok : Nat → Prop} {x : S39} {cs : List Value} (h : k39.M w base ok x cs) : cs = [.int .i64 x.f0, .int .i64 x.f1] := by
  obtain ⟨_, _, rfl, rfl, rfl⟩ := h
  exact rfl
theorem k39_mk (w : World) (x : S39)  : k39.K w x [.int .i64 x.f0, .int .i64 x.f1] := ⟨[.int .i64 x.f0], [.int .i64 x.f1], rfl, rfl, rfl⟩
theorem k39_mkM (w : World) (base : Nat) (ok : Nat → Prop) (x : S39)  : k39.M w base ok x [.int .i64 x.f0, .int .i64 x.f1] := ⟨[.int .i64 x.f0], [.int .i64 x.f1], rfl, rfl, rfl⟩
def rd_T39 (xs : List S39) (i : Int) : S39 := xs.getD i.toNat z39
theorem at_T39 {w : World} {A : Option Addr} {n : Nat} {xs : List S39} (h : Kd.C k39 w A n xs) (i : Int) (h0 : 0 ≤ i) (h1 : i < n) : ∃ ad , A = some ad ∧ w.cell? (ad.add (i.toNat * 2)) = some (.int .i64 (rd_T39 xs i).f0) ∧ w.cell? ⟨(ad.add (i.toNat * 2)).block, (ad.add (i.toNat * 2)).off + 1, none⟩ = some (.int .i64 (rd_T39 xs i).f1) := by
  obtain ⟨ad, c, e, _, hK, hc0⟩ := Kd.C_get h z39 i h0 h1
  have hc : ∀ j u, c[j]? = some u → w.cell? (ad.add (i.toNat * 2 + j)) = some u := hc0
  obtain rfl := k39_open hK
  exact ⟨ad, e, hc 0 _ rfl, by rw [← add_field _ _ 1 (by omega)]; exact hc 1 _ rfl⟩

end Go.Proofs.YtobbcfpkmmafnaaDoor.Q
