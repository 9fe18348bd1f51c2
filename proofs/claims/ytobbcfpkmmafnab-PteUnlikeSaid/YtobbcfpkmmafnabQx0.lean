-- Written by this session's program wip/tools/xprint.py (the kit's printer, turned by it); not the kit's own print.
import Derived.Test.YtobbcfpkmmafnabProg
import Derived.Below
import Derived.Deep.Draws
import Derived.Deep.AppendLies
import Derived.Maps.AppendAt
import Derived.OwnWalk
import Derived.Laws.BytesArg
import Derived.Laws.MakeOwn
import Derived.Laws.OwnMore
import Derived.Deep.OwnRows
import Derived.Tactics
import Derived.Lib.ConvBytes
import Derived.Laws.Slices
import Derived.WalkKit
import Derived.KernelRfl
import Derived.RowKit3
import Derived.Deep.LoopGhost
import Derived.Deep.QuietTactic
import Derived.BigQuiet
import Derived.WideLaws
import Derived.Deep.DeepCutAuto
import Derived.Deep.CutBlock
import Derived.Deep.RegionHeld3
import Derived.Laws.Rows
import Derived.Lib.AppendStr
import Derived.ArgAppend
import Derived.Laws.IdiomCopy
import Derived.OrdersHeld
import Derived.Laws.BitsLemmas
import Derived.RowKit
import Derived.Test.YtobbcfpkmmafnabWWords
import Derived.Test.YtobbcfpkmmafnabWLast
import Derived.Test.YtobbcfpkmmafnabWTab
import Derived.Test.YtobbcfpkmmafnabWFour
import Derived.Test.YtobbcfpkmmafnabWQPut
import Derived.Test.YtobbcfpkmmafnabWApart
import Derived.Test.YtobbcfpkmmafnabWArr
import Derived.Test.YtobbcfpkmmafnabWZeros
import Derived.Test.YtobbcfpkmmafnabWFoot
import Derived.Test.YtobbcfpkmmafnabWKept
import Derived.Test.YtobbcfpkmmafnabWShare
import Derived.Test.YtobbcfpkmmafnabWN
import Derived.Test.YtobbcfpkmmafnabWFootNe
import Derived.Test.YtobbcfpkmmafnabWAt
import Derived.Test.YtobbcfpkmmafnabWEqStruct
import Derived.Test.YtobbcfpkmmafnabWRepsOne
import Derived.Test.YtobbcfpkmmafnabWInv
import Derived.Test.YtobbcfpkmmafnabWInvWords
import Derived.Test.YtobbcfpkmmafnabWGuard
import Derived.Test.YtobbcfpkmmafnabWNEv
import Derived.Test.YtobbcfpkmmafnabWMore
namespace Go.Proofs.Ytobbcfpkmmafnab.Q
open Go.RowKit Go.Proofs.YtobbcfpkmmafnabW.PrintWords Go.Proofs.YtobbcfpkmmafnabW.PrintLast Go.Proofs.YtobbcfpkmmafnabW.PrintMore
attribute [local go_sem] max2_int min2_int max_two min_two max_three min_three max_four min_four   -- for this text's walks alone
set_option linter.unusedVariables false
set_option linter.unusedSimpArgs false



def errW : Option Int → Value
  | none => .nilIface
  | some c => .iface 30 (.int .i64 c)
theorem errW_none : errW none = .nilIface := rfl
theorem errW_some (c : Int) : errW (some c) = .iface 30 (.int .i64 c) := rfl

theorem eqErr_of (P : Program) (d : Nat) (w : World) {ti tn : TypeId} {ms : Array (String × TypeId)} {i : TypeInfo} (a b : Int) (hi : P.underlying ti = some (.interface ms)) (hn : P.underlying tn = some (.int .i64)) (hinfo : P.info? tn = some i) (hcomp : i.comparable = true) :
    (Op.equalIn (d + 2) ti (.iface tn (.int .i64 a)) (.iface tn (.int .i64 b))).run P w = .ok (a == b) w := by
  simp [Op.equalIn, run_underlying hi, run_underlying hn, typeInfo, hinfo, hcomp]
theorem eqErr_ofl (P : Program) (d : Nat) (w : World) {ti tn : TypeId} {ms : Array (String × TypeId)} (v : Value) (hi : P.underlying ti = some (.interface ms)) :
    (Op.equalIn (d + 1) ti .nilIface (.iface tn v)).run P w = .ok false w := by simp [Op.equalIn, run_underlying hi]
theorem eqErr_some (w : World) (a b : Int) : (binOp .eql 27 (.iface 30 (.int .i64 a)) (.iface 30 (.int .i64 b))).run Try.prog w = .ok (.bool (a == b)) w := by
  simp only [binOp]
  simp [Op.equal, Op.maxDepth, eqErr_of Try.prog 9998 w a b Try.underlying27 Try.underlying30 (i := (Try.prog.info? 30).get (by kernel_rfl)) (by kernel_rfl) (by kernel_rfl)]
theorem neErr_some (w : World) (a b : Int) : (binOp .neq 27 (.iface 30 (.int .i64 a)) (.iface 30 (.int .i64 b))).run Try.prog w = .ok (.bool (a != b)) w := by
  simp only [binOp]
  simp [Op.equal, Op.maxDepth, eqErr_of Try.prog 9998 w a b Try.underlying27 Try.underlying30 (i := (Try.prog.info? 30).get (by kernel_rfl)) (by kernel_rfl) (by kernel_rfl), bne]
theorem eqErr_left (w : World) (b : Int) : (binOp .eql 27 .nilIface (.iface 30 (.int .i64 b))).run Try.prog w = .ok (.bool false) w := by
  simp only [binOp]
  simp [Op.equal, Op.maxDepth, eqErr_ofl Try.prog 9999 w (tn := 30) (.int .i64 b) Try.underlying27]
theorem neErr_left (w : World) (b : Int) : (binOp .neq 27 .nilIface (.iface 30 (.int .i64 b))).run Try.prog w = .ok (.bool true) w := by
  simp only [binOp]
  simp [Op.equal, Op.maxDepth, eqErr_ofl Try.prog 9999 w (tn := 30) (.int .i64 b) Try.underlying27]

-- the values' own types
/-! #### struct type 25 -/
structure S25 where
  f0 : Int
  f1 : Int
  f2 : Bool
  f3 : Bool
  f4 : Bool
  f5 : Bool
  f6 : Int
def z25 : S25 := ⟨(0 : Int), (0 : Int), false, false, false, false, (0 : Int)⟩
def k25 : Kd S25 := Kd.iso (Kd.pair (Kd.int .i64) (Kd.pair (Kd.int .i64) (Kd.pair Kd.bool (Kd.pair Kd.bool (Kd.pair Kd.bool (Kd.pair Kd.bool (Kd.int .i64))))))) (fun x : S25 => (x.f0, x.f1, x.f2, x.f3, x.f4, x.f5, x.f6))
theorem k25_open {w : World} {x : S25} {cs : List Value} (h : k25.K w x cs) : cs = [.int .i64 x.f0, .int .i64 x.f1, .bool x.f2, .bool x.f3, .bool x.f4, .bool x.f5, .int .i64 x.f6] := by
  obtain ⟨_, _, rfl, rfl, ⟨_, _, rfl, rfl, ⟨_, _, rfl, rfl, ⟨_, _, rfl, rfl, ⟨_, _, rfl, rfl, ⟨_, _, rfl, rfl, rfl⟩⟩⟩⟩⟩⟩ := h
  exact rfl
theorem k25_openM {w : World} {base : Nat} {ok : Nat → Prop} {x : S25} {cs : List Value} (h : k25.M w base ok x cs) : cs = [.int .i64 x.f0, .int .i64 x.f1, .bool x.f2, .bool x.f3, .bool x.f4, .bool x.f5, .int .i64 x.f6] := by
  obtain ⟨_, _, rfl, rfl, ⟨_, _, rfl, rfl, ⟨_, _, rfl, rfl, ⟨_, _, rfl, rfl, ⟨_, _, rfl, rfl, ⟨_, _, rfl, rfl, rfl⟩⟩⟩⟩⟩⟩ := h
  exact rfl
theorem k25_mk (w : World) (x : S25)  : k25.K w x [.int .i64 x.f0, .int .i64 x.f1, .bool x.f2, .bool x.f3, .bool x.f4, .bool x.f5, .int .i64 x.f6] := ⟨[.int .i64 x.f0], [.int .i64 x.f1, .bool x.f2, .bool x.f3, .bool x.f4, .bool x.f5, .int .i64 x.f6], rfl, rfl, ⟨[.int .i64 x.f1], [.bool x.f2, .bool x.f3, .bool x.f4, .bool x.f5, .int .i64 x.f6], rfl, rfl, ⟨[.bool x.f2], [.bool x.f3, .bool x.f4, .bool x.f5, .int .i64 x.f6], rfl, rfl, ⟨[.bool x.f3], [.bool x.f4, .bool x.f5, .int .i64 x.f6], rfl, rfl, ⟨[.bool x.f4], [.bool x.f5, .int .i64 x.f6], rfl, rfl, ⟨[.bool x.f5], [.int .i64 x.f6], rfl, rfl, rfl⟩⟩⟩⟩⟩⟩
theorem k25_mkM (w : World) (base : Nat) (ok : Nat → Prop) (x : S25)  : k25.M w base ok x [.int .i64 x.f0, .int .i64 x.f1, .bool x.f2, .bool x.f3, .bool x.f4, .bool x.f5, .int .i64 x.f6] := ⟨[.int .i64 x.f0], [.int .i64 x.f1, .bool x.f2, .bool x.f3, .bool x.f4, .bool x.f5, .int .i64 x.f6], rfl, rfl, ⟨[.int .i64 x.f1], [.bool x.f2, .bool x.f3, .bool x.f4, .bool x.f5, .int .i64 x.f6], rfl, rfl, ⟨[.bool x.f2], [.bool x.f3, .bool x.f4, .bool x.f5, .int .i64 x.f6], rfl, rfl, ⟨[.bool x.f3], [.bool x.f4, .bool x.f5, .int .i64 x.f6], rfl, rfl, ⟨[.bool x.f4], [.bool x.f5, .int .i64 x.f6], rfl, rfl, ⟨[.bool x.f5], [.int .i64 x.f6], rfl, rfl, rfl⟩⟩⟩⟩⟩⟩
def rd_T25 (xs : List S25) (i : Int) : S25 := xs.getD i.toNat z25
theorem at_T25 {w : World} {A : Option Addr} {n : Nat} {xs : List S25} (h : Kd.C k25 w A n xs) (i : Int) (h0 : 0 ≤ i) (h1 : i < n) : ∃ ad , A = some ad ∧ w.cell? (ad.add (i.toNat * 7)) = some (.int .i64 (rd_T25 xs i).f0) ∧ w.cell? ⟨(ad.add (i.toNat * 7)).block, (ad.add (i.toNat * 7)).off + 1, none⟩ = some (.int .i64 (rd_T25 xs i).f1) ∧ w.cell? ⟨(ad.add (i.toNat * 7)).block, (ad.add (i.toNat * 7)).off + 2, none⟩ = some (.bool (rd_T25 xs i).f2) ∧ w.cell? ⟨(ad.add (i.toNat * 7)).block, (ad.add (i.toNat * 7)).off + 3, none⟩ = some (.bool (rd_T25 xs i).f3) ∧ w.cell? ⟨(ad.add (i.toNat * 7)).block, (ad.add (i.toNat * 7)).off + 4, none⟩ = some (.bool (rd_T25 xs i).f4) ∧ w.cell? ⟨(ad.add (i.toNat * 7)).block, (ad.add (i.toNat * 7)).off + 5, none⟩ = some (.bool (rd_T25 xs i).f5) ∧ w.cell? ⟨(ad.add (i.toNat * 7)).block, (ad.add (i.toNat * 7)).off + 6, none⟩ = some (.int .i64 (rd_T25 xs i).f6) := by
  obtain ⟨ad, c, e, _, hK, hc0⟩ := Kd.C_get h z25 i h0 h1
  have hc : ∀ j u, c[j]? = some u → w.cell? (ad.add (i.toNat * 7 + j)) = some u := hc0
  obtain rfl := k25_open hK
  exact ⟨ad, e, hc 0 _ rfl, by rw [← add_field _ _ 1 (by omega)]; exact hc 1 _ rfl, by rw [← add_field _ _ 2 (by omega)]; exact hc 2 _ rfl, by rw [← add_field _ _ 3 (by omega)]; exact hc 3 _ rfl, by rw [← add_field _ _ 4 (by omega)]; exact hc 4 _ rfl, by rw [← add_field _ _ 5 (by omega)]; exact hc 5 _ rfl, by rw [← add_field _ _ 6 (by omega)]; exact hc 6 _ rfl⟩

end Go.Proofs.Ytobbcfpkmmafnab.Q
