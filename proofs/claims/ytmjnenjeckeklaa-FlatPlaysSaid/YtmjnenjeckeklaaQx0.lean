
import Derived.Test.YtmjnenjeckeklaaProg
import Derived.Below
import Derived.Deep.Draws
import Derived.Deep.AppendLies
import Derived.Maps.AppendAt
import Derived.OwnWalk
import Derived.Laws.BytesArg
import Derived.Laws.MakeOwn
import Derived.Laws.OwnMore
import Derived.Deep.OwnRows
import Derived.Tactics
import Derived.Lib.ConvBytes
import Derived.Laws.Slices
import Derived.WalkKit
import Derived.KernelRfl
import Derived.RowKit3
import Derived.Deep.LoopGhost
import Derived.Deep.QuietTactic
import Derived.BigQuiet
import Derived.WideLaws
import Derived.Deep.DeepCutAuto
import Derived.Deep.CutBlock
import Derived.Deep.RegionHeld3
import Derived.Laws.Rows
import Derived.Lib.AppendStr
import Derived.ArgAppend
import Derived.Laws.IdiomCopy
import Derived.OrdersHeld
import Derived.Laws.BitsLemmas
import Derived.RowKit
import Derived.Test.YtmjnenjeckeklaaHFn
import Derived.Test.YtmjnenjeckeklaaWWords
import Derived.Test.YtmjnenjeckeklaaWLast
import Derived.Test.YtmjnenjeckeklaaWTab
import Derived.Test.YtmjnenjeckeklaaWQPut
import Derived.Test.YtmjnenjeckeklaaWApart
import Derived.Test.YtmjnenjeckeklaaWArr
import Derived.Test.YtmjnenjeckeklaaWZeros
import Derived.Test.YtmjnenjeckeklaaWFoot
import Derived.Test.YtmjnenjeckeklaaWKept
import Derived.Test.YtmjnenjeckeklaaWShare
import Derived.Test.YtmjnenjeckeklaaWN
import Derived.Test.YtmjnenjeckeklaaWEqStruct
import Derived.Test.YtmjnenjeckeklaaWRepsOne
import Derived.Test.YtmjnenjeckeklaaWNEv
import Derived.Test.YtmjnenjeckeklaaWMore
namespace Go.Proofs.Ytmjnenjeckeklaa.Q
def Wq : Nat → Nat → List Bool
  | 0, _ => []
  | n + 1, b => (b % 2 == 1) :: Wq n (b / 2)
def gN (n b : Nat) : Array Bool := ⟨Wq n b⟩
theorem sA {α : Type} {l : List α} {i : Nat} {a : α} : l.toArray.setIfInBounds i a = (l.set i a).toArray := by simp
theorem sB {α : Type} {x a : α} {l : List α} : (x :: l).set 0 a = a :: l := rfl
theorem sC {α : Type} {x a : α} {l : List α} {n : Nat} : (x :: l).set (n + 1) a = x :: l.set n a := rfl
open Go.RowKit Go.Proofs.YtmjnenjeckeklaaW.PrintWords Go.Proofs.YtmjnenjeckeklaaW.PrintLast Go.Proofs.YtmjnenjeckeklaaW.PrintMore
attribute [local go_sem] fy fA gG gH eE eG fB fC
set_option linter.unusedVariables false
set_option linter.unusedSimpArgs false
def qh : Option Int → Value
  | none => .nilIface
  | some c => .iface 45 (.int .i64 c)
theorem aT : qh none = .nilIface := rfl
theorem aU (c : Int) : qh (some c) = .iface 45 (.int .i64 c) := rfl
theorem zQ (P : Program) (d : Nat) (w : World) {ti tn : TypeId} {ms : Array (String × TypeId)} {i : TypeInfo} (a b : Int) (hi : P.underlying ti = some (.interface ms)) (hn : P.underlying tn = some (.int .i64)) (hinfo : P.info? tn = some i) (hcomp : i.comparable = true) :
    (Op.equalIn (d + 2) ti (.iface tn (.int .i64 a)) (.iface tn (.int .i64 b))).run P w = .ok (a == b) w := by
 simp [Op.equalIn, run_underlying hi, run_underlying hn, typeInfo, hinfo, hcomp]
theorem vW (P : Program) (d : Nat) (w : World) {ti tn : TypeId} {ms : Array (String × TypeId)} (v : Value) (hi : P.underlying ti = some (.interface ms)) :
    (Op.equalIn (d + 1) ti .nilIface (.iface tn v)).run P w = .ok false w := by simp [Op.equalIn, run_underlying hi]
theorem fK (w : World) (a b : Int) : (binOp .eql 38 (.iface 45 (.int .i64 a)) (.iface 45 (.int .i64 b))).run Try.prog w = .ok (.bool (a == b)) w := by
 simp only [binOp]; simp [Op.equal, Op.maxDepth, zQ Try.prog 9998 w a b Try.underlying38 Try.underlying45 (i := (Try.prog.info? 45).get (by kernel_rfl)) (by kernel_rfl) (by kernel_rfl)]
theorem fL (w : World) (a b : Int) : (binOp .neq 38 (.iface 45 (.int .i64 a)) (.iface 45 (.int .i64 b))).run Try.prog w = .ok (.bool (a != b)) w := by
 simp only [binOp]; simp [Op.equal, Op.maxDepth, zQ Try.prog 9998 w a b Try.underlying38 Try.underlying45 (i := (Try.prog.info? 45).get (by kernel_rfl)) (by kernel_rfl) (by kernel_rfl), bne]
theorem fM (w : World) (b : Int) : (binOp .eql 38 .nilIface (.iface 45 (.int .i64 b))).run Try.prog w = .ok (.bool false) w := by
 simp only [binOp]; simp [Op.equal, Op.maxDepth, vW Try.prog 9999 w (tn := 45) (.int .i64 b) Try.underlying38]
theorem fN (w : World) (b : Int) : (binOp .neq 38 .nilIface (.iface 45 (.int .i64 b))).run Try.prog w = .ok (.bool true) w := by
 simp only [binOp]; simp [Op.equal, Op.maxDepth, vW Try.prog 9999 w (tn := 45) (.int .i64 b) Try.underlying38]
theorem oG : (Try.prog.info? 59).map (fun i => (i.zero, i.size, i.bytes)) = some (some (.agg #[(.int .i64 0), (.int .i64 0), (.bool false), (.bool false), (.bool false)]), 5, 24) := by kernel_rfl
structure fF where
  f0 : Bool
  f1 : Bool
def z25 : fF := ⟨false, false⟩
def P9 : Kd fF := Kd.N3 (Kd.pair Kd.bool Kd.bool) (fun x : fF => (x.f0, x.f1))
theorem GH {w : World} {x : fF} {cs : List Value} (h : P9.K w x cs) : cs = [.bool x.f0, .bool x.f1] := by
 obtain ⟨_, _, rfl, rfl, rfl⟩ := h; exact rfl
theorem DU {w : World} {base : Nat} {ok : Nat → Prop} {x : fF} {cs : List Value} (h : P9.M w base ok x cs) : cs = [.bool x.f0, .bool x.f1] := by
 obtain ⟨_, _, rfl, rfl, rfl⟩ := h; exact rfl
theorem M0 (w : World) (x : fF)  : P9.K w x [.bool x.f0, .bool x.f1] := ⟨[.bool x.f0], [.bool x.f1], rfl, rfl, rfl⟩
theorem JF (w : World) (base : Nat) (ok : Nat → Prop) (x : fF)  : P9.M w base ok x [.bool x.f0, .bool x.f1] := ⟨[.bool x.f0], [.bool x.f1], rfl, rfl, rfl⟩
structure aG where
  f0 : Int
  f1 : Int
  f2 : fF
  f3 : Bool
def Kq : aG := ⟨(0 : Int), (0 : Int), z25, false⟩
def ew : Kd aG := Kd.N3 (Kd.pair (Kd.int .i64) (Kd.pair (Kd.int .i64) (Kd.pair P9 Kd.bool))) (fun x : aG => (x.f0, x.f1, x.f2, x.f3))
theorem GI {w : World} {x : aG} {cs : List Value} (h : ew.K w x cs) : cs = [.int .i64 x.f0, .int .i64 x.f1, .bool x.f2.f0, .bool x.f2.f1, .bool x.f3] := by
 obtain ⟨_, _, rfl, rfl, ⟨_, _, rfl, rfl, ⟨_, _, rfl, s2, rfl⟩⟩⟩ := h; obtain rfl := GH s2; exact rfl
theorem gM {w : World} {base : Nat} {ok : Nat → Prop} {x : aG} {cs : List Value} (h : ew.M w base ok x cs) : cs = [.int .i64 x.f0, .int .i64 x.f1, .bool x.f2.f0, .bool x.f2.f1, .bool x.f3] := by
 obtain ⟨_, _, rfl, rfl, ⟨_, _, rfl, rfl, ⟨_, _, rfl, s2, rfl⟩⟩⟩ := h; obtain rfl := DU s2; exact rfl
theorem oJ (w : World) (x : aG)  : ew.K w x [.int .i64 x.f0, .int .i64 x.f1, .bool x.f2.f0, .bool x.f2.f1, .bool x.f3] := ⟨[.int .i64 x.f0], [.int .i64 x.f1, .bool x.f2.f0, .bool x.f2.f1, .bool x.f3], rfl, rfl, ⟨[.int .i64 x.f1], [.bool x.f2.f0, .bool x.f2.f1, .bool x.f3], rfl, rfl, ⟨[.bool x.f2.f0, .bool x.f2.f1], [.bool x.f3], rfl, (M0 w x.f2 ), rfl⟩⟩⟩
theorem js (w : World) (base : Nat) (ok : Nat → Prop) (x : aG)  : ew.M w base ok x [.int .i64 x.f0, .int .i64 x.f1, .bool x.f2.f0, .bool x.f2.f1, .bool x.f3] := ⟨[.int .i64 x.f0], [.int .i64 x.f1, .bool x.f2.f0, .bool x.f2.f1, .bool x.f3], rfl, rfl, ⟨[.int .i64 x.f1], [.bool x.f2.f0, .bool x.f2.f1, .bool x.f3], rfl, rfl, ⟨[.bool x.f2.f0, .bool x.f2.f1], [.bool x.f3], rfl, (JF w base ok x.f2 ), rfl⟩⟩⟩
def rd_T59 (xs : List aG) (i : Int) : aG := xs.getD i.toNat Kq
theorem iM {w : World} {A : Option Addr} {n : Nat} {xs : List aG} (h : Kd.C ew w A n xs) (i : Int) (h0 : 0 ≤ i) (h1 : i < n) : ∃ ad , A = some ad ∧ w.cell? (ad.add (i.toNat * 5)) = some (.int .i64 (rd_T59 xs i).f0) ∧ w.cell? ⟨(ad.add (i.toNat * 5)).block, (ad.add (i.toNat * 5)).off + 1, none⟩ = some (.int .i64 (rd_T59 xs i).f1) ∧ w.cell? ⟨(ad.add (i.toNat * 5)).block, (ad.add (i.toNat * 5)).off + 2, none⟩ = some (.bool (rd_T59 xs i).f2.f0) ∧ w.cell? ⟨(ad.add (i.toNat * 5)).block, (ad.add (i.toNat * 5)).off + 3, none⟩ = some (.bool (rd_T59 xs i).f2.f1) ∧ w.cell? ⟨(ad.add (i.toNat * 5)).block, (ad.add (i.toNat * 5)).off + 4, none⟩ = some (.bool (rd_T59 xs i).f3) := by
 obtain ⟨ad, c, e, _, hK, hc0⟩ := Kd.Gy h Kq i h0 h1; have hc : ∀ j u, c[j]? = some u → w.cell? (ad.add (i.toNat * 5 + j)) = some u := hc0; obtain rfl := GI hK; exact ⟨ad, e, hc 0 _ rfl, by rw [← iN _ _ 1 (by omega)]; exact hc 1 _ rfl, by rw [← iN _ _ 2 (by omega)]; exact hc 2 _ rfl, by rw [← iN _ _ 3 (by omega)]; exact hc 3 _ rfl, by rw [← iN _ _ 4 (by omega)]; exact hc 4 _ rfl⟩
def rd_L4 (xs : List (List aG)) (i : Int) : (List aG) := xs.getD i.toNat ([] : List aG)
theorem Kr {w : World} {A : Option Addr} {n : Nat} {xs : List (List aG)} (h : Kd.C (Kd.slice 59 ew) w A n xs) (i : Int) (h0 : 0 ≤ i) (h1 : i < n) : ∃ ad A0 c0, A = some ad ∧ w.cell? (ad.add i.toNat) = some (.slice A0 (rd_L4 xs i).length c0) ∧ (rd_L4 xs i).length ≤ c0 ∧ ew.C w A0 (rd_L4 xs i).length (rd_L4 xs i) := by
 obtain ⟨ad, c, e, _, hK, hc0⟩ := Kd.Gy h ([] : List aG) i h0 h1; have hc : ∀ j u, c[j]? = some u → w.cell? (ad.add (i.toNat * 1 + j)) = some u := hc0; obtain ⟨A0, c0, rfl, l0, g0⟩ := hK; exact ⟨ad, A0, c0, e, by have hq := hc 0 _ rfl; rwa [Nat.mul_one, Nat.add_zero] at hq, l0, g0⟩
structure dL where
  f0 : Bool
  f1 : Bool
  f2 : Bool
  f3 : Bool
def NX : dL := ⟨false, false, false, false⟩
def OT : Kd dL := Kd.N3 (Kd.pair Kd.bool (Kd.pair Kd.bool (Kd.pair Kd.bool Kd.bool))) (fun x : dL => (x.f0, x.f1, x.f2, x.f3))
theorem GJ {w : World} {x : dL} {cs : List Value} (h : OT.K w x cs) : cs = [.bool x.f0, .bool x.f1, .bool x.f2, .bool x.f3] := by
 obtain ⟨_, _, rfl, rfl, ⟨_, _, rfl, rfl, ⟨_, _, rfl, rfl, rfl⟩⟩⟩ := h; exact rfl
theorem L4 (w : World) (x : dL)  : OT.K w x [.bool x.f0, .bool x.f1, .bool x.f2, .bool x.f3] := ⟨[.bool x.f0], [.bool x.f1, .bool x.f2, .bool x.f3], rfl, rfl, ⟨[.bool x.f1], [.bool x.f2, .bool x.f3], rfl, rfl, ⟨[.bool x.f2], [.bool x.f3], rfl, rfl, rfl⟩⟩⟩
def rd_T72 (xs : List dL) (i : Int) : dL := xs.getD i.toNat NX
theorem uo {w : World} {A : Option Addr} {n : Nat} {xs : List dL} (h : Kd.C OT w A n xs) (i : Int) (h0 : 0 ≤ i) (h1 : i < n) : ∃ ad , A = some ad ∧ w.cell? (ad.add (i.toNat * 4)) = some (.bool (rd_T72 xs i).f0) ∧ w.cell? ⟨(ad.add (i.toNat * 4)).block, (ad.add (i.toNat * 4)).off + 1, none⟩ = some (.bool (rd_T72 xs i).f1) ∧ w.cell? ⟨(ad.add (i.toNat * 4)).block, (ad.add (i.toNat * 4)).off + 2, none⟩ = some (.bool (rd_T72 xs i).f2) ∧ w.cell? ⟨(ad.add (i.toNat * 4)).block, (ad.add (i.toNat * 4)).off + 3, none⟩ = some (.bool (rd_T72 xs i).f3) := by
 obtain ⟨ad, c, e, _, hK, hc0⟩ := Kd.Gy h NX i h0 h1; have hc : ∀ j u, c[j]? = some u → w.cell? (ad.add (i.toNat * 4 + j)) = some u := hc0; obtain rfl := GJ hK; exact ⟨ad, e, hc 0 _ rfl, by rw [← iN _ _ 1 (by omega)]; exact hc 1 _ rfl, by rw [← iN _ _ 2 (by omega)]; exact hc 2 _ rfl, by rw [← iN _ _ 3 (by omega)]; exact hc 3 _ rfl⟩
end Go.Proofs.Ytmjnenjeckeklaa.Q
