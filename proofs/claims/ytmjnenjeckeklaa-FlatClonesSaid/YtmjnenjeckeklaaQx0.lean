
import Derived.Test.YtmjnenjeckeklaaProg
import Derived.Below
import Derived.Deep.Draws
import Derived.Deep.AppendLies
import Derived.Maps.AppendAt
import Derived.OwnWalk
import Derived.Laws.BytesArg
import Derived.Laws.MakeOwn
import Derived.Laws.OwnMore
import Derived.Deep.OwnRows
import Derived.Tactics
import Derived.Lib.ConvBytes
import Derived.Laws.Slices
import Derived.WalkKit
import Derived.KernelRfl
import Derived.RowKit3
import Derived.Deep.LoopGhost
import Derived.Deep.QuietTactic
import Derived.BigQuiet
import Derived.WideLaws
import Derived.Deep.DeepCutAuto
import Derived.Deep.CutBlock
import Derived.Deep.RegionHeld3
import Derived.Laws.Rows
import Derived.Lib.AppendStr
import Derived.ArgAppend
import Derived.Laws.IdiomCopy
import Derived.OrdersHeld
import Derived.Laws.BitsLemmas
import Derived.RowKit
import Derived.Test.YtmjnenjeckeklaaHFn
import Derived.Test.YtmjnenjeckeklaaWWords
import Derived.Test.YtmjnenjeckeklaaWLast
import Derived.Test.YtmjnenjeckeklaaWTab
import Derived.Test.YtmjnenjeckeklaaWQPut
import Derived.Test.YtmjnenjeckeklaaWApart
import Derived.Test.YtmjnenjeckeklaaWArr
import Derived.Test.YtmjnenjeckeklaaWZeros
import Derived.Test.YtmjnenjeckeklaaWFoot
import Derived.Test.YtmjnenjeckeklaaWKept
import Derived.Test.YtmjnenjeckeklaaWShare
import Derived.Test.YtmjnenjeckeklaaWN
import Derived.Test.YtmjnenjeckeklaaWEqStruct
import Derived.Test.YtmjnenjeckeklaaWRepsOne
import Derived.Test.YtmjnenjeckeklaaWNEv
import Derived.Test.YtmjnenjeckeklaaWMore
namespace Go.Proofs.Ytmjnenjeckeklaa.Q
def mkL : Nat → Nat → List Bool
  | 0, _ => []
  | n + 1, b => (b % 2 == 1) :: mkL n (b / 2)
def nD (n b : Nat) : Array Bool := ⟨mkL n b⟩
theorem sA {α : Type} {l : List α} {i : Nat} {a : α} : l.toArray.setIfInBounds i a = (l.set i a).toArray := by simp
theorem sB {α : Type} {x a : α} {l : List α} : (x :: l).set 0 a = a :: l := rfl
theorem sC {α : Type} {x a : α} {l : List α} {n : Nat} : (x :: l).set (n + 1) a = x :: l.set n a := rfl
open Go.RowKit Go.Proofs.YtmjnenjeckeklaaW.PrintWords Go.Proofs.YtmjnenjeckeklaaW.PrintLast Go.Proofs.YtmjnenjeckeklaaW.PrintMore
attribute [local go_sem] lW lX nr nu kV kW lY lZ
set_option linter.unusedVariables false
set_option linter.unusedSimpArgs false
def wN : Option Int → Value
  | none => .nilIface
  | some c => .iface 45 (.int .i64 c)
theorem gK : wN none = .nilIface := rfl
theorem gL (c : Int) : wN (some c) = .iface 45 (.int .i64 c) := rfl
theorem EF (P : Program) (d : Nat) (w : World) {ti tn : TypeId} {ms : Array (String × TypeId)} {i : TypeInfo} (a b : Int) (hi : P.underlying ti = some (.interface ms)) (hn : P.underlying tn = some (.int .i64)) (hinfo : P.info? tn = some i) (hcomp : i.comparable = true) :
    (Op.equalIn (d + 2) ti (.iface tn (.int .i64 a)) (.iface tn (.int .i64 b))).run P w = .ok (a == b) w := by
 simp [Op.equalIn, run_underlying hi, run_underlying hn, typeInfo, hinfo, hcomp]
theorem BS (P : Program) (d : Nat) (w : World) {ti tn : TypeId} {ms : Array (String × TypeId)} (v : Value) (hi : P.underlying ti = some (.interface ms)) :
    (Op.equalIn (d + 1) ti .nilIface (.iface tn v)).run P w = .ok false w := by simp [Op.equalIn, run_underlying hi]
theorem mo (w : World) (a b : Int) : (binOp .eql 38 (.iface 45 (.int .i64 a)) (.iface 45 (.int .i64 b))).run Try.prog w = .ok (.bool (a == b)) w := by
 simp only [binOp]; simp [Op.equal, Op.maxDepth, EF Try.prog 9998 w a b Try.underlying38 Try.underlying45 (i := (Try.prog.info? 45).get (by kernel_rfl)) (by kernel_rfl) (by kernel_rfl)]
theorem mq (w : World) (a b : Int) : (binOp .neq 38 (.iface 45 (.int .i64 a)) (.iface 45 (.int .i64 b))).run Try.prog w = .ok (.bool (a != b)) w := by
 simp only [binOp]; simp [Op.equal, Op.maxDepth, EF Try.prog 9998 w a b Try.underlying38 Try.underlying45 (i := (Try.prog.info? 45).get (by kernel_rfl)) (by kernel_rfl) (by kernel_rfl), bne]
theorem mu (w : World) (b : Int) : (binOp .eql 38 .nilIface (.iface 45 (.int .i64 b))).run Try.prog w = .ok (.bool false) w := by
 simp only [binOp]; simp [Op.equal, Op.maxDepth, BS Try.prog 9999 w (tn := 45) (.int .i64 b) Try.underlying38]
theorem mw (w : World) (b : Int) : (binOp .neq 38 .nilIface (.iface 45 (.int .i64 b))).run Try.prog w = .ok (.bool true) w := by
 simp only [binOp]; simp [Op.equal, Op.maxDepth, BS Try.prog 9999 w (tn := 45) (.int .i64 b) Try.underlying38]
theorem uY : (Try.prog.info? 59).map (fun i => (i.zero, i.size, i.bytes)) = some (some (.agg #[(.int .i64 0), (.int .i64 0), (.bool false), (.bool false), (.bool false)]), 5, 24) := by kernel_rfl
structure l6 where
  f0 : Bool
  f1 : Bool
def z25 : l6 := ⟨false, false⟩
def Vh : Kd l6 := Kd.TD (Kd.pair Kd.bool Kd.bool) (fun x : l6 => (x.f0, x.f1))
theorem Me {w : World} {x : l6} {cs : List Value} (h : Vh.K w x cs) : cs = [.bool x.f0, .bool x.f1] := by
 obtain ⟨_, _, rfl, rfl, rfl⟩ := h; exact rfl
theorem Jx {w : World} {base : Nat} {ok : Nat → Prop} {x : l6} {cs : List Value} (h : Vh.M w base ok x cs) : cs = [.bool x.f0, .bool x.f1] := by
 obtain ⟨_, _, rfl, rfl, rfl⟩ := h; exact rfl
theorem Sb (w : World) (x : l6)  : Vh.K w x [.bool x.f0, .bool x.f1] := ⟨[.bool x.f0], [.bool x.f1], rfl, rfl, rfl⟩
theorem OQ (w : World) (base : Nat) (ok : Nat → Prop) (x : l6)  : Vh.M w base ok x [.bool x.f0, .bool x.f1] := ⟨[.bool x.f0], [.bool x.f1], rfl, rfl, rfl⟩
structure gu where
  f0 : Int
  f1 : Int
  f2 : l6
  f3 : Bool
def Py : gu := ⟨(0 : Int), (0 : Int), z25, false⟩
def kN : Kd gu := Kd.TD (Kd.pair (Kd.int .i64) (Kd.pair (Kd.int .i64) (Kd.pair Vh Kd.bool))) (fun x : gu => (x.f0, x.f1, x.f2, x.f3))
theorem Mf {w : World} {x : gu} {cs : List Value} (h : kN.K w x cs) : cs = [.int .i64 x.f0, .int .i64 x.f1, .bool x.f2.f0, .bool x.f2.f1, .bool x.f3] := by
 obtain ⟨_, _, rfl, rfl, ⟨_, _, rfl, rfl, ⟨_, _, rfl, s2, rfl⟩⟩⟩ := h; obtain rfl := Me s2; exact rfl
theorem nC {w : World} {base : Nat} {ok : Nat → Prop} {x : gu} {cs : List Value} (h : kN.M w base ok x cs) : cs = [.int .i64 x.f0, .int .i64 x.f1, .bool x.f2.f0, .bool x.f2.f1, .bool x.f3] := by
 obtain ⟨_, _, rfl, rfl, ⟨_, _, rfl, rfl, ⟨_, _, rfl, s2, rfl⟩⟩⟩ := h; obtain rfl := Jx s2; exact rfl
theorem vk (w : World) (x : gu)  : kN.K w x [.int .i64 x.f0, .int .i64 x.f1, .bool x.f2.f0, .bool x.f2.f1, .bool x.f3] := ⟨[.int .i64 x.f0], [.int .i64 x.f1, .bool x.f2.f0, .bool x.f2.f1, .bool x.f3], rfl, rfl, ⟨[.int .i64 x.f1], [.bool x.f2.f0, .bool x.f2.f1, .bool x.f3], rfl, rfl, ⟨[.bool x.f2.f0, .bool x.f2.f1], [.bool x.f3], rfl, (Sb w x.f2 ), rfl⟩⟩⟩
theorem pL (w : World) (base : Nat) (ok : Nat → Prop) (x : gu)  : kN.M w base ok x [.int .i64 x.f0, .int .i64 x.f1, .bool x.f2.f0, .bool x.f2.f1, .bool x.f3] := ⟨[.int .i64 x.f0], [.int .i64 x.f1, .bool x.f2.f0, .bool x.f2.f1, .bool x.f3], rfl, rfl, ⟨[.int .i64 x.f1], [.bool x.f2.f0, .bool x.f2.f1, .bool x.f3], rfl, rfl, ⟨[.bool x.f2.f0, .bool x.f2.f1], [.bool x.f3], rfl, (OQ w base ok x.f2 ), rfl⟩⟩⟩
def rd_T59 (xs : List gu) (i : Int) : gu := xs.getD i.toNat Py
theorem oH {w : World} {A : Option Addr} {n : Nat} {xs : List gu} (h : Kd.C kN w A n xs) (i : Int) (h0 : 0 ≤ i) (h1 : i < n) : ∃ ad , A = some ad ∧ w.cell? (ad.add (i.toNat * 5)) = some (.int .i64 (rd_T59 xs i).f0) ∧ w.cell? ⟨(ad.add (i.toNat * 5)).block, (ad.add (i.toNat * 5)).off + 1, none⟩ = some (.int .i64 (rd_T59 xs i).f1) ∧ w.cell? ⟨(ad.add (i.toNat * 5)).block, (ad.add (i.toNat * 5)).off + 2, none⟩ = some (.bool (rd_T59 xs i).f2.f0) ∧ w.cell? ⟨(ad.add (i.toNat * 5)).block, (ad.add (i.toNat * 5)).off + 3, none⟩ = some (.bool (rd_T59 xs i).f2.f1) ∧ w.cell? ⟨(ad.add (i.toNat * 5)).block, (ad.add (i.toNat * 5)).off + 4, none⟩ = some (.bool (rd_T59 xs i).f3) := by
 obtain ⟨ad, c, e, _, hK, hc0⟩ := Kd.L6 h Py i h0 h1; have hc : ∀ j u, c[j]? = some u → w.cell? (ad.add (i.toNat * 5 + j)) = some u := hc0; obtain rfl := Mf hK; exact ⟨ad, e, hc 0 _ rfl, by rw [← oJ _ _ 1 (by omega)]; exact hc 1 _ rfl, by rw [← oJ _ _ 2 (by omega)]; exact hc 2 _ rfl, by rw [← oJ _ _ 3 (by omega)]; exact hc 3 _ rfl, by rw [← oJ _ _ 4 (by omega)]; exact hc 4 _ rfl⟩
def rd_L4 (xs : List (List gu)) (i : Int) : (List gu) := xs.getD i.toNat ([] : List gu)
theorem Pz {w : World} {A : Option Addr} {n : Nat} {xs : List (List gu)} (h : Kd.C (Kd.slice 59 kN) w A n xs) (i : Int) (h0 : 0 ≤ i) (h1 : i < n) : ∃ ad A0 c0, A = some ad ∧ w.cell? (ad.add i.toNat) = some (.slice A0 (rd_L4 xs i).length c0) ∧ (rd_L4 xs i).length ≤ c0 ∧ kN.C w A0 (rd_L4 xs i).length (rd_L4 xs i) := by
 obtain ⟨ad, c, e, _, hK, hc0⟩ := Kd.L6 h ([] : List gu) i h0 h1; have hc : ∀ j u, c[j]? = some u → w.cell? (ad.add (i.toNat * 1 + j)) = some u := hc0; obtain ⟨A0, c0, rfl, l0, g0⟩ := hK; exact ⟨ad, A0, c0, e, by have hq := hc 0 _ rfl; rwa [b8, bZ] at hq, l0, g0⟩
structure j5 where
  f0 : Bool
  f1 : Bool
  f2 : Bool
  f3 : Bool
def S6 : j5 := ⟨false, false, false, false⟩
def TU : Kd j5 := Kd.TD (Kd.pair Kd.bool (Kd.pair Kd.bool (Kd.pair Kd.bool Kd.bool))) (fun x : j5 => (x.f0, x.f1, x.f2, x.f3))
theorem Mg {w : World} {x : j5} {cs : List Value} (h : TU.K w x cs) : cs = [.bool x.f0, .bool x.f1, .bool x.f2, .bool x.f3] := by
 obtain ⟨_, _, rfl, rfl, ⟨_, _, rfl, rfl, ⟨_, _, rfl, rfl, rfl⟩⟩⟩ := h; exact rfl
theorem Q8 (w : World) (x : j5)  : TU.K w x [.bool x.f0, .bool x.f1, .bool x.f2, .bool x.f3] := ⟨[.bool x.f0], [.bool x.f1, .bool x.f2, .bool x.f3], rfl, rfl, ⟨[.bool x.f1], [.bool x.f2, .bool x.f3], rfl, rfl, ⟨[.bool x.f2], [.bool x.f3], rfl, rfl, rfl⟩⟩⟩
def rd_T72 (xs : List j5) (i : Int) : j5 := xs.getD i.toNat S6
theorem As {w : World} {A : Option Addr} {n : Nat} {xs : List j5} (h : Kd.C TU w A n xs) (i : Int) (h0 : 0 ≤ i) (h1 : i < n) : ∃ ad , A = some ad ∧ w.cell? (ad.add (i.toNat * 4)) = some (.bool (rd_T72 xs i).f0) ∧ w.cell? ⟨(ad.add (i.toNat * 4)).block, (ad.add (i.toNat * 4)).off + 1, none⟩ = some (.bool (rd_T72 xs i).f1) ∧ w.cell? ⟨(ad.add (i.toNat * 4)).block, (ad.add (i.toNat * 4)).off + 2, none⟩ = some (.bool (rd_T72 xs i).f2) ∧ w.cell? ⟨(ad.add (i.toNat * 4)).block, (ad.add (i.toNat * 4)).off + 3, none⟩ = some (.bool (rd_T72 xs i).f3) := by
 obtain ⟨ad, c, e, _, hK, hc0⟩ := Kd.L6 h S6 i h0 h1; have hc : ∀ j u, c[j]? = some u → w.cell? (ad.add (i.toNat * 4 + j)) = some u := hc0; obtain rfl := Mg hK; exact ⟨ad, e, hc 0 _ rfl, by rw [← oJ _ _ 1 (by omega)]; exact hc 1 _ rfl, by rw [← oJ _ _ 2 (by omega)]; exact hc 2 _ rfl, by rw [← oJ _ _ 3 (by omega)]; exact hc 3 _ rfl⟩
end Go.Proofs.Ytmjnenjeckeklaa.Q
