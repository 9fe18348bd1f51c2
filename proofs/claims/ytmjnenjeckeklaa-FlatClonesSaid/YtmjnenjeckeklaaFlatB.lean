import Derived.Test.YtmjnenjeckeklaaFlatA
import Derived.Test.YtmjnenjeckeklaaProg
import Derived.Laws.Externs
import Derived.WalkKit
import Derived.KernelRfl
namespace Go.Proofs.Ytmjnenjeckeklaa.V
open Go Go.RowKit Go.Proofs Go.Proofs.Ytmjnenjeckeklaa.Q
set_option linter.unusedVariables false
set_option linter.unusedSimpArgs false
def Zf : Fl gu W8 := ⟨5, ie, Yr, w8, KD, fun _ => rfl⟩
abbrev FW := List (nj gu W8)
abbrev gE (W : FW) : Az := Zf.gE 45 W
abbrev gQ (m clk : Nat) (L : List (Rec gu W8)) : Az := Zf.gQ 45 m clk L
abbrev pE (ps : List (Int × W8)) : Az := Zf.pE ps
abbrev zw : W8 := fun _ => 0
theorem kf : qD Try.prog 66 82 := ⟨3, Try.underlying66, by kernel_rfl⟩
theorem C9 : qD Try.prog 80 77 := ⟨3, Try.underlying80, by kernel_rfl⟩
theorem oB : DF Try.prog 82 [.sl false 5 (([] : List gu).map ie), .v (.map none)] :=
  ⟨(Try.prog.info? 82).get (by kernel_rfl), #[.slice none 0 0, .map none], by kernel_rfl, by kernel_rfl, fun _ _ _ => .cons (F := []) (.nil _ _) (.cons (F := []) (.v rfl) .nil)⟩
theorem Ij : DF Try.prog 77 (w8 zw) :=
  ⟨(Try.prog.info? 77).get (by kernel_rfl), Yr zw, by kernel_rfl, by kernel_rfl, fun _ _ _ => KD _ _ _ _⟩
theorem Vg : Pt Try.prog 77 8 := ⟨23, .int .u64, Try.underlying77, by kernel_rfl, by kernel_rfl, rfl⟩
section
variable {P : Program} (w : World)
theorem Da (d : Nat) (t k e : TypeId) (p : Option Nat) (h : P.underlying t = some (.map k e)) : (Op.equalIn (d + 1) t (.map p) (.map none)).run P w = .ok p.isNone w := by
 cases p <;> simp [Op.equalIn, run_underlying h]
theorem ED (t k e : TypeId) (p : Option Nat) (h : P.underlying t = some (.map k e)) : (binOp .eql t (.map p) (.map none)).run P w = .ok (.bool p.isNone) w := by
 simp only [binOp]; simp [show Op.equal t (.map p) (.map none) = Op.equalIn (9999 + 1) t (.map p) (.map none) from rfl, Da w 9999 t k e p h]
theorem GK (t xT k e : TypeId) (v : Value) (h : P.underlying t = some (.map k e)) : (Instr.typeAssert (.iface t v) xT t false).run P w = .ok v w := by
 simp [Instr.typeAssert, run_underlying h, go_sem, Result.andThen]
theorem Jw {r : Nat} {es : Array MapEntry} {clock : Nat} (t : TypeId) (hb : w.heap[r]? = some (.map es clock)) : (Extern.MapsClone.clone #[.iface t (.map (some r))]).run P w = .ok (.iface t (.map (some w.heap.size))) (w.alloc (.map es clock)) := by
 have e : Extern.MapsClone.clone #[.iface t (.map (some r))] = (getObj r >>= fun o => match o with
     | .map entries clock => (newObj (.map entries clock) >>= fun n => pure (.iface t (.map (some n))))
     | _ => stuck "maps.clone: a map expected") := rfl
 rw [e]; simp [MapKept.run_getObj_map hb, Result.andThen, go_sem]
end
set_option maxHeartbeats 2000000 in
set_option maxRecDepth 100000 in
theorem Jg (b : Nat) (es : Array MapEntry) (clock : Nat) (w : World) (hb : w.heap[b]? = some (.map es clock)) :
    Calls Try.prog 53 #[.map (some b)] w fun e w' => e = .returned (.map (some w.heap.size)) ∧ w' = w.alloc (.map es clock) := by
     have mixed : Try.prog.follows .mixedOrders = true := by kernel_rfl
     have hu80 := Try.underlying80; have hq := fun w => ED (P := Try.prog) w 80 _ _ (some b) Try.underlying80; go_enter Try.func53, Try.ntmps53; go_wp2; rw [run_callFunc_extern Try.func64 (by kernel_rfl) (by kernel_rfl) (by kernel_rfl) (e := Extern.MapsClone.clone) (by kernel_rfl), Jw w 80 hb]; simp only [Result.andThen]; rw [Oper.upon_value]; go_wp2; rw [GK _ 80 20 _ _ _ Try.underlying80]; simp only [Result.andThen]; rw [Oper.upon_value]; go_wp2; go_ret; exact ⟨rfl, rfl⟩
abbrev zS : List C := [.sl false 5 (([] : List gu).map ie), .v (.map none)]
abbrev rS (r : Rec gu W8) : List C := [.x (q7 r.av), .v (.map (some r.pm))]
abbrev qP (m k : Nat) (L : List (Rec gu W8)) : C := .pt true [.x (gQ m k L)]
abbrev wP (W : FW) : C := .pt true [.x (gE W)]
end Go.Proofs.Ytmjnenjeckeklaa.V
