import Derived.Test.YtmjnenjeckeklaaDoorRows
import Derived.Test.YtmjnenjeckeklaaDoorQx0
import Derived.ChangeSame
import Derived.ChangeVars
import Derived.JoinedOf
import Derived.LaidLaws
import Derived.LaidHandle
import Derived.OpenShut
import Derived.FnData
namespace Go.Proofs.YtmjnenjeckeklaaDoor.Laid
open Go.ChangeShapes Go.WideShapes Go.RowKit Go.Proofs.YtmjnenjeckeklaaDoor.Q
set_option linter.unusedVariables false
set_option linter.unusedSimpArgs false
abbrev L : List (String × DataW Unit) := [("math/bits.deBruijn32tab", Rows.laid_math_bits_deBruijn32tab), ("math/bits.deBruijn64tab", Rows.laid_math_bits_deBruijn64tab)]
theorem g32 : Tryd.prog.globalNamed "math/bits.deBruijn32tab" = some 0 := by kernel_rfl
theorem g64 : Tryd.prog.globalNamed "math/bits.deBruijn64tab" = some 1 := by kernel_rfl
theorem t64 : (Tryd.prog.globals[1]?).map (·.type) = some 98 := by kernel_rfl
theorem cu8 : Tryd.prog.cellsOf 5 = 1 := by kernel_rfl
def tab32 : List Int := [0, 1, 28, 2, 29, 14, 24, 3, 30, 22, 20, 15, 25, 17, 4, 8, 31, 27, 13, 23, 21, 19, 16, 7, 26, 12, 18, 6, 11, 5, 10, 9]
theorem tab_of_laid {W : World} (h : laidMetH Tryd.prog L W) : Tab W := by
  have h' : laidMet Tryd.prog L W := h
  obtain ⟨ps, hlv, _, _⟩ := h'
  obtain ⟨_, _, _, _, _, q, _, _, _, _, h2, _⟩ := hlv
  obtain ⟨g, t, cs, fuel, p, q', hg, ht, hvar, hd, _, _⟩ := h2
  obtain rfl := Option.some.inj (g64.symm.trans hg)
  obtain rfl := Option.some.inj (t64.symm.trans ht)
  obtain ⟨xs, m, _, hx, _, hl, hi⟩ := DataW.trod_array Tryd.underlying98 hd
  have hlist : xs.map (·.1) = tab64.map (fun n => DataW.lit (.int .u8 n)) := by
    have h1 : (DataW.agg (tab64.map (fun n => DataW.lit (.int .u8 n))) : DataW Unit) = DataW.agg (xs.map (·.1)) := congrArg Prod.fst hx
    exact (DataW.agg.inj h1).symm
  have hcell : ∀ i : Nat, i < 64 → W.cell? ⟨1, i, none⟩ = some (.int .u8 (tab64.getD i 0)) := by
    intro i hlt
    rw [World.var?_cell g64 hvar i]
    have h1 := hi i hlt
    rw [cu8, Nat.mul_one, List.getElem?_eq_getElem (by omega)] at h1
    obtain ⟨n, hc, hxi, _⟩ := DataW.trod_int Tryd.underlying5 h1
    have h2 : (xs.map (·.1))[i]? = some (DataW.lit (.int .u8 n)) := by
      rw [List.getElem?_map, List.getElem?_eq_getElem (by omega), Option.map_some, hxi]
    rw [hlist, List.getElem?_map] at h2
    obtain ⟨n', hn, he⟩ := Option.map_eq_some_iff.1 h2
    simp only [DataW.lit.injEq, Lit.int.injEq, true_and] at he
    subst he
    have h3 : cs.toList[i]? = some (.int .u8 n') := by
      have h4 : ((cs.toList.drop i).take 1)[0]? = some (.int .u8 n') := by rw [hc]; rfl
      rw [List.getElem?_take] at h4
      simpa using h4
    rw [List.getD_eq_getElem?_getD, hn]
    simpa using h3
  refine ⟨?_, hcell⟩
  have h0 := hcell 0 (by omega)
  unfold World.cell? at h0
  split at h0
  · next c _ _ hb => exact (Array.getElem?_eq_some_iff.1 hb).1
  · cases h0
def cells32 : Array Value := (tab32.map fun n => Value.int .u8 n).toArray
def cells64 : Array Value := (tab64.map fun n => Value.int .u8 n).toArray
noncomputable def laidWorld (os : Os) : World :=
  let w0 := World.holding Tryd.prog os ⟨#[], #[], []⟩
  { w0 with heap := (w0.heap.modify 0 (fun o => match o with
      | .cells _ t frozen => .cells cells32 t frozen
      | o => o)).modify 1 (fun o => match o with
      | .cells _ t frozen => .cells cells64 t frozen
      | o => o) }
theorem laid_row32 (os : Os) (args : Array Value) : ((laidWorld os).forCall (fun _ _ => 0) ⟨#[], args, []⟩).memory.heap[0]? = some (.cells cells32 97 (0, 0)) := by kernel_rfl
theorem laid_row64 (os : Os) (args : Array Value) : ((laidWorld os).forCall (fun _ _ => 0) ⟨#[], args, []⟩).memory.heap[1]? = some (.cells cells64 98 (0, 0)) := by kernel_rfl
theorem no_iface (l : List Int) (off : Nat) (u : TypeId) (v : Value) : (l.map fun n => Value.int .u8 n).toArray[off]? ≠ some (.iface u v) := by
  intro h
  rw [List.getElem?_toArray, List.getElem?_map] at h
  obtain ⟨n, _, hn⟩ := Option.map_eq_some_iff.1 h
  cases hn
def places : List MemPlace := MemPlace.row ⟨0, 0, none⟩ cells32.size ++ [] ++ (MemPlace.row ⟨1, 0, none⟩ cells64.size ++ [] ++ [])
theorem places_in (b off : Nat) (h : MemPlace.cell b off ∈ places) : b = 0 ∨ b = 1 := by
  have h1 : (places.all fun p => match p with | .cell b _ => b == 0 || b == 1 | _ => false) = true := by decide +kernel
  have h2 := (List.all_eq_true.1 h1) _ h
  simpa using h2
theorem laidWorld_met (os : Os) (args : Array Value) : laidMetH Tryd.prog L ((laidWorld os).forCall (fun _ _ => 0) ⟨#[], args, []⟩).memory := by
  show laidMet Tryd.prog L _
  refine ⟨places, ⟨0, 97, cells32, 8, [], _, by kernel_rfl, by kernel_rfl, by kernel_rfl, by kernel_rfl, ⟨1, 98, cells64, 8, [], [], by kernel_rfl, by kernel_rfl, by kernel_rfl, by kernel_rfl, rfl, rfl⟩, rfl⟩, by decide +kernel, fun b off h => ?_⟩
  rcases places_in b off h with rfl | rfl
  · refine ⟨⟨_, _, laid_row32 os args⟩, fun u v hc => ?_⟩
    simp only [World.cell?, laid_row32 os args] at hc
    exact absurd hc (no_iface tab32 off u v)
  · refine ⟨⟨_, _, laid_row64 os args⟩, fun u v hc => ?_⟩
    simp only [World.cell?, laid_row64 os args] at hc
    exact absurd hc (no_iface tab64 off u v)
end Go.Proofs.YtmjnenjeckeklaaDoor.Laid
