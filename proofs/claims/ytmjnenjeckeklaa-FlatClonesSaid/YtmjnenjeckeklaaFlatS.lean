import Derived.Shelf.SlIterI.Sorted
import Derived.Shelf.SlIterI.Keys
import Derived.Shelf.SortM.Plain
import Derived.Shelf.SortM.SortNone
import Derived.Test.YtmjnenjeckeklaaFlatB
namespace Go.Proofs.Ytmjnenjeckeklaa.V
open Go Go.RowKit Go.Maps Go.Sort Go.Shelf Go.Proofs Go.Proofs.Ytmjnenjeckeklaa.Q
set_option linter.unusedVariables false
set_option linter.unusedSimpArgs false
def AY : Ren := ⟨fun | 7 => 46 | 10 => 62 | n => n, fun | 23 => 66 | 26 => 3 | 3 => 82 | 28 => 95 | 0 => 0 | 27 => 94 | 33 => 111 | 4 => 4 | n => n, fun n => n⟩
theorem Pk : SlLaysZI.n7 Try.prog AY := { mixed := by kernel_rfl, f7 := ⟨Try.f46.name, by kernel_rfl, Try.func46.trans (bN some (by kernel_rfl))⟩, f10 := ⟨Try.f62.name, by kernel_rfl, Try.func62.trans (bN some (by kernel_rfl))⟩, t0 := Try.underlying0, a0 := Try.isAgg0, z0 := Try.sizeOf0, v0 := Try.zeroValue0, t4 := Try.underlying4, a4 := Try.isAgg4, z4 := Try.sizeOf4, v4 := Try.zeroValue4, t23 := Try.underlying66, a23 := Try.isAgg66, z23 := Try.sizeOf66, v23 := Try.zeroValue66, t26 := Try.underlying3, a26 := Try.isAgg3, z26 := Try.sizeOf3, v26 := Try.zeroValue3, t27 := Try.underlying94, a27 := Try.isAgg94, z27 := Try.sizeOf94, v27 := Try.zeroValue94, t28 := Try.underlying95, a28 := Try.isAgg95, z28 := Try.sizeOf95, v28 := Try.zeroValue95, t33 := Try.underlying111, a33 := Try.isAgg111, z33 := Try.sizeOf111, v33 := Try.zeroValue111 }
def xy : Ren := ⟨fun | 6 => 45 | 8 => 60 | 9 => 61 | 11 => 70 | 13 => 72 | 12 => 71 | 23 => 83 | 24 => 84 | 14 => 74 | 15 => 75 | 16 => 76 | 17 => 77 | 18 => 78 | 19 => 79 | 20 => 80 | 21 => 81 | 22 => 82 | 25 => 85 | 26 => 86 | 27 => 87 | 28 => 88 | 29 => 89 | 30 => 90 | 31 => 91 | n => n, fun | 26 => 3 | 28 => 95 | 24 => 55 | 0 => 0 | 3 => 3 | 37 => 122 | 48 => 133 | 50 => 23 | 4 => 4 | 40 => 126 | 39 => 125 | 45 => 130 | 5 => 5 | 9 => 9 | 51 => 135 | 55 => 139 | 57 => 141 | 58 => 75 | 33 => 111 | n => n, fun n => n⟩
theorem MX : SlLaysZI.n6 Try.prog xy := { mixed := by kernel_rfl, f6 := ⟨Try.f45.name, by kernel_rfl, Try.func45.trans (bN some (by kernel_rfl))⟩, f8 := ⟨Try.f60.name, by kernel_rfl, Try.func60.trans (bN some (by kernel_rfl))⟩, f11 := ⟨Try.f70.name, by kernel_rfl, Try.func70.trans (bN some (by kernel_rfl))⟩, t0 := Try.underlying0, a0 := Try.isAgg0, z0 := Try.sizeOf0, v0 := Try.zeroValue0, t24 := Try.underlying55, a24 := Try.isAgg55, z24 := Try.sizeOf55, v24 := Try.zeroValue55, t26 := Try.underlying3, a26 := Try.isAgg3, z26 := Try.sizeOf3, v26 := Try.zeroValue3, t28 := Try.underlying95, a28 := Try.isAgg95, z28 := Try.sizeOf95, v28 := Try.zeroValue95, i26 := by kernel_rfl }
def Iu : Ren := ⟨fun | 5 => 61 | 8 => 72 | 7 => 71 | 19 => 83 | 20 => 84 | 10 => 74 | 11 => 75 | 12 => 76 | 13 => 77 | 14 => 78 | 15 => 79 | 16 => 80 | 17 => 81 | 18 => 82 | 30 => 85 | 31 => 86 | 32 => 87 | 33 => 88 | 34 => 89 | 35 => 90 | 40 => 91 | n => n, fun | 23 => 55 | 25 => 3 | 3 => 3 | 32 => 122 | 22 => 55 | 0 => 0 | 44 => 133 | 46 => 23 | 4 => 4 | 36 => 126 | 35 => 125 | 41 => 130 | 5 => 5 | 9 => 9 | 53 => 135 | 57 => 139 | 63 => 141 | 64 => 75 | n => n, fun n => n⟩
theorem Pn : SlLaysM.n5 Try.prog Iu := { mixed := by kernel_rfl, f5 := ⟨Try.f61.name, by kernel_rfl, Try.func61.trans (bN some (by kernel_rfl))⟩, f7 := ⟨Try.f71.name, by kernel_rfl, Try.func71.trans (bN some (by kernel_rfl))⟩, f8 := Try.func72.trans (bN some (by kernel_rfl)), f10 := ⟨Try.f74.name, by kernel_rfl, Try.func74.trans (bN some (by kernel_rfl))⟩, f11 := ⟨Try.f75.name, by kernel_rfl, Try.func75.trans (bN some (by kernel_rfl))⟩, f12 := ⟨Try.f76.name, by kernel_rfl, Try.func76.trans (bN some (by kernel_rfl))⟩, f13 := ⟨Try.f77.name, by kernel_rfl, Try.func77.trans (bN some (by kernel_rfl))⟩, f14 := ⟨Try.f78.name, by kernel_rfl, Try.func78.trans (bN some (by kernel_rfl))⟩, f15 := ⟨Try.f79.name, by kernel_rfl, Try.func79.trans (bN some (by kernel_rfl))⟩, f16 := ⟨Try.f80.name, by kernel_rfl, Try.func80.trans (bN some (by kernel_rfl))⟩, f17 := ⟨Try.f81.name, by kernel_rfl, Try.func81.trans (bN some (by kernel_rfl))⟩, f18 := ⟨Try.f82.name, by kernel_rfl, Try.func82.trans (bN some (by kernel_rfl))⟩, f19 := Try.func83.trans (bN some (by kernel_rfl)), f20 := Try.func84.trans (bN some (by kernel_rfl)), f30 := ⟨Try.f85.name, by kernel_rfl, Try.func85.trans (bN some (by kernel_rfl))⟩, f31 := Try.func86.trans (bN some (by kernel_rfl)), f32 := Try.func87.trans (bN some (by kernel_rfl)), f33 := ⟨Try.f88.name, by kernel_rfl, Try.func88.trans (bN some (by kernel_rfl))⟩, f34 := ⟨Try.f89.name, by kernel_rfl, Try.func89.trans (bN some (by kernel_rfl))⟩, f35 := ⟨Try.f90.name, by kernel_rfl, Try.func90.trans (bN some (by kernel_rfl))⟩, f40 := ⟨Try.f91.name, by kernel_rfl, Try.func91.trans (bN some (by kernel_rfl))⟩, t0 := Try.underlying0, a0 := Try.isAgg0, z0 := Try.sizeOf0, v0 := Try.zeroValue0, t3 := Try.underlying3, a3 := Try.isAgg3, z3 := Try.sizeOf3, v3 := Try.zeroValue3, t4 := Try.underlying4, a4 := Try.isAgg4, z4 := Try.sizeOf4, v4 := Try.zeroValue4, t5 := Try.underlying5, a5 := Try.isAgg5, z5 := Try.sizeOf5, v5 := Try.zeroValue5, t9 := Try.underlying9, a9 := Try.isAgg9, z9 := Try.sizeOf9, v9 := Try.zeroValue9, t22 := Try.underlying55, a22 := Try.isAgg55, z22 := Try.sizeOf55, v22 := Try.zeroValue55, t23 := Try.underlying55, a23 := Try.isAgg55, z23 := Try.sizeOf55, v23 := Try.zeroValue55, t25 := Try.underlying3, a25 := Try.isAgg3, z25 := Try.sizeOf3, v25 := Try.zeroValue3, t32 := Try.underlying122, a32 := Try.isAgg122, z32 := Try.sizeOf122, v32 := Try.zeroValue122, t35 := Try.underlying125, a35 := Try.isAgg125, z35 := Try.sizeOf125, v35 := Try.zeroValue125, t36 := Try.underlying126, a36 := Try.isAgg126, z36 := Try.sizeOf126, v36 := Try.zeroValue126, t41 := Try.underlying130, a41 := Try.isAgg130, z41 := Try.sizeOf130, v41 := Try.zeroValue130, t44 := Try.underlying133, a44 := Try.isAgg133, z44 := Try.sizeOf133, v44 := Try.zeroValue133, t46 := Try.underlying23, a46 := Try.isAgg23, z46 := Try.sizeOf23, v46 := Try.zeroValue23, t53 := Try.underlying135, a53 := Try.isAgg135, z53 := Try.sizeOf135, v53 := Try.zeroValue135, t57 := Try.underlying139, a57 := Try.isAgg139, z57 := Try.sizeOf139, v57 := Try.zeroValue139, t63 := Try.underlying141, a63 := Try.isAgg141, z63 := Try.sizeOf141, v63 := Try.zeroValue141, t64 := Try.underlying75, a64 := Try.isAgg75, z64 := Try.sizeOf75, v64 := Try.zeroValue75 }
theorem Qo (m : Nat) : AnyZI.SortsIn Try.prog xy Fence.wide m :=
  ⟨fun blk off cap ss W hH hblk hsz => callsIn_wide.2 (AnyM.slices_Sort_int Pn blk off cap ss W hH hblk hsz),
   fun p cap W => callsIn_wide.2 (AnyM.slices_Sort_int_none Pn p cap W)⟩
def oT (l : List Int) : List Int := l.mergeSort fun x y => decide (x ≤ y)
def eI (x : Int) : List C := [.v (.int .i64 x)]
def oh.f (k : Nat) (W : FW) : Option (List Int) := bif decide (W.length ≤ 1000) && W.all (fun s => (Lit.int .i64 s.n).wf) then some (oT (W.map nj.n)) else none
def MY (v : Value) : Option (DataW Unit × List MemPlace) := some (.lit (.bool true), [])
theorem ze {H : Type} (l : List (Lit × DataW H)) : (l.foldr DataW.insert []).Perm l := by
 induction l with
 | nil => exact .refl _
 | cons x l ih => exact (WideShapes.insert_perm x _).trans (ih.cons x)
section
variable {L : List (Rec gu W8)} {clk m : Nat} {w : World}
theorem J4 (r : Rec gu W8) (h : (Lit.int .i64 r.n).wf = true) : WideElems.rd Try.prog 3 MY (rk.pS r) = some (.int .i64 r.n, .lit (.bool true)) := by
 have h' : keyOf Try.prog 3 (.int .i64 r.n) = some (.int .i64 r.n) := by simp [keyOf, Try.underlying3, mapKey, h]
 simp [WideElems.rd, Ko.pS, rk, h', MY]
theorem Fc (hm : w.heap[m]? = some (.map (rk.es L) clk)) (ho : rk.Ok clk L) (hl : L.length ≤ 1000) (hw : ∀ r ∈ L, (Lit.int .i64 r.n).wf = true) :
    ∃ D0, w.ownsMap Try.prog 3 MY m L.length D0 ∧ size D0 = L.length ∧ (intKeys D0).Perm (L.map Rec.n) := by
 have hrg : (rk.es L).toList.map (WideElems.rg Try.prog 3 MY) = L.map fun r => (Lit.int .i64 r.n, .lit (.bool true)) := by
  simp only [Ko.es, bW]; exact bY fun r hr => by simp only [Function.comp, WideElems.rg, J4 r (hw r hr), b7]
 refine ⟨_, ⟨rk.es L, clk, hm, ⟨by simp [Ko.es]; exact bR hl (by decide), ⟨?_, ?_, ?_⟩, ?_⟩, by simp [Ko.es], rfl⟩, ?_, ?_⟩
 · intro x hx; simp only [Ko.es, aX] at hx; obtain ⟨r, hr, rfl⟩ := hx; exact ho.lt r hr
 · have := ho.born; simpa [Ko.es, bW, Function.comp_def, Ko.pS] using this
 · have := ho.key; have e : ((rk.es L).toList.map (·.key)) = (L.map rk.key).map (fun n : Int => Value.int .i64 n) := by simp [Ko.es, bW, Function.comp_def, Ko.pS]
   rw [e]; exact List.pairwise_map.2 (List.Pairwise.imp (fun h e => h (by simpa using e)) this)
 · intro x hx; simp only [Ko.es, aX] at hx; obtain ⟨r, hr, rfl⟩ := hx; exact ⟨_, J4 r (hw r hr)⟩
 · rw [hrg]; exact (ze _).length_eq.trans (ak ..)
 · rw [hrg]; refine ((ze _).map _).trans ?_; rw [bW]; exact .refl _
set_option maxHeartbeats 2000000 in
theorem B3 {b : Nat} {arr : Array Value} {et : TypeId} (hb : w.heap[b]? = some (.cells arr et (0, 0))) (ha : arr.toList = [.map (some m)]) (hm : w.heap[m]? = some (.map (rk.es L) clk)) (ho : rk.Ok clk L) (hl : L.length ≤ 1000) (hw : ∀ r ∈ L, (Lit.int .i64 r.n).wf = true) :
    Calls Try.prog 23 #[.pointer (some ⟨b, 0, none⟩)] w fun e w' => ∃ (v : Value) (ss : List Int), e = .returned v ∧ ss.Perm (L.map Rec.n) ∧ w'.ownsRow w.heap.size 3 1 v ss.length ((oT ss).map encZ) ∧ Below w.heap.size w w' := by
     obtain ⟨D0, hown, hsz, hper⟩ := Fc hm ho hl hw; obtain rfl : arr = #[.map (some m)] := by cases arr; simpa using ha
     have mixed : Try.prog.follows .mixedOrders = true := by kernel_rfl
     refine (callsIn_wide (n := 6)).1 ?_; have hbl := hown.lt
     have hseq : SeqGives Fence.wide 2 Try.prog 62 #[.pointer (some ⟨w.heap.size, 0, none⟩)] encZ (fun ss => ss.Perm (intKeys D0)) (size D0) (w.alloc (.cells #[.map (some m)] 66)) :=
       AnyZI.keys_gives (ρ := AY) { Pk with } Fence.wide _ trivial rfl (by omega) w.heap.size m L.length D0 _ (by simp) (by simp) (by
         obtain ⟨es, clock, hb, Ft, hs, hD⟩ := hown
         exact ⟨es, clock, (Below.heap_alloc _ _ m hbl).trans hb, Ft, hs, hD⟩)
     have cK : ∀ mb W, CallsIn Fence.wide 5 Try.prog 46 #[.map mb] W fun e w' => e = .returned (.func (.func 62) #[] #[.pointer (some ⟨W.heap.size, 0, none⟩)]) ∧ w' = W.alloc (.cells #[.map mb] 66) := fun mb W => AnyZI.keys_in Pk Fence.wide 5 trivial rfl mb W; have cS := AnyZI.sorted_in MX Fence.wide 5 trivial trivial trivial trivial rfl (by omega) (Qo _) (enters_of Try.func61 (by kernel_rfl) rfl) 62 #[.pointer (some ⟨w.heap.size, 0, none⟩)] trivial (enters_of Try.func62 (by kernel_rfl) rfl) _ (size D0) (by rw [hsz]; exact bR hl (by decide)) (by omega) _ hseq; change CallsIn _ _ Try.prog 45 _ _ _ at cS; have hfK : Fence.wide.fn 46 := trivial; have hfS : Fence.wide.fn 45 := trivial; have hcell : w.cell? ⟨b, 0, none⟩ = some (.map (some m)) := by simp [World.cell?, hb]
     refine callsIn_of_wp Try.func23 rfl trivial ?_ rfl; simp only [Try.ntmps23, dV, bC, cW, Nat.reduceAdd, Nat.reduceSub, Array.replicate_succ, Array.replicate_zero, List.push_toArray, List.append_toArray, cn, bS]
     gi_wp2_with (first
       | (gi_at_call 46; refine (cK _ _).mono ?_; rintro e w' ⟨rfl, rfl⟩)
       | (gi_at_call 45; refine cS.mono ?_; rintro e w' ⟨v, ss, rfl, hS, hrow, hnil, hb⟩))
     go_ret; exact ⟨v, ss, rfl, hS.trans hper, ownsRow_base_a hrow (by simp), ((Below.refl _ w).alloc (aM _) _).trans (hb.mono (by simp))⟩
end
theorem Iv {ET : TypeId} {w : World} {R : Nat → Prop} (l : List Int) : ig ET w R (l.map encZ) (l.map eI).flatten [] := by
 induction l with
 | nil => exact .nil
 | cons x l ih => exact .cons (F := []) (.v rfl) ih
theorem oh.ac (k : Nat) (a0 : FW) (r : List Int) (h : oh.f k a0 = some r) : AC Try.prog 45 23 [.c (.pt true [.x (gE a0)])] [some (.c (.pt true [.x (gE a0)]))] [.c (.sl true 1 (r.map eI))] := by
 intro R w vs F hin hnd hR hlt
 cases hc : (decide (a0.length ≤ 1000) && a0.all (fun s => (Lit.int .i64 s.n).wf)) with
 | false => simp only [oh.f, hc] at h; cases h
 | true =>
  simp only [oh.f, hc, dF, aC] at h; subst h; simp only [ai, au, aV] at hc
  cases hin with
  | cons hu ht =>
   cases ht; have Tj := hu.lt; have hfr : ∀ w', Below w.heap.size w w' → kY 45 w' R _ _ _ := fun w' hb => hu.frame (fun _ h => h) (fun b hb' => hb.block b (hb'.elim (Tj b) (hlt b))); have hu0 := hu
   cases hu0 with
   | c hp =>
    cases hp with
    | pt hb hrep hwh =>
     generalize hL : Array.toList _ = xs at hrep
     cases hrep with
     | cons hx hn =>
      cases hn
      cases hx with
      | x hq =>
       obtain ⟨m, clk, L, hW, rfl, F', hm, rfl, hrs, ho⟩ := hq; subst hW; have hlen : L.length ≤ 1000 := by simpa using hc.1
       have hwf : ∀ r ∈ L, (Lit.int .i64 r.n).wf = true := fun r hr => hc.2 _ (dL hr); refine (B3 hb hL hm ho hlen hwf).mono ?_; rintro e w' ⟨v, ss, rfl, hper, ⟨hn1, hrow⟩, hbel⟩
       have hss : oT ((L.map Rec.tell).map nj.n) = oT ss := by
        have e : (L.map Rec.tell).map nj.n = L.map Rec.n := by rw [bW]; rfl
        rw [e]; exact (mergeSort_of_perm_i hper).symm
       have hll : (oT ss).length = ss.length := List.length_mergeSort ..; rw [hss]; rcases hrow with ⟨rfl, hz⟩ | ⟨g, cap, cur, rfl, hg, hgb, h1, h2, h3, h4⟩
       · have h0 : oT ss = [] := bB (hll.trans hz); rw [h0]; exact ⟨_, _, [], rfl, .cons (hfr w' hbel) .nil, .one (.c (.nil ..)), by simpa using hnd, fun b hb => .inl (by simpa using hb), .lF hbel _⟩
       · refine ⟨_, _, [g], rfl, .cons (hfr w' hbel) .nil, .one (.c (.sl (off := 0) (arr := cur) (et := (3, 0, 0)) (F := []) hgb (by rw [ak, hll]) h1 (by decide) (by omega) ?_ ?_ (.inl ⟨rfl, rfl⟩) (fun _ => rfl))), ?_, ?_, .lF hbel _⟩
         · intro r hr; obtain ⟨x, _, rfl⟩ := aX.1 hr; rfl
         · rw [cl, h4]; exact Iv _
         · rw [bA] at hnd ⊢; refine ax.2 ⟨hnd, by simp, fun a ha b hb => ?_⟩; rw [aE.1 hb]; have := Tj a ha; omega
         · intro b hb; rw [bA] at hb ⊢; rcases aT.1 hb with hb | hb
           · exact .inl hb
           · rw [aE.1 hb]; exact .inr hg
end Go.Proofs.Ytmjnenjeckeklaa.V
