/- V, eleventh text: stores; append; parts of slices. -/
import Derived.Test.YtfbjhioefkimbaaV9
namespace Go.Proofs.Ytfbjhioefkimbaa.V
open Go Go.RowKit
set_option linter.unusedVariables false
set_option linter.unusedSimpArgs false

def scalarC : C → Bool
  | .v x => stopV x
  | .err _ => true
  | _ => false
section
variable {P : Program} {ET : TypeId} {w w' : World} {R : Nat → Prop} {K : Ctx} {σ : St} {a : Act} {Fs : Nat → List Nat} {o : Oper} {d : Nat}

theorem setRow_at {w : World} {g : Nat} {cur new : Array Value} {t : TypeId} {fr : Nat × Nat} (h : w.heap[g]? = some (.cells cur t fr)) : (w.setRow g new).heap[g]? = some (.cells new t fr) := setRow_heap w g cur new t fr h
theorem setRow_ne {w : World} {g b : Nat} {new : Array Value} (h : b ≠ g) : (w.setRow g new).heap[b]? = w.heap[b]? := by
  simp [World.setRow, Array.getElem?_modify, Ne.symm h]
theorem setRow_keeps {w : World} {g : Nat} {new : Array Value} : Keeps w [g] (w.setRow g new) :=
  ⟨rfl, rfl, rfl, by simp [World.setRow], fun b _ hb => setRow_ne (by simpa using hb)⟩
theorem run_storeVar {t n : Nat} (ht : (P.info? t).map (·.size) = some n) {b o : Nat} {arr : Array Value} {et : TypeId} {v : Value} (hb : w.heap[b]? = some (.cells arr et (0, 0))) (hn : v.cells.size = n) (hle : o + n ≤ arr.size) (h1 : ∀ x ∈ v.cells.toList, x.oneCell' = true) :
    (Instr.storeAt t (.pointer (some ⟨b, o, none⟩)) v).run P w = .ok () (w.setRow b (arr.toList.take o ++ (v.cells.toList ++ arr.toList.drop (o + n))).toArray) := by
  have h := run_storeCells_at (P := P) b o et v.cells.toList 0 arr w hb (by simp; omega) h1
  rw [show o + 0 = o by rfl, show o + v.cells.toList.length = o + n by simp [hn]] at h
  cases hi : P.info? t with
  | none => simp [hi] at ht
  | some i =>
    have hs : i.size = n := by simpa [hi] using ht
    have hsz : (sizeOf t).run P w = .ok n w := by simp [sizeOf, typeInfo, hi, hs]
    rw [List.append_assoc] at h
    simp only [Instr.storeAt, Instr.sureAddr, storeVar, Sem.run_bind, Sem.run_pure, Result.andThen_ok, hsz]
    rw [if_neg (by simp [hn])]
    exact h

/-- What a store needs, told at once. -/
theorem SimF.store_ (hs1 : SimF K σ a w Fs) {r off n b2 o2 : Nat} {s : Sel} {p : List (Nat × Sel)} {c : C} {cs us : List C} {val : Value} {G : List Nat} (hw2 : walk w (a.tmps.getD r undef) s p = some (b2, o2)) (hr : σ r = .u (.c c)) (hg : getP c s p = some cs) (hown : ownP c s p = true)
    (hu : RepL K.ET w K.R val.cells.toList us G) (hG : Free K Fs G) (hn : us.length = n) (hle : off + n ≤ cs.length) :
    ∃ arr et, w.heap[b2]? = some (.cells arr et (0, 0)) ∧ o2 + off + n ≤ arr.size ∧ (∃ Fi, RepL K.ET w K.R ((arr.toList.drop o2).take cs.length) cs Fi) ∧ b2 ∈ Fs r ∧
      ∀ w', w' = w.setRow b2 (arr.toList.take (o2 + off) ++ (val.cells.toList ++ arr.toList.drop (o2 + off + n))).toArray →
        ∃ F2, RepC K.ET w' K.R (a.tmps.getD r undef) (setP c s p (cs.take off ++ (us ++ cs.drop (off + n)))) F2 ∧ F2.Nodup ∧ (∀ b ∈ F2, b ∈ Fs r ∨ b ∈ G) := by
  have hrep := hs1.rep r
  rw [hr] at hrep
  have hnd := hs1.nd r
  have hownR := hs1.own r
  generalize hv0 : a.tmps.getD r undef = v0 at hrep hw2
  have hGd : ∀ b ∈ G, b ∉ Fs r := fun b hb => (hG.2 b hb).1 r
  generalize Fs r = Fr at hrep hnd hownR hGd
  cases hrep with
  | u hrep =>
  cases hrep with
  | c hrep =>
    obtain ⟨b, o', arr, et, Fo, Fi, h1, h2, h3, h4, h5, h6, h7⟩ := RepC.lens p hrep hnd hg hown
    rw [h1] at hw2
    injection hw2 with hw2
    injection hw2 with e1 e2
    subst e1; subst e2
    have hbF : b ∈ Fr := h5.mem_iff.mpr (List.mem_append_left _ h6)
    refine ⟨arr, et, h2, by omega, ⟨Fi, h4⟩, hbF, fun w' hw' => ?_⟩
    have hnd2 : (Fo ++ Fi).Nodup := h5.nodup_iff.mp hnd
    have hbFi : b ∉ Fi := fun h => (List.nodup_append.mp hnd2).2.2 b h6 b h rfl
    have hbG : b ∉ G := fun h => hGd b h hbF
    have hbR : ¬ K.R b := (hownR b hbF).1
    have hsame : ∀ x, x ≠ b → w'.heap[x]? = w.heap[x]? := fun x hx => by rw [hw']; exact setRow_ne hx
    have hne : ∀ x, K.R x → x ≠ b := fun x hx e => hbR (e ▸ hx)
    have h4' : RepL K.ET w' K.R ((arr.toList.drop o').take cs.length) cs Fi := h4.frame (fun _ h => h) (fun x hx => hsame x (hx.elim (fun h e => hbFi (e ▸ h)) (hne x)))
    have hu' : RepL K.ET w' K.R val.cells.toList us G := hu.frame (fun _ h => h) (fun x hx => hsame x (hx.elim (fun h e => hbG (e ▸ h)) (hne x)))
    obtain ⟨Fd, hwin, hndd, hsub⟩ := RepL.window h4' hu' hn hle
    have hFd : Fd.Nodup := hndd (by
      rw [List.nodup_append]
      refine ⟨(List.nodup_append.mp hnd2).2.1, hG.1, fun x hx y hy e => ?_⟩
      subst e
      exact hGd x hy (h5.mem_iff.mpr (List.mem_append_right _ hx)))
    have hlen : ((arr.toList.drop o').take cs.length).length = cs.length := h4.length
    have hval : val.cells.toList.length = n := by rw [hu.length, hn]
    obtain ⟨F2, hc2, hp2⟩ := h7 w' _ _ _ Fd (by simp [hn]; omega) (by rw [hw']; exact setRow_at h2) (by
      simp only [List.toList_toArray]
      have e1 : arr.toList = arr.toList.take o' ++ ((arr.toList.drop o').take cs.length ++ arr.toList.drop (o' + cs.length)) := by
        rw [← List.drop_drop, List.take_append_drop, List.take_append_drop]
      generalize hW : (arr.toList.drop o').take cs.length = W at e1 hlen
      generalize hA : arr.toList.take o' = A at e1
      generalize hD : arr.toList.drop (o' + cs.length) = D at e1
      have lA : A.length = o' := by rw [← hA, List.length_take]; simp; omega
      rw [e1]
      have t1 : (A ++ (W ++ D)).take (o' + off) = A ++ W.take off := by
        rw [← lA, List.take_length_add_append, List.take_append_of_le_length (by omega)]
      have t2 : (A ++ (W ++ D)).drop (o' + off + n) = W.drop (off + n) ++ D := by
        rw [Nat.add_assoc, ← lA, List.drop_length_add_append, List.drop_append_of_le_length (by omega)]
      rw [t1, t2]
      simp) (fun x hx hxb => hsame x hxb) (fun x hx => hsame x (hne x hx)) hwin
    refine ⟨F2, hc2, ?_, fun x hx => ?_⟩
    · rw [hp2.nodup_iff, List.nodup_append]
      refine ⟨(List.nodup_append.mp hnd2).1, hFd, fun x hx y hy e => ?_⟩
      subst e
      rcases hsub x hy with h | h
      · exact (List.nodup_append.mp hnd2).2.2 x hx x h rfl
      · exact hGd x h (h5.mem_iff.mpr (List.mem_append_left _ hx))
    · rcases List.mem_append.mp (hp2.mem_iff.mp hx) with h | h
      · exact .inl (h5.mem_iff.mpr (List.mem_append_left _ h))
      · rcases hsub x h with h | h
        · exact .inl (h5.mem_iff.mpr (List.mem_append_right _ h))
        · exact .inr h
theorem RepL.drop_take {xs : List Value} {cs : List C} {F : List Nat} (h : RepL ET w R xs cs F) (off n : Nat) : ∃ G, RepL ET w R ((xs.drop off).take n) ((cs.drop off).take n) G := by
  have hl := h.length
  rcases Nat.le_total off cs.length with ho | ho
  · obtain ⟨ya, yz, F1, F2, e1, _, ha, hz⟩ := RepL.split (cs := cs.take off) (ds := cs.drop off) (by rw [List.take_append_drop]; exact h)
    have la : ya.length = off := by rw [ha.length, List.length_take]; omega
    have t1 : xs.drop off = yz := by rw [e1, ← la, List.drop_left]
    obtain ⟨yx, yb, F3, F4, e3, _, hx, hb⟩ := RepL.split (cs := (cs.drop off).take n) (ds := (cs.drop off).drop n) (by rw [List.take_append_drop]; exact hz)
    refine ⟨F3, ?_⟩
    rw [t1, e3]
    rcases Nat.le_total n (cs.drop off).length with hn | hn
    · have lx : yx.length = n := by rw [hx.length, List.length_take]; omega
      rw [← lx, List.take_left, lx]; exact hx
    · have : yb = [] := List.eq_nil_of_length_eq_zero (by rw [hb.length, List.length_drop]; omega)
      rw [this, List.append_nil, List.take_of_length_le (by rw [hx.length, List.length_take]; omega)]
      exact hx
  · rw [List.drop_eq_nil_of_le ho, List.drop_eq_nil_of_le (by omega)]
    exact ⟨[], by simpa using RepL.nil⟩
theorem RepL.scalar {xs : List Value} {cs : List C} {F : List Nat} (h : RepL ET w R xs cs F) (hs : cs.all scalarC = true) : ∀ x ∈ xs, stopV x = true := by
  induction cs generalizing xs F with
  | nil => cases h; simp
  | cons c cs ih =>
    cases h with
    | cons h t =>
      simp only [List.all_cons, Bool.and_eq_true] at hs
      intro x hx
      rcases List.mem_cons.mp hx with rfl | hx
      · cases h with
        | v h => exact hs.1
        | err t => cases t <;> rfl
        | _ => simp [scalarC] at hs
      · exact ih t hs.2 x hx
theorem step_none {K : Ctx} {σ' : St} (hd : o.dst = none) (h : ∀ a w, Sim K σ a w → ∃ w', (execOp a.eval o).run P w = .ok .skip w' ∧ Sim K σ' a w') : Step P K σ o σ' := by
  intro a w hs
  obtain ⟨w', h1, h2⟩ := h a w hs
  simp only [Oper.wp, h1, Oper.upon_skip, hd, Act.put]
  exact h2
theorem upd_upd (σ : St) (r : Nat) (x y : T) : upd (upd σ r x) r y = upd σ r y := by funext i; unfold upd; split <;> rfl
/-- A store of anything; what leads through memory is known no more. -/
theorem s_store {t i r off n : Nat} {s : Sel} {p : List (Nat × Sel)} {c : C} {cs : List C} {x : Operand} {u : U} {l : List Nat} (ho : o.op = .store t (.tmp i) x) (ht : (P.info? t).map (·.size) = some n) (hi : aliasT i (σ i) = .addr r s p off) (hx : Src K σ x u l) (hr : junks σ l r = .u (.c c)) (hg : getP c s p = some cs)
    (hown : ownP c s p = true) (hn : (cellsU u).length = n) (hle : off + n ≤ cs.length) (hlv : liveL (cellsU u) = true) (hd : o.dst = none) : Step P K σ o (upd (fun j => killD (junks σ l j)) r (.u (.c (setP c s p (cs.take off ++ (cellsU u ++ cs.drop (off + n))))))) := by
  refine step_none hd ?_
  rintro a w ⟨Fs, hs⟩
  have hal := (OpT.tmp hi).rep hs
  obtain ⟨G, Fs1, hu, hs1, hG, _, _⟩ := hs.take hx
  have huc := hu.cells hx.live
  generalize hv : a.eval (.tmp i) = v at hal
  cases hal with
  | @addr _ _ b2 o2 _ _ hw2 =>
  obtain ⟨arr, et, h1, h2, _, h3, h4⟩ := hs1.store_ (n := n) hw2 hr hg hown huc hG hn hle
  have hcl : (a.eval x).cells.size = n := by have := huc.length; rw [hn] at this; simpa using this
  have hrun := run_storeVar (P := P) (v := a.eval x) ht h1 hcl h2 (huc.oneCell hlv)
  refine ⟨w.setRow b2 (arr.toList.take (o2 + off) ++ ((a.eval x).cells.toList ++ arr.toList.drop (o2 + off + n))).toArray, by simp only [execOp, ho, hv, Sem.run_bind, hrun, Result.andThen_ok, Sem.run_pure], ?_⟩
  obtain ⟨F2, k1, k2, k3⟩ := h4 _ rfl
  have h5 := (hs1.out r).world (E1 := [b2]) (w' := w.setRow b2 (arr.toList.take (o2 + off) ++ ((a.eval x).cells.toList ++ arr.toList.drop (o2 + off + n))).toArray) setRow_keeps
    (fun b hb => by rw [List.mem_singleton.mp hb]; exact (hs1.own r b2 h3).2) (fun j b hb e => by
      rw [List.mem_singleton] at e; subst e
      unfold updF at hb
      split at hb
      · cases hb
      · rename_i hne; exact hne (hs1.dis j r b hb h3)) (fun b hb => by rw [List.mem_singleton.mp hb]; exact (hs1.own r b2 h3).1)
  have h6 := h5.in_ (i := r) (t := .u (.c (setP c s p (cs.take off ++ (cellsU u ++ cs.drop (off + n)))))) (F := F2) (.u (.c k1)) k2 (fun j hj b hb hb2 => by
      unfold updF at hb2
      rw [if_neg hj] at hb2
      rcases k3 b hb with h | h
      · exact hj (hs1.dis j r b hb2 h)
      · exact (hG.2 b h).1 j hb2) (fun b hb => (k3 b hb).elim (fun h => hs1.own r b h) (fun h => (hG.2 b h).2))
  have e : (upd (fun j => killD (upd (junks σ l) r T.junk j)) r (.u (.c (setP c s p (cs.take off ++ (cellsU u ++ cs.drop (off + n))))))) = upd (fun j => killD (junks σ l j)) r (.u (.c (setP c s p (cs.take off ++ (cellsU u ++ cs.drop (off + n)))))) := by
    funext j; by_cases h : j = r <;> simp [upd, h]
  rw [e] at h6
  exact ⟨_, h6⟩
/-- A store of whole numbers, bools and the like over such: all ways stay. -/
theorem s_storeS {t i r off n : Nat} {s : Sel} {p : List (Nat × Sel)} {c : C} {cs us : List C} {x : Operand} {u : U} (ho : o.op = .store t (.tmp i) x) (ht : (P.info? t).map (·.size) = some n) (hi : aliasT i (σ i) = .addr r s p off) (hx : opT K.ET σ x = .u u) (hc : copyU u = true) (hr : σ r = .u (.c c)) (hg : getP c s p = some cs)
    (hown : ownP c s p = true) (hu : cellsU u = us) (hn : us.length = n) (hle : off + n ≤ cs.length) (hlv : liveL us = true) (hsc : ((cs.drop off).take n).all scalarC = true) (hlu : liveU u = true) (hd : o.dst = none) : Step P K σ o (upd σ r (.u (.c (setP c s p (cs.take off ++ (us ++ cs.drop (off + n))))))) := by
  subst hu
  refine step_none hd ?_
  rintro a w ⟨Fs, hs⟩
  have hal := (OpT.tmp hi).rep hs
  have hu := opT_rep hs hx (by simp)
  have huc : RepL K.ET w K.R (a.eval x).cells.toList (cellsU u) [] := by
    generalize a.eval x = vx at hu
    cases hu with | u h => exact h.cells hlu
  have hG : Free K Fs [] := ⟨List.nodup_nil, by simp⟩
  generalize hv : a.eval (.tmp i) = v at hal
  cases hal with
  | @addr _ _ b2 o2 _ _ hw2 =>
  obtain ⟨arr, et, h1, h2, ⟨Fi, hwin⟩, h3, h4⟩ := hs.store_ (n := n) hw2 hr hg hown huc hG hn hle
  have hcl : (a.eval x).cells.size = n := by have := huc.length; rw [hn] at this; simpa using this
  have hrun := run_storeVar (P := P) (v := a.eval x) ht h1 hcl h2 (huc.oneCell hlv)
  refine ⟨w.setRow b2 (arr.toList.take (o2 + off) ++ ((a.eval x).cells.toList ++ arr.toList.drop (o2 + off + n))).toArray, by simp only [execOp, ho, hv, Sem.run_bind, hrun, Result.andThen_ok, Sem.run_pure], ?_⟩
  obtain ⟨F2, k1, k2, k3⟩ := h4 _ rfl
  have h5 := (hs.out r).worldS (E1 := [b2]) (w' := w.setRow b2 (arr.toList.take (o2 + off) ++ ((a.eval x).cells.toList ++ arr.toList.drop (o2 + off + n))).toArray) setRow_keeps
    (fun b hb => by rw [List.mem_singleton.mp hb]; exact (hs.own r b2 h3).2) (fun j b hb e => by
      rw [List.mem_singleton] at e; subst e
      unfold updF at hb
      split at hb
      · cases hb
      · rename_i hne; exact hne (hs.dis j r b hb h3)) (fun b hb => by rw [List.mem_singleton.mp hb]; exact (hs.own r b2 h3).1) (fun ad y hy hst => by
      by_cases hb : ad.block = b2
      · obtain ⟨adb, ado, ads⟩ := ad
        simp only at hb
        subst hb
        simp only [World.cell?, h1] at hy
        cases ads with
        | some _ => simp at hy
        | none =>
          simp only [Option.isSome_none, Bool.false_eq_true, if_false] at hy
          simp only [World.cell?, setRow_at h1, Option.isSome_none, Bool.false_eq_true, if_false, List.getElem?_toArray]
          have hvl : (a.eval x).cells.toList.length = n := by simpa using hcl
          by_cases hlo : ado < o2 + off
          · rw [List.getElem?_append_left (by rw [List.length_take]; simp; omega), List.getElem?_take_of_lt hlo]
            simpa using hy
          · by_cases hhi : ado < o2 + off + n
            · exfalso
              obtain ⟨G2, hsub⟩ := hwin.drop_take off n
              have hmem : y ∈ (((arr.toList.drop o2).take cs.length).drop off).take n := by
                rw [List.mem_iff_getElem?]
                refine ⟨ado - (o2 + off), ?_⟩
                rw [List.getElem?_take_of_lt (by omega), List.getElem?_drop, List.getElem?_take_of_lt (by omega), List.getElem?_drop]
                rw [show o2 + (off + (ado - (o2 + off))) = ado by omega]
                simpa using hy
              rw [hsub.scalar hsc y hmem] at hst
              cases hst
            · have hla : (arr.toList.take (o2 + off)).length = o2 + off := by rw [List.length_take]; simp; omega
              rw [List.getElem?_append_right (by omega), List.getElem?_append_right (by omega), List.getElem?_drop, hla, hvl]
              rw [show o2 + off + n + (ado - (o2 + off) - n) = ado by omega]
              simpa using hy
      · rw [cell_blk (setRow_ne hb)]; exact hy)
  have h6 := h5.in_ (i := r) (t := .u (.c (setP c s p (cs.take off ++ (cellsU u ++ cs.drop (off + n)))))) (F := F2) (.u (.c k1)) k2 (fun j hj b hb hb2 => by
      unfold updF at hb2
      rw [if_neg hj] at hb2
      rcases k3 b hb with h | h
      · exact hj (hs.dis j r b hb2 h)
      · cases h) (fun b hb => (k3 b hb).elim (fun h => hs.own r b h) (fun h => by cases h))
  rw [upd_upd] at h6
  exact ⟨_, h6⟩
end
end Go.Proofs.Ytfbjhioefkimbaa.V
namespace Go.Proofs.Ytfbjhioefkimbaa.V
open Go Go.RowKit
set_option linter.unusedVariables false
set_option linter.unusedSimpArgs false

/-- A bound of a part: none, or a whole number. -/
inductive Bnd (ET : TypeId) (σ : St) : Option Operand → Option Nat → Prop
  | none : Bnd ET σ none none
  | some {x : Operand} {k : IntKind} {e : Int} (h : opT ET σ x = .u (.c (.v (.int k e)))) (h0 : 0 ≤ e) : Bnd ET σ (some x) (some e.toNat)
section
variable {P : Program} {ET : TypeId} {w w' : World} {R : Nat → Prop} {K : Ctx} {σ : St} {a : Act} {Fs : Nat → List Nat} {o : Oper} {d : Nat}

theorem run_bound {x : Value} {k : IntKind} {e : Int} {y : Nat} {code : BoundsCode} (hx : x = .int k e) (h0 : 0 ≤ e) (h1 : e.toNat ≤ y) (w : World) : (Instr.sliceBound x y code).run P w = .ok e.toNat w := by
  subst hx
  have : 0 ≤ e ∧ e ≤ (y : Int) := ⟨h0, by omega⟩
  simp [Instr.sliceBound, asIntOf, this, pure]
theorem run_bounds {lo hi : Option Operand} {l h : Option Nat} (hs : SimF K σ a w Fs) (hl : Bnd K.ET σ lo l) (hh : Bnd K.ET σ hi h) {len cap : Nat} (hc : len ≤ cap) (h1 : l.getD 0 ≤ h.getD len) (h2 : h.getD len ≤ cap) (w2 : World) :
    (Instr.sliceBounds true len cap (lo.map a.eval) (hi.map a.eval) none).run P w2 = .ok (l.getD 0, h.getD len, cap) w2 := by
  cases hl with
  | none =>
    cases hh with
    | none => simp [Instr.sliceBounds, pure]
    | @some x k e hx h0 =>
      have := run_bound (P := P) (code := .sliceAcap) (opT_v hs hx) h0 (y := cap) (by simpa using h2) w2
      simp [Instr.sliceBounds, this, pure]
  | @some x' k' e' hx' h0' =>
    cases hh with
    | none =>
      have := run_bound (P := P) (code := .sliceB) (opT_v hs hx') h0' (y := len) (by simpa using h1) w2
      simp [Instr.sliceBounds, this, pure]
    | @some x k e hx h0 =>
      have t1 := run_bound (P := P) (code := .sliceAcap) (opT_v hs hx) h0 (y := cap) (by simpa using h2) w2
      have t2 := run_bound (P := P) (code := .sliceB) (opT_v hs hx') h0' (y := e.toNat) (by simpa using h1) w2
      simp [Instr.sliceBounds, t1, t2, pure]
theorem run_sliceAt {t sz bytes : Nat} (hu : SliceT P t sz bytes) {ad : Option Addr} {len cap l h : Nat} {lo hi : Option Value} {w : World} (hb : (Instr.sliceBounds true len cap lo hi none).run P w = .ok (l, h, cap) w) :
    (Instr.sliceAt t (.slice ad len cap) lo hi none).run P w = .ok (.slice (if cap = l then ad else ad.map (·.add (l * sz))) (h - l) (cap - l)) w := by
  obtain ⟨e, i, hu, hi', hsz, _, _⟩ := hu
  have hs : (sizeOf e).run P w = .ok sz w := by simp [sizeOf, typeInfo, hi', hsz]
  simp only [Instr.sliceAt, Sem.run_bind, run_underlying hu, Result.andThen_ok, Instr.slice, hb, hs, Sem.run_pure]
theorem s_sliceV {t i r sz bytes lo n l' h' : Nat} {pl : Option (Sel × List (Nat × Sel) × Nat)} {lx hx : Option Operand} {l h : Option Nat} (ho : o.op = .slice t (.tmp i) lx hx none) (hu : SliceT P t sz bytes) (hi : viewOf (aliasT i (σ i)) = some (r, pl, sz, lo, n)) (hl : Bnd K.ET σ lx l) (hh : Bnd K.ET σ hx h)
    (e1 : l.getD 0 = l') (e2 : h.getD n = h') (h1 : l' ≤ h') (h2 : h' ≤ n) (hd : o.dst = some d) (hn : okT K d = true) (hrd : (r == d) = false) : Step P K σ o (put σ d (.view r pl sz (lo + l') (h' - l'))) :=
  step_quiet hd hn hrd (fun a w Fs hs => by
    obtain ⟨sv, hsl, hsub⟩ := ((OpT.tmp rfl).rep hs (x := .tmp i)).viewOf hi
    generalize hev : a.eval (.tmp i) = v at hsub
    · rcases hsub with ⟨rfl, rfl, rfl, rfl⟩ | ⟨b, o', L, cap, rfl, hcap, hlo, hv⟩
      · have : l' = 0 ∧ h' = 0 := by omega
        obtain ⟨rfl, rfl⟩ := this
        have hb := run_bounds (P := P) hs hl hh (len := 0) (cap := 0) (Nat.le_refl _) (by omega) (by omega) w
        rw [e1, e2] at hb
        refine ⟨.slice none 0 0, ?_, .view hsl (.inl ⟨rfl, rfl, rfl, rfl⟩)⟩
        have := run_sliceAt hu (ad := none) hb
        simp only [execOp, ho, hev, Sem.run_bind, Option.map_none, this, Result.andThen_ok, Sem.run_pure]
        simp
      · rcases hv with rfl | ⟨hn0, hlc, o2, ho2, rfl⟩
        · have hb := run_bounds (P := P) hs hl hh (len := n) (cap := cap - lo) (by omega) (by omega) (by omega) w
          rw [e1, e2] at hb
          have hrun := run_sliceAt hu (ad := some ⟨b, o' + lo * sz, none⟩) hb
          by_cases hc : cap - lo = l'
          · refine ⟨.slice (some ⟨b, o' + lo * sz, none⟩) (h' - l') 0, ?_, .view hsl (.inr ⟨b, o', L, cap, rfl, hcap, by omega, .inr ⟨by omega, by omega, o' + lo * sz, by rw [Nat.add_mul]; omega, ?_⟩⟩)⟩
            · rw [if_pos hc, show cap - lo - l' = 0 by omega] at hrun
              simp only [execOp, ho, hev, Sem.run_bind, Option.map_none, hrun, Result.andThen_ok, Sem.run_pure]
            · rw [show h' - l' = 0 by omega]
          · refine ⟨.slice (some ⟨b, o' + (lo + l') * sz, none⟩) (h' - l') (cap - (lo + l')), ?_, .view hsl (.inr ⟨b, o', L, cap, rfl, hcap, by omega, .inl rfl⟩)⟩
            rw [if_neg hc] at hrun
            simp only [execOp, ho, hev, Sem.run_bind, Option.map_none, hrun, Result.andThen_ok, Sem.run_pure, Option.map_some, Addr.add_mid]
            rw [Nat.add_mul, Nat.add_assoc, Nat.sub_sub]
        · subst hn0
          have : l' = 0 ∧ h' = 0 := by omega
          obtain ⟨rfl, rfl⟩ := this
          have hb := run_bounds (P := P) hs hl hh (len := 0) (cap := 0) (Nat.le_refl _) (by omega) (by omega) w
          rw [e1, e2] at hb
          have hrun := run_sliceAt hu (ad := some ⟨b, o2, none⟩) hb
          refine ⟨.slice (some ⟨b, o2, none⟩) 0 0, ?_, .view hsl (.inr ⟨b, o', L, cap, rfl, hcap, by omega, .inr ⟨rfl, by omega, o2, by simpa using ho2, rfl⟩⟩)⟩
          simp only [execOp, ho, hev, Sem.run_bind, Option.map_none, hrun, Result.andThen_ok, Sem.run_pure]
          simp)

/-- The rows that a slice operand shows, to be read. -/
inductive Rows (K : Ctx) (σ : St) (sz : Nat) : Operand → List (List C) → Prop
  | nil : Rows K σ sz (.const (.slice none 0 0)) []
  | u {i : Nat} {own : Bool} {rows : List (List C)} (h : σ i = .u (.c (.sl own sz rows))) : Rows K σ sz (.tmp i) rows
  | v0 {i r lo n : Nat} {own : Bool} {rows rows2 : List (List C)} (h : viewOf (aliasT i (σ i)) = some (r, none, sz, lo, n)) (hr : σ r = .u (.c (.sl own sz rows))) (e : (rows.drop lo).take n = rows2) : Rows K σ sz (.tmp i) rows2
  | v1 {i r lo n off : Nat} {s : Sel} {p : List (Nat × Sel)} {c : C} {cs : List C} {own : Bool} {rows rows2 : List (List C)} (h : viewOf (aliasT i (σ i)) = some (r, some (s, p, off), sz, lo, n)) (hr : σ r = .u (.c c)) (hg : getP c s p = some cs) (hc : cs[off]? = some (.sl own sz rows)) (e : (rows.drop lo).take n = rows2) : Rows K σ sz (.tmp i) rows2
/-- Whatever is lent is nobody's to write. -/
def lentR (K : Ctx) (Fs : Nat → List Nat) : Nat → Prop := fun b => K.R b ∨ ∃ j, b ∈ Fs j
/-- What a slice's value shows, to be read: its cells. -/
def ShowsRows (ET : TypeId) (w : World) (R S : Nat → Prop) (v : Value) (sz : Nat) (rows : List (List C)) (F : List Nat) : Prop :=
  (v = .slice none 0 0 ∧ rows = []) ∨
  ∃ b off cap arr, ∃ et : TypeId × Nat × Nat, v = .slice (some ⟨b, off, none⟩) rows.length cap ∧ w.heap[b]? = some (.cells arr et.1 et.2) ∧ off + rows.length * sz ≤ arr.size ∧ off + cap * sz ≤ arr.size ∧ rows.length ≤ cap ∧ (∀ r ∈ rows, r.length = sz) ∧ RepL ET w R ((arr.toList.drop off).take (rows.length * sz)) rows.flatten F ∧ 0 < sz ∧ S b
theorem RepC.shows {S : Nat → Prop} {v : Value} {own : Bool} {sz : Nat} {rows : List (List C)} {F : List Nat} (h : RepC ET w R v (.sl own sz rows) F) (hF : ∀ b ∈ F, S b) (hR : ∀ b, R b → S b) : ∃ G, ShowsRows ET w R S v sz rows G := by
  cases h with
  | nil => exact ⟨[], .inl ⟨rfl, rfl⟩⟩
  | @sl b off len cap _ _ arr et _ F1 F' hb hlen hcap hsz hfit hrow hrep ho =>
    subst hlen
    have := Nat.mul_le_mul_right sz hcap
    exact ⟨F1, .inr ⟨b, off, cap, arr, et, rfl, hb, by omega, hfit, hcap, hrow, hrep, hsz, ho.mem.elim (hF b) (hR b)⟩⟩
theorem ShowsRows.sub {S : Nat → Prop} {sv v : Value} {sz lo n : Nat} {rows : List (List C)} {F : List Nat} (h : ShowsRows ET w R S sv sz rows F) (hs : SubSl sz sv lo n v) : ∃ G, ShowsRows ET w R S v sz ((rows.drop lo).take n) G := by
  rcases hs with ⟨rfl, rfl, rfl, rfl⟩ | ⟨b, o', L, cap, rfl, hcap, hlo, hv⟩
  · exact ⟨[], .inl ⟨rfl, by simp⟩⟩
  · rcases h with ⟨h, _⟩ | ⟨b2, off, cap2, arr, et, h, hb, h1, h2, h3, hrow, hrep, hsz, hS⟩
    · cases h
    · injection h with e1 e2 e3
      injection e1 with e1
      injection e1 with e1 e1b
      subst e1; subst e1b; subst e2; subst e3
      have hlen : ((rows.drop lo).take n).length = n := by rw [List.length_take, List.length_drop]; omega
      have hrow' : ∀ r ∈ (rows.drop lo).take n, r.length = sz := fun r hr => hrow r (List.mem_of_mem_drop (List.mem_of_mem_take hr))
      have hfl : ((rows.drop lo).take n).flatten = (rows.flatten.drop (lo * sz)).take (n * sz) := by
        have e1 : rows.flatten = (rows.take lo).flatten ++ (((rows.drop lo).take n).flatten ++ ((rows.drop lo).drop n).flatten) := by
          rw [← List.flatten_append, List.take_append_drop, ← List.flatten_append, List.take_append_drop]
        have l1 : (rows.take lo).flatten.length = lo * sz := by rw [flatten_len (fun r hr => hrow r (List.mem_of_mem_take hr)), List.length_take, Nat.min_eq_left (by omega)]
        have l2 : ((rows.drop lo).take n).flatten.length = n * sz := by rw [flatten_len hrow', hlen]
        rw [e1, ← l1, List.drop_left, ← l2, List.take_left]
      have hmul : lo * sz + n * sz ≤ rows.length * sz := by rw [← Nat.add_mul]; exact Nat.mul_le_mul_right _ (by omega)
      obtain ⟨G, hG⟩ := hrep.drop_take (lo * sz) (n * sz)
      have hwin : (((arr.toList.drop o').take (rows.length * sz)).drop (lo * sz)).take (n * sz) = (arr.toList.drop (o' + lo * sz)).take (n * sz) := by
        rw [List.drop_take, List.drop_drop, List.take_take, Nat.min_eq_left (by omega)]
      rw [hwin, ← hfl] at hG
      rcases hv with rfl | ⟨hn0, hlc, o2, ho2, rfl⟩
      · refine ⟨G, .inr ⟨b, o' + lo * sz, cap - lo, arr, et, by rw [hlen], hb, by rw [hlen]; omega, ?_, by rw [hlen]; omega, hrow', by rw [hlen]; exact hG, hsz, hS⟩⟩
        have : lo * sz + (cap - lo) * sz = cap * sz := by rw [← Nat.add_mul]; congr 1; omega
        omega
      · subst hn0
        refine ⟨[], .inr ⟨b, o2, 0, arr, et, by simp, hb, ?_, ?_, by simp, by simp, by simpa using RepL.nil, hsz, hS⟩⟩
        · simp; omega
        · simp; omega
theorem Rows.shows {x : Operand} {sz : Nat} {rows : List (List C)} (h : Rows K σ sz x rows) (hs : SimF K σ a w Fs) : ∃ G, ShowsRows K.ET w K.R (lentR K Fs) (a.eval x) sz rows G := by
  cases h with
  | nil => exact ⟨[], .inl ⟨rfl, rfl⟩⟩
  | @u i own _ h =>
    have h1 := hs.rep i
    rw [h] at h1
    rw [getD_eval]
    generalize a.tmps.getD i undef = v at h1
    generalize hF : Fs i = F at h1
    cases h1 with | u h1 => cases h1 with | c h1 => exact h1.shows (fun b hb => .inr ⟨i, by rw [hF]; exact hb⟩) (fun b hb => .inl hb)
  | @v0 i r lo n own rows _ h hr e =>
    subst e
    obtain ⟨sv, hsl, hsub⟩ := ((OpT.tmp rfl).rep hs (x := .tmp i)).viewOf h
    have h2 := hs.rep r
    rw [hr] at h2
    generalize hv : a.eval (.tmp i) = v at hsub
    · simp only [slAt, Option.some.injEq] at hsl
      rw [hsl] at h2
      generalize hF : Fs r = F at h2
      cases h2 with | u h2 => cases h2 with | c h2 =>
        obtain ⟨G, hG⟩ := h2.shows (S := lentR K Fs) (fun b hb => .inr ⟨r, by rw [hF]; exact hb⟩) (fun b hb => .inl hb)
        exact hG.sub hsub
  | @v1 i r lo n off s p c cs own rows _ h hr hg hc e =>
    subst e
    obtain ⟨sv, hsl, hsub⟩ := ((OpT.tmp rfl).rep hs (x := .tmp i)).viewOf h
    have h2 := hs.rep r
    rw [hr] at h2
    generalize hv : a.eval (.tmp i) = v at hsub
    · simp only [slAt, Option.bind_eq_some_iff] at hsl
      obtain ⟨⟨b2, o2⟩, k1, k2⟩ := hsl
      generalize hF : Fs r = F at h2
      generalize a.tmps.getD r undef = v0 at h2 k1
      cases h2 with | u h2 => cases h2 with | c h2 =>
        obtain ⟨b3, o3, arr, et, Fi, h3, h4, h5, h6, hsub6, _⟩ := RepC.read p h2 hg
        rw [h3] at k1
        injection k1 with k1
        injection k1 with e1 e2
        subst e1; subst e2
        obtain ⟨y, F1, Fj, F2, hy, eF, hrx, _⟩ := h6.at_ hc
        have hcell := window_cell h4 hy
        rw [hcell] at k2
        injection k2 with k2
        subst k2
        obtain ⟨G, hG⟩ := hrx.shows (S := lentR K Fs) (fun b hb => .inr ⟨r, by rw [hF]; exact hsub6 b (by rw [eF]; exact List.mem_append_right _ (List.mem_append_left _ hb))⟩) (fun b hb => .inl hb)
        exact hG.sub hsub
end
end Go.Proofs.Ytfbjhioefkimbaa.V
namespace Go.Proofs.Ytfbjhioefkimbaa.V
open Go Go.RowKit
set_option linter.unusedVariables false
set_option linter.unusedSimpArgs false
section
variable {P : Program} {ET : TypeId} {w w' : World} {R : Nat → Prop} {K : Ctx} {σ : St} {a : Act} {Fs : Nat → List Nat} {o : Oper} {d : Nat}

theorem run_append0 {t ty e : TypeId} {i : TypeInfo} (ht : P.underlying t = some (.slice e)) (hi : P.info? e = some i) {base ya : Option Addr} {len cap c : Nat} (hc : len ≤ cap) :
    (Builtin.append_ #[t, t] ty #[.slice base len cap, .slice ya 0 c]).run P w = .ok (.slice base len cap) w := by
  cases ya <;> cases base <;> simp [Builtin.append_, run_underlying ht, sizeOf, typeInfo, hi, Builtin.lenOf, hc, Builtin.firstCells, loadCells, loadCellsFrom, storeCells, pure]
theorem cells_at {b off n : Nat} {arr : Array Value} {et : TypeId} {fz : Nat × Nat} (hb : w.heap[b]? = some (.cells arr et fz)) : ∀ j v, ((arr.toList.drop off).take n)[j]? = some v → w.cell? ((⟨b, off, none⟩ : Addr).add j) = some v := by
  intro j v hv
  rw [Addr.add_mid]
  exact window_cell hb hv
theorem size_zeroCells' (z : Array Value) (n : Nat) : (Builtin.zeroCells z n).size = n * z.size := by simp [Builtin.zeroCells]
theorem drew_keeps (w : World) (E : List Nat) : Keeps w E w.drew := ⟨rfl, rfl, rfl, Nat.le_refl _, fun _ _ _ => rfl⟩
/-- A grown slice: its new row. -/
theorem RepC.grown {w w1 : World} {rows rows2 : List (List C)} {sz nc : Nat} {olds news : List Value} {z : Array Value} {et : TypeId} {F G : List Nat} (ho : RepL ET w R olds rows.flatten F) (hn : RepL ET w R news rows2.flatten G) (hrow : ∀ r ∈ rows ++ rows2, r.length = sz) (hsz : 0 < sz) (hz : z.size = sz)
    (hcap : rows.length + rows2.length ≤ nc) (hw : w1 = w.drew.alloc (.cells (olds.toArray ++ news.toArray ++ Builtin.zeroCells z (nc - (rows.length + rows2.length))) et)) (hlt : ∀ b, R b → b < w.heap.size) :
    RepC ET w1 R (.slice (some ⟨w.heap.size, 0, none⟩) (rows.length + rows2.length) nc) (.sl true sz (rows ++ rows2)) (w.heap.size :: (F ++ G)) := by
  subst hw
  have lo : olds.length = rows.length * sz := by rw [ho.length, flatten_len (fun r hr => hrow r (List.mem_append_left _ hr))]
  have ln : news.length = rows2.length * sz := by rw [hn.length, flatten_len (fun r hr => hrow r (List.mem_append_right _ hr))]
  have hfr : ∀ b, b < w.heap.size → (w.drew.alloc (.cells (olds.toArray ++ news.toArray ++ Builtin.zeroCells z (nc - (rows.length + rows2.length))) et)).heap[b]? = w.heap[b]? := fun b hb => alloc_old w.drew _ hb
  refine .sl (F := F ++ G) (et := (et, (0, 0))) (alloc_new w.drew _) (by simp) hcap hsz ?_ hrow ?_ (.inl ⟨rfl, rfl⟩) (fun _ => rfl)
  · simp only [Array.size_append, List.size_toArray, size_zeroCells', hz, lo, ln, Nat.zero_add]
    rw [← Nat.add_mul, ← Nat.add_mul]
    exact Nat.mul_le_mul_right _ (by omega)
  · have e : ((olds.toArray ++ news.toArray ++ Builtin.zeroCells z (nc - (rows.length + rows2.length))).toList.drop 0).take ((rows.length + rows2.length) * sz) = olds ++ news := by
      simp only [Array.toList_append, List.drop_zero]
      rw [show (rows.length + rows2.length) * sz = (olds ++ news).length by rw [List.length_append, lo, ln, Nat.add_mul]]
      exact List.take_left
    rw [e, List.flatten_append]
    exact (ho.frame (fun _ h => h) (fun b hb => hfr b (hb.elim (ho.lt b) (hlt b)))).append (hn.frame (fun _ h => h) (fun b hb => hfr b (hb.elim (hn.lt b) (hlt b))))
theorem bound_48 {n b : Nat} (h : n ≤ 1000000) (hb : b ≤ 100000) : n * b ≤ 140737488355328 := Nat.le_trans (Nat.mul_le_mul h hb) (by decide)
theorem allCopy {rows : List (List C)} (h : ∀ r ∈ rows, r.all copyC = true) : rows.flatten.all copyC = true := by
  rw [List.all_eq_true]
  intro x hx
  obtain ⟨r, hr, hxr⟩ := List.mem_flatten.mp hx
  exact List.all_eq_true.mp (h r hr) x hxr
theorem oneCellCopy {xs : List Value} {cs : List C} {F : List Nat} (h : RepL ET w R xs cs F) (hc : cs.all copyC = true) : ∀ x ∈ xs, x.oneCell' = true := by
  refine h.oneCell ?_
  unfold liveL
  rw [List.all_eq_true] at hc ⊢
  intro c hc'
  have := hc c hc'
  cases c <;> first | rfl | cases this
/-- What append does, with its rows. -/
theorem run_append {t ty sz bytes : Nat} {zs : List C} (hz : SliceZ P t sz bytes zs) {vx vy : Value} {rows rows2 : List (List C)} {F G : List Nat} (hx : RepC ET w R vx (.sl true sz rows) F) (hnd : F.Nodup) (hR : ∀ b ∈ F, ¬ R b) (hlt : ∀ b, R b → b < w.heap.size) {S : Nat → Prop} (hy : ShowsRows ET w R S vy sz rows2 G) (hcp : ∀ r ∈ rows2, r.all copyC = true)
    (hlen : rows.length + rows2.length ≤ 1000000) (hby : bytes ≤ 100000) :
    ∃ v w1 F1, (Builtin.append_ #[t, t] ty #[vx, vy]).run P w = .ok v w1 ∧ RepC ET w1 R v (.sl true sz (rows ++ rows2)) F1 ∧ F1.Nodup ∧ (∀ b ∈ F1, b ∈ F ∨ w.heap.size ≤ b) ∧ ∃ E1, Keeps w E1 w1 ∧ ∀ b ∈ E1, b ∈ F := by
  obtain ⟨e, i, z, h1, h2, h3, h3b, h4, h5, h6, h7⟩ := hz
  have hzs : z.cells.size = i.size := by omega
  by_cases hn : rows2.length = 0
  · have hr2 : rows2 = [] := List.eq_nil_of_length_eq_zero hn
    subst hr2
    obtain ⟨ad, c, hv⟩ : ∃ ad c, vy = .slice ad 0 c := by
      rcases hy with ⟨rfl, _⟩ | ⟨b, off, cap, arr, et, rfl, _⟩
      · exact ⟨_, _, rfl⟩
      · exact ⟨_, _, rfl⟩
    subst hv
    rw [List.append_nil]
    obtain ⟨ad2, len2, cap2, hv2, hc2⟩ : ∃ ad len cap, vx = .slice ad len cap ∧ len ≤ cap := by
      cases hx with
      | nil => exact ⟨_, _, _, rfl, Nat.le_refl _⟩
      | sl _ _ hcap => exact ⟨_, _, _, rfl, hcap⟩
    subst hv2
    exact ⟨_, w, F, run_append0 h1 h2 hc2, hx, hnd, fun b hb => .inl hb, [], Keeps.refl _ _, by simp⟩
  · rcases hy with ⟨_, h⟩ | ⟨b2, off2, cap2, arr2, et2, rfl, hb2, k1, k2, k3, hrow2, hrep2, _, _⟩
    · subst h; simp at hn
    have hG : G = [] := hrep2.copy (allCopy hcp)
    subst hG
    generalize hnews : (arr2.toList.drop off2).take (rows2.length * sz) = news at hrep2
    have hnl : news.length = rows2.length * i.size := by rw [hrep2.length, flatten_len hrow2, h3]
    have hnc : ∀ j v, news[j]? = some v → w.cell? ((⟨b2, off2, none⟩ : Addr).add j) = some v := by rw [← hnews]; exact cells_at hb2
    cases hx with
    | nil =>
      have hrun := Go.run_append_nil w t ty e i z h1 h2 h5 ⟨b2, off2, none⟩ rows2.length cap2 news hnl hnc (by omega) (by omega) (by
        have := bound_48 (n := rows2.length) (by simp at hlen; omega) hby
        rw [← h3b] at this; omega)
      have hg := RepC.grown (w := w) (w1 := w.drew.alloc (.cells (news.toArray ++ Builtin.zeroCells z.cells (grownCap w rows2.length 0 e - rows2.length)) e)) (rows := []) (rows2 := rows2) (sz := sz) (nc := grownCap w rows2.length 0 e) (olds := []) (z := z.cells) (et := e) .nil hrep2 (by simpa using hrow2) h4 h6
        (by simpa using grownCap_ge w rows2.length 0 e) (by simp) hlt
      simp only [List.length_nil, Nat.zero_add, List.nil_append, List.append_nil] at hg
      refine ⟨_, _, _, hrun, hg, by simp, fun b hb => .inr (by rw [List.mem_singleton.mp hb]; exact Nat.le_refl _), [], (drew_keeps w []).trans (Keeps.alloc _ _) (by simp), by simp⟩
    | @sl b off len cap _ _ arr et _ F1 F' hb hl hcap hsz hfit hrow hrep ho hz =>
      rcases ho with ⟨_, rfl⟩ | ⟨h, _⟩
      case inr => cases h
      subst hl
      have holdl : ((arr.toList.drop off).take (rows.length * sz)).length = rows.length * i.size := by rw [hrep.length, flatten_len hrow, h3]
      have hrows : ∀ r ∈ rows ++ rows2, r.length = sz := fun r hr => (List.mem_append.mp hr).elim (hrow r) (hrow2 r)
      have hmul := Nat.mul_le_mul_right sz hcap
      by_cases hroom : rows.length + rows2.length ≤ cap
      · have hmul2 := Nat.mul_le_mul_right sz hroom
        rw [Nat.add_mul] at hmul2
        have hnl2 : news.length = rows2.length * sz := by rw [hnl, h3]
        have hst := run_storeCells_at (P := P) b (off + rows.length * sz) et.1 news 0 arr w (by rw [← hz rfl]; exact hb) (by rw [hnl2]; omega) (oneCellCopy hrep2 (allCopy hcp))
        rw [show off + rows.length * sz + 0 = off + rows.length * sz by rfl, hnl2] at hst
        have hfc := run_firstCells_some (P := P) w i.size rows2.length ⟨b2, off2, none⟩ rows2.length cap2 news hnl hnc
        rw [h3] at hfc
        generalize hw' : w.setRow b ((arr.toList.take (off + rows.length * sz) ++ news ++ arr.toList.drop (off + rows.length * sz + rows2.length * sz))).toArray = w' at hst
        have hadd : (⟨b, off, none⟩ : Addr).add (rows.length * sz) = ⟨b, off + rows.length * sz, none⟩ := Addr.add_mid b off _
        have hrun : (Builtin.append_ #[t, t] ty #[.slice (some ⟨b, off, none⟩) rows.length cap, .slice (some ⟨b2, off2, none⟩) rows2.length cap2]).run P w = .ok (.slice (some ⟨b, off, none⟩) (rows.length + rows2.length) cap) w' := by
          simp [Builtin.append_, run_underlying h1, sizeOf, typeInfo, h2, h3, Builtin.lenOf, hroom, hfc, hadd, hst, pure]
        have hbF : b ∈ b :: F1 := List.mem_cons_self ..
        have hsame : ∀ x, x ≠ b → w'.heap[x]? = w.heap[x]? := fun x hx => by rw [← hw']; exact setRow_ne hx
        have hnb : b ∉ F1 := (List.nodup_cons.mp hnd).1
        refine ⟨_, w', b :: (F1 ++ []), hrun, .sl (rows := rows ++ rows2) (et := et) (by rw [← hw']; exact setRow_at hb) (by simp) hroom hsz ?_ hrows ?_ (.inl ⟨rfl, rfl⟩) hz, by rw [List.append_nil]; exact hnd, fun x hx => .inl (by rw [List.append_nil] at hx; exact hx), [b], by rw [← hw']; exact setRow_keeps, fun x hx => by rw [List.mem_singleton.mp hx]; exact hbF⟩
        · simp only [List.size_toArray, List.length_append, List.length_take, List.length_drop, hnl2, Array.length_toList]
          omega
        · have e1 : ((arr.toList.take (off + rows.length * sz) ++ news ++ arr.toList.drop (off + rows.length * sz + rows2.length * sz)).toArray.toList.drop off).take ((rows.length + rows2.length) * sz) = (arr.toList.drop off).take (rows.length * sz) ++ news := by
            simp only [List.toList_toArray]
            rw [List.append_assoc, List.drop_append_of_le_length (by rw [List.length_take]; simp; omega), List.drop_take, Nat.add_sub_cancel_left, ← List.append_assoc]
            rw [show (rows.length + rows2.length) * sz = ((arr.toList.drop off).take (rows.length * sz) ++ news).length by rw [List.length_append, holdl, hnl2, h3, Nat.add_mul], List.take_left]
          rw [e1, List.flatten_append]
          refine (hrep.frame (fun _ h => h) (fun x hx => hsame x ?_)).append (hrep2.frame (fun _ h => h) (fun x hx => hsame x ?_))
          · rintro rfl
            exact hx.elim hnb (fun h => hR x hbF h)
          · rintro rfl
            exact hx.elim (fun h => by cases h) (fun h => hR x hbF h)
      · have hgr : cap < rows.length + rows2.length := by omega
        have hrun := Go.run_append_grow w t ty e i z h1 h2 h5 ⟨b, off, none⟩ rows.length cap _ holdl (cells_at hb) ⟨b2, off2, none⟩ rows2.length cap2 news hnl hnc hgr (by omega) (growslice_fits hgr (by rw [h3b]; exact bound_48 hlen hby))
        have hg := RepC.grown (w := w) (rows := rows) (rows2 := rows2) (sz := sz) (nc := grownCap w (rows.length + rows2.length) cap e) (z := z.cells) (et := e) hrep hrep2 hrows h4 h6 (grownCap_ge w _ cap e) rfl hlt
        refine ⟨_, _, _, hrun, hg, ?_, fun x hx => ?_, [], (drew_keeps w []).trans (Keeps.alloc _ _) (by simp), by simp⟩
        · rw [List.append_nil, List.nodup_cons]
          exact ⟨fun h => Nat.lt_irrefl _ (hrep.lt _ h), (List.nodup_cons.mp hnd).2⟩
        · rw [List.append_nil] at hx
          rcases List.mem_cons.mp hx with rfl | hx
          · exact .inr (Nat.le_refl _)
          · exact .inl (List.mem_cons_of_mem _ hx)
/-- Append: a slice of one's own goes on with rows that are read. -/
theorem s_append {t sz bytes : Nat} {zs : List C} {x y : Operand} {rows rows2 : List (List C)} {l : List Nat} (ho : o.op = .call { callee := .builtin .append, args := #[x, y], argTypes := #[t, t] }) (hz : SliceZ P t sz bytes zs) (hx : Src K σ x (.c (.sl true sz rows)) l) (hy : Rows K (junks σ l) sz y rows2)
    (hcp : ∀ r ∈ rows2, r.all copyC = true) (hlen : rows.length + rows2.length ≤ 1000000) (hby : bytes ≤ 100000) (hd : o.dst = some d) (hn : okT K d = true) : Step P K σ o (put (fun j => killD (junks σ l j)) d (.u (.c (.sl true sz (rows ++ rows2))))) := by
  rintro a w ⟨Fs, hs⟩
  obtain ⟨F, Fs1, hu, hs1, hF, _, _⟩ := hs.take hx
  obtain ⟨G, hsh⟩ := hy.shows hs1
  generalize hvx : a.eval x = vx at hu
  cases hu with
  | c hc =>
    obtain ⟨v, w1, F1, hrun, hrep, hnd1, hsub, E1, hk, hE⟩ := run_append (P := P) (t := t) (ty := o.type) hz hc hF.1 (fun b hb => (hF.2 b hb).2.1) (fun b hb => Nat.lt_of_lt_of_le (hs1.ro b hb).1 hs1.keeps.size) hsh hcp hlen hby
    have hexec : (execOp a.eval o).run P w = .ok (.value v) w1 := by
      simp only [execOp, ho, resolve, Sem.run_bind, Sem.run_pure, Result.andThen_ok, invoke, builtin]
      simp [Sem.run_bind, hvx, hrun, pure]
    simp only [Oper.wp, hexec, Oper.upon_value, hd]
    have h5 := hs1.world hk (fun b hb => (hF.2 b (hE b hb)).2.2) (fun j b hb e => (hF.2 b (hE b e)).1 j hb) (fun b hb => (hF.2 b (hE b hb)).2.1)
    refine ⟨_, h5.put2 hn (Keeps.refl w1 _) (fun b hb => ?_) hnd1 (.u (.c hrep))⟩
    rcases hsub b hb with h | h
    · exact hF.2 b h
    · refine ⟨fun j hj => ?_, fun hR => ?_, .inr (Nat.le_trans hs1.keeps.size h)⟩
      · have := (hs1.rep j).lt b hj; omega
      · have := Nat.lt_of_lt_of_le (hs1.ro b hR).1 hs1.keeps.size; omega
end
end Go.Proofs.Ytfbjhioefkimbaa.V
namespace Go.Proofs.Ytfbjhioefkimbaa.V
open Go Go.RowKit
set_option linter.unusedVariables false
set_option linter.unusedSimpArgs false

def OStep (P : Program) (K : Ctx) (ops : Array Oper) (i : Nat) (σ σ' : St) : Prop := ∀ a w, Sim K σ a w → wpOp P ops (fun _ _ _ => False) i (fun a' w' => Sim K σ' a' w') a w
/-- The operations from one on, so many of them. -/
inductive Chain (P : Program) (K : Ctx) (ops : Array Oper) : Nat → Nat → St → St → Prop
  | nil {i : Nat} {σ : St} : Chain P K ops i 0 σ σ
  | cons {i n : Nat} {σ σ1 σ2 : St} (h : OStep P K ops i σ σ1) (t : Chain P K ops (i + 1) n σ1 σ2) : Chain P K ops i (n + 1) σ σ2
def post (K : Ctx) (Q : Exit → St → Prop) (e : Exit) (a : Act) (w : World) : Prop := ∃ σ, Sim K σ a w ∧ Q e σ
/-- Code, run from a told state: each way that it ends is told. -/
def Run (P : Program) (K : Ctx) (c : Code) (σ : St) (Q : Exit → St → Prop) : Prop := ∀ a w, Sim K σ a w → c.wp P (post K Q) a w
def thenQ (N : St → Prop) (Q : Exit → St → Prop) : Exit → St → Prop
  | .normal, σ => N σ
  | e, σ => Q e σ
def blockQ (id : Nat) (Q : Exit → St → Prop) : Exit → St → Prop
  | .exit id', σ => if id' = id then Q .normal σ else Q (.exit id') σ
  | e, σ => Q e σ
/-- At most so many rounds of a loop. -/
def Rounds (P : Program) (K : Ctx) (c : Code) (n : Nat) (σ : St) (Q : Exit → St → Prop) : Prop := ∀ a w, Sim K σ a w → Code.rounds P c (post K Q) n a w

section
variable {P : Program} {K : Ctx} {σ σ' : St} {Q Q' : Exit → St → Prop} {ops : Array Oper} {i d t : Nat} {o : Oper}

theorem os_plain (h : ops[i]? = some o) (hg : o.guard = none) (hs : Step P K σ o σ') : OStep P K ops i σ σ' := by
  intro a w h1
  unfold wpOp
  rw [h]
  simp only
  rw [if_pos (by simp [Region.wanted, hg])]
  exact .inl (hs a w h1)
theorem tmp_bool {a : Act} {w : World} {b : Bool} (hs : Sim K σ a w) (h : σ t = .u (.c (.v (.bool b)))) : a.tmps[t]? = some (.bool b) := by
  obtain ⟨Fs, hs⟩ := hs
  have h1 := hs.rep t
  rw [h] at h1
  have h2 := h1.v_eq.1
  rw [Array.getD_eq_getD_getElem?] at h2
  cases h3 : a.tmps[t]? with
  | none => rw [h3] at h2; cases h2
  | some v => rw [h3] at h2; simp at h2; rw [h2]
theorem os_yes {j : Nat} {b : Bool} (h : ops[i]? = some o) (hg : o.guard = some (j, b)) (hj : (ops[j]?).bind (·.dst) = some t) (ht : σ t = .u (.c (.v (.bool b)))) (hs : Step P K σ o σ') : OStep P K ops i σ σ' := by
  intro a w h1
  unfold wpOp
  rw [h]
  simp only
  have h2 : yielded ops a.tmps j = some b := by
    unfold yielded
    rw [hj]
    simp only [Option.bind_some]
    rw [tmp_bool h1 ht]
  rw [if_pos (by simp [Region.wanted, hg, h2])]
  exact .inl (hs a w h1)
theorem wpOp_all {a : Act} {w : World} {N : Act → World → Prop} {N' : Act → World → Prop} {QQ : Exit → Act → World → Prop} (h : wpOp P ops (fun _ _ _ => False) i N a w) (hn : ∀ a w, N a w → N' a w) : wpOp P ops QQ i N' a w := by
  unfold wpOp at *
  split
  · exact hn _ _ (by simpa [*] using h)
  · rename_i o ho
    simp only [ho] at h
    split
    · rename_i hw
      simp only [hw, if_true] at h
      rcases h with h | ⟨_, _, _, h⟩
      · exact .inl (Oper.wp_all h hn)
      · exact h.elim
    · rename_i hw; simp only [hw] at h; exact hn _ _ h
theorem chain_ops {n : Nat} (h : Chain P K ops i n σ σ') : ∀ {QQ : Exit → Act → World → Prop}, (∀ a w, Sim K σ' a w → QQ .normal a w) → ∀ a w, Sim K σ a w → wpOps P ops QQ (List.range' i n) a w := by
  induction h with
  | nil => intro QQ hq a w hs; exact hq a w hs
  | cons h t ih =>
    intro QQ hq a w hs
    rw [List.range'_succ, wpOps_cons]
    exact wpOp_all (h a w hs) (fun a w hs => ih hq a w hs)
theorem r_region {id : Nat} (h : Chain P K ops 0 ops.size σ σ') (hq : Q .normal σ') : Run P K (.region id ops false) σ Q := by
  intro a w hs
  refine wp_region ?_
  rw [List.range_eq_range']
  exact chain_ops h (fun a w hs => ⟨σ', hs, hq⟩) a w hs
theorem r_mono {c : Code} (h : Run P K c σ Q) (hq : ∀ e σ, Q e σ → Q' e σ) : Run P K c σ Q' := fun a w hs => wp_mono (h a w hs) (fun e a w ⟨σ, h1, h2⟩ => ⟨σ, h1, hq e σ h2⟩)
theorem r_weak {c : Code} (hw : ∀ i, σ' i = σ i ∨ σ' i = .junk) (h : Run P K c σ' Q) : Run P K c σ Q := fun a w hs => h a w (hs.weaken hw)
theorem r_skip (h : Q .normal σ) : Run P K .skip σ Q := fun _ _ hs => wp_skip ⟨σ, hs, h⟩
theorem r_exit {id : Nat} (h : Q (.exit id) σ) : Run P K (.exit id) σ Q := fun _ _ hs => wp_exit ⟨σ, hs, h⟩
theorem r_ret (h : Q .ret σ) : Run P K .ret σ Q := fun _ _ hs => wp_ret ⟨σ, hs, h⟩
theorem r_seq {x y : Code} (h : Run P K x σ (thenQ (fun σ' => Run P K y σ' Q) Q)) : Run P K (.seq x y) σ Q := fun a w hs =>
  wp_seq (wp_mono (h a w hs) (fun e a w ⟨σ', h1, h2⟩ => by
    cases e <;> first
      | exact h2 a w h1
      | exact ⟨σ', h1, h2⟩))
theorem r_cond {c : Operand} {x y : Code} {b : Bool} (hc : opT K.ET σ c = .u (.c (.v (.bool b)))) (h : Run P K (if b then x else y) σ Q) : Run P K (.cond c x y) σ Q := fun a w hs => by
  obtain ⟨Fs, hs1⟩ := hs
  exact wp_cond (opT_v hs1 hc) (h a w ⟨Fs, hs1⟩)
theorem r_block {id : Nat} {c : Code} (h : Run P K c σ (blockQ id Q)) : Run P K (.block id c) σ Q := fun a w hs =>
  wp_block (wp_mono (h a w hs) (fun e a w ⟨σ', h1, h2⟩ => by
    cases e <;> first
      | exact ⟨σ', h1, h2⟩
      | (simp only [Exit.inBlock]
         simp only [blockQ] at h2
         split
         · rename_i e; rw [if_pos e] at h2; exact ⟨σ', h1, h2⟩
         · rename_i e; rw [if_neg e] at h2; exact ⟨σ', h1, h2⟩)))
theorem r_loop {c : Code} (n : Nat) (h : Rounds P K c n σ Q) : Run P K (.loop c) σ Q := fun a w hs => wp_loop_rounds n (h a w hs)
theorem rounds_weak {c : Code} {n : Nat} (hw : ∀ i, σ' i = σ i ∨ σ' i = .junk) (h : Rounds P K c n σ' Q) : Rounds P K c n σ Q := fun a w hs => h a w (hs.weaken hw)
end
end Go.Proofs.Ytfbjhioefkimbaa.V
namespace Go.Proofs.Ytfbjhioefkimbaa.V
open Go Go.RowKit
set_option linter.unusedVariables false
set_option linter.unusedSimpArgs false

abbrev Pl := Option (Sel × List (Nat × Sel) × Nat)
def cellAt (c : C) : Pl → Option C
  | none => some c
  | some (s, p, off) => (getP c s p).bind fun cs => cs[off]?
def setAt (c : C) : Pl → C → C
  | none, x => x
  | some (s, p, off), x => setP c s p (((getP c s p).getD []).set off x)
def ownAt (c : C) : Pl → Bool
  | none => true
  | some (s, p, _) => ownP c s p
mutual
/-- As it is read by others. -/
def roC : C → C
  | .sl _ sz rows => .sl false sz rows
  | .pt _ cs => .pt false (roL cs)
  | .x _ => .dead
  | c => c
def roL : List C → List C
  | [] => []
  | c :: cs => roC c :: roL cs
end
mutual
/-- All slices in it are of cells that may be copied. -/
def flatC : C → Prop
  | .sl _ _ rows => ∀ r ∈ rows, r.all copyC = true
  | .pt _ cs => flatL cs
  | _ => True
def flatL : List C → Prop
  | [] => True
  | c :: cs => flatC c ∧ flatL cs
end
def plainC : C → Bool
  | .v _ | .err _ => true
  | _ => false
mutual
/-- Nothing in it is of others. -/
def mineC : C → Prop
  | .sl o _ rows => o = true ∧ ∀ r ∈ rows, r.all plainC = true
  | .pt o cs => o = true ∧ mineL cs
  | _ => True
def mineL : List C → Prop
  | [] => True
  | c :: cs => mineC c ∧ mineL cs
end
def mineU : U → Prop
  | .c x => mineC x
  | .agg cs => mineL cs
  | .fn _ _ => False

section
variable {P : Program} {ET : TypeId} {w w' : World} {R R' : Nat → Prop} {K : Ctx} {σ : St} {a : Act} {Fs : Nat → List Nat}

theorem RepC.cell {v0 : Value} {c x : C} {F : List Nat} {pl : Pl} {tmps : Array Value} {r : Nat} (hv : tmps.getD r undef = v0) (h : RepC ET w R v0 c F) (hnd : F.Nodup) (hx : cellAt c pl = some x) (ho : ownAt c pl = true) :
    ∃ y Fo Fx, slAt w tmps r pl = some y ∧ F.Perm (Fo ++ Fx) ∧ RepC ET w R y x Fx ∧
      ∀ w' x' Fx', (∀ b, (b ∈ Fo ∨ R b) → w'.heap[b]? = w.heap[b]?) → RepC ET w' R y x' Fx' → ∃ F2, RepC ET w' R v0 (setAt c pl x') F2 ∧ F2.Perm (Fo ++ Fx') := by
  cases pl with
  | none =>
    simp only [cellAt, Option.some.injEq] at hx
    subst hx
    exact ⟨v0, [], F, by simp only [slAt]; rw [hv], List.Perm.refl _, h, fun w' x' Fx' _ hx' => ⟨Fx', hx', List.Perm.refl _⟩⟩
  | some q =>
    obtain ⟨s, p, off⟩ := q
    simp only [cellAt, Option.bind_eq_some_iff] at hx
    obtain ⟨cs, hg, hc⟩ := hx
    obtain ⟨b, o, arr, et, Fo, Fi, h1, h2, h3, h4, h5, h6, h7⟩ := RepC.lens p h hnd hg ho
    obtain ⟨y, F1, Fj, F2, hy, rfl, hrx, hset⟩ := h4.at_ hc
    have hcell := window_cell h2 hy
    refine ⟨y, Fo ++ (F1 ++ F2), Fj, ?_, ?_, hrx, ?_⟩
    · simp only [slAt, hv, h1, Option.bind_some]; exact hcell
    · refine h5.trans ?_
      rw [List.append_assoc]
      refine List.Perm.append_left _ ?_
      rw [List.append_assoc]
      exact List.Perm.append_left _ List.perm_append_comm
    · intro w' x' Fx' hw hx'
      have hrow := hset w' y x' Fx' (fun z hz => hw z (by
        rcases hz with hz | hz | hz
        · exact .inl (List.mem_append_right _ (List.mem_append_left _ hz))
        · exact .inl (List.mem_append_right _ (List.mem_append_right _ hz))
        · exact .inr hz)) hx'
      have hxs : ((arr.toList.drop o).take cs.length).set off y = (arr.toList.drop o).take cs.length := by
        rw [List.getElem?_eq_some_iff] at hy
        obtain ⟨hx1, hx2⟩ := hy
        rw [← hx2]
        exact List.set_getElem_self _
      rw [hxs] at hrow
      have harr0 : arr.toList = arr.toList.take o ++ ((arr.toList.drop o).take cs.length ++ arr.toList.drop (o + cs.length)) := by
        rw [← List.drop_drop, List.take_append_drop, List.take_append_drop]
      obtain ⟨F4, hc4, hp4⟩ := h7 w' arr _ (cs.set off x') _ (by rw [List.length_set]) ((hw b (.inl (List.mem_append_left _ h6))).trans h2) harr0 (fun z hz _ => hw z (.inl (List.mem_append_left _ hz))) (fun z hz => hw z (.inr hz)) hrow
      refine ⟨F4, ?_, hp4.trans ?_⟩
      · simp only [setAt, hg, Option.getD_some]; exact hc4
      · rw [List.append_assoc, List.append_assoc]
        refine List.Perm.append_left _ (List.Perm.append_left _ ?_)
        exact List.perm_append_comm
theorem flat_copy {rows : List (List C)} (h : ∀ r ∈ rows, r.all copyC = true) {xs : List Value} {F : List Nat} (hr : RepL ET w R xs rows.flatten F) : F = [] := hr.copy (allCopy h)
/-- Lent: it is read, and nobody's own. -/
theorem RepC.lend {x : Value} {c : C} {F : List Nat} (h : RepC ET w R x c F) : flatC c → (∀ b ∈ F, R' b) → (∀ b, R b → R' b) → RepC ET w R' x (roC c) [] := by
  refine RepC.rec (motive_1 := fun x c F _ => flatC c → (∀ b ∈ F, R' b) → (∀ b, R b → R' b) → RepC ET w R' x (roC c) []) (motive_2 := fun xs cs F _ => flatL cs → (∀ b ∈ F, R' b) → (∀ b, R b → R' b) → RepL ET w R' xs (roL cs) [])
    ?_ ?_ ?_ ?_ ?_ ?_ ?_ ?_ ?_ h
  · intro x h _ _ _; simp only [roC]; exact .v h
  · intro t _ _ _; simp only [roC]; exact .err t
  · intro o sz _ _ _; simp only [roC]; exact .nil false sz
  · intro b off len cap sz own arr et rows F F' hb hlen hcap hsz hfit hrow hrep ho hz ih hf hF hR
    simp only [roC]
    simp only [flatC] at hf
    have hF0 := flat_copy hf hrep
    subst hF0
    refine .sl hb hlen hcap hsz hfit hrow (hrep.frame hR (fun _ _ => rfl)) (.inr ⟨rfl, ?_, rfl, rfl⟩) (fun h => by cases h)
    rcases ho with ⟨_, rfl⟩ | ⟨_, h, _⟩
    · exact hF b (List.mem_cons_self ..)
    · exact hR b h
  · intro b own arr et cs F F' hb hrep ho ih hf hF hR
    simp only [roC]
    simp only [flatC] at hf
    refine .pt hb (ih hf (fun x hx => ?_) hR) (.inr ⟨rfl, ?_, rfl, rfl⟩)
    · rcases ho with ⟨_, rfl⟩ | ⟨_, _, rfl, _⟩
      · exact hF x (List.mem_cons_of_mem _ hx)
      · cases hx
    · rcases ho with ⟨_, rfl⟩ | ⟨_, h, _⟩
      · exact hF b (List.mem_cons_self ..)
      · exact hR b h
  · intro v q F h _ _ _; simp only [roC]; exact .dead v
  · intro x _ _ _; simp only [roC]; exact .dead x
  · intro _ _ _; simp only [roL]; exact .nil
  · intro x c xs cs F G _ _ ih1 ih2 hf hF hR
    simp only [flatL] at hf
    simp only [roL]
    have h1 := ih1 hf.1 (fun b hb => hF b (List.mem_append_left _ hb)) hR
    have h2 := ih2 hf.2 (fun b hb => hF b (List.mem_append_right _ hb)) hR
    exact RepL.cons h1 h2
/-- What is wholly one's own is so beside whatever others have. -/
theorem plain_any {xs : List Value} {cs : List C} {F : List Nat} (h : RepL ET w R xs cs F) (hp : cs.all plainC = true) : RepL ET w R' xs cs F := by
  induction cs generalizing xs F with
  | nil => cases h; exact .nil
  | cons c cs ih =>
    cases h with
    | cons h t =>
      simp only [List.all_cons, Bool.and_eq_true] at hp
      refine .cons ?_ (ih t hp.2)
      cases h with
      | v h => exact .v h
      | err t => exact .err t
      | _ => simp [plainC] at hp
theorem plainAll {rows : List (List C)} (h : ∀ r ∈ rows, r.all plainC = true) : rows.flatten.all plainC = true := by
  rw [List.all_eq_true]
  intro x hx
  obtain ⟨r, hr, hxr⟩ := List.mem_flatten.mp hx
  exact List.all_eq_true.mp (h r hr) x hxr
theorem RepC.mine {x : Value} {c : C} {F : List Nat} (h : RepC ET w R x c F) : mineC c → RepC ET w R' x c F := by
  refine RepC.rec (motive_1 := fun x c F _ => mineC c → RepC ET w R' x c F) (motive_2 := fun xs cs F _ => mineL cs → RepL ET w R' xs cs F) ?_ ?_ ?_ ?_ ?_ ?_ ?_ ?_ ?_ h
  · intro x h _; exact .v h
  · intro t _; exact .err t
  · intro o sz _; exact .nil o sz
  · intro b off len cap sz own arr et rows F F' hb hlen hcap hsz hfit hrow hrep ho hz ih hm
    simp only [mineC] at hm
    obtain ⟨rfl, hm⟩ := hm
    refine .sl hb hlen hcap hsz hfit hrow (plain_any hrep (plainAll hm)) ?_ hz
    rcases ho with ⟨_, rfl⟩ | ⟨h, _⟩
    · exact .inl ⟨rfl, rfl⟩
    · cases h
  · intro b own arr et cs F F' hb hrep ho ih hm
    simp only [mineC] at hm
    obtain ⟨rfl, hm⟩ := hm
    refine .pt hb (ih hm) ?_
    rcases ho with ⟨_, rfl⟩ | ⟨h, _⟩
    · exact .inl ⟨rfl, rfl⟩
    · cases h
  · intro v q F h _; exact .x h
  · intro x _; exact .dead x
  · intro _; exact .nil
  · intro x c xs cs F G _ _ ih1 ih2 hm
    simp only [mineL] at hm
    exact .cons (ih1 hm.1) (ih2 hm.2)
theorem RepL.mine {xs : List Value} {cs : List C} {F : List Nat} (h : RepL ET w R xs cs F) (hm : mineL cs) : RepL ET w R' xs cs F := by
  induction cs generalizing xs F with
  | nil => cases h; exact .nil
  | cons c cs ih =>
    cases h with
    | cons h t =>
      simp only [mineL] at hm
      exact .cons (h.mine hm.1) (ih t hm.2)
theorem RepU.mine {x : Value} {u : U} {F : List Nat} (h : RepU ET w R x u F) (hm : mineU u) : RepU ET w R' x u F := by
  cases h with
  | c h => exact .c (h.mine hm)
  | agg h => exact .agg (h.mine hm)
  | fn h => exact hm.elim

/-! ### Contracts -/
/-- What becomes of the arguments: nothing is known; or what they hold. -/
inductive RepO (ET : TypeId) (w : World) (R : Nat → Prop) : List Value → List (Option U) → List Nat → Prop
  | nil : RepO ET w R [] [] []
  | skip {x : Value} {xs : List Value} {us : List (Option U)} {F : List Nat} (t : RepO ET w R xs us F) : RepO ET w R (x :: xs) (none :: us) F
  | cons {x : Value} {u : U} {xs : List Value} {us : List (Option U)} {F G : List Nat} (h : RepU ET w R x u F) (t : RepO ET w R xs us G) : RepO ET w R (x :: xs) (some u :: us) (F ++ G)
inductive RepR (ET : TypeId) (w : World) (R : Nat → Prop) : Value → List U → List Nat → Prop
  | one {v : Value} {u : U} {F : List Nat} (h : RepU ET w R v u F) : RepR ET w R v [u] F
  | many {arr : Array Value} {us : List U} {F : List Nat} (hl : us.length ≠ 1) (h : RepUs ET w R arr.toList us F) : RepR ET w R (.tuple arr) us F
/-- A function's contract: handed such arguments it returns, leaves such in their places, and hands back such. -/
def AC (P : Program) (ET : TypeId) (f : FuncId) (ins : List U) (outs : List (Option U)) (res : List U) : Prop :=
  ∀ (R : Nat → Prop) (w : World) (vs : List Value) (F : List Nat), RepUs ET w R vs ins F → F.Nodup → (∀ b ∈ F, ¬ R b) → (∀ b, R b → b < w.heap.size) →
    Calls P f vs.toArray w (fun e w' => ∃ rv H1 H2, e = .returned rv ∧ RepO ET w' R vs outs H1 ∧ RepR ET w' R rv res H2 ∧ (H1 ++ H2).Nodup ∧ (∀ b ∈ H1 ++ H2, b ∈ F ∨ w.heap.size ≤ b) ∧ Keeps w F w')
/-- The same, where something is known of the world. -/
def ACg (T : (Nat → Prop) → World → Prop) (P : Program) (ET : TypeId) (f : FuncId) (ins : List U) (outs : List (Option U)) (res : List U) : Prop :=
  ∀ (R : Nat → Prop) (w : World) (vs : List Value) (F : List Nat), T R w → RepUs ET w R vs ins F → F.Nodup → (∀ b ∈ F, ¬ R b) → (∀ b, R b → b < w.heap.size) →
    Calls P f vs.toArray w (fun e w' => ∃ rv H1 H2, e = .returned rv ∧ RepO ET w' R vs outs H1 ∧ RepR ET w' R rv res H2 ∧ (H1 ++ H2).Nodup ∧ (∀ b ∈ H1 ++ H2, b ∈ F ∨ w.heap.size ≤ b) ∧ Keeps w F w')
/-- A block that nobody owns (a laid table) holds what Q tells. -/
def LaidT (g : Nat) (Q : Option Obj → Prop) (R : Nat → Prop) (w : World) : Prop := R g ∧ Q w.heap[g]?
abbrev ACT (g : Nat) (Q : Option Obj → Prop) := ACg (LaidT g Q)
/-- The same, called from under K. -/
def ACK (K : Ctx) (P : Program) (f : FuncId) (ins : List U) (outs : List (Option U)) (res : List U) : Prop :=
  ∀ (R : Nat → Prop) (w : World) (vs : List Value) (F : List Nat), (∀ b, K.R b → R b) → (∀ b, K.R b → w.heap[b]? = K.w0.heap[b]?) → RepUs K.ET w R vs ins F → F.Nodup → (∀ b ∈ F, ¬ R b) → (∀ b, R b → b < w.heap.size) →
    Calls P f vs.toArray w (fun e w' => ∃ rv H1 H2, e = .returned rv ∧ RepO K.ET w' R vs outs H1 ∧ RepR K.ET w' R rv res H2 ∧ (H1 ++ H2).Nodup ∧ (∀ b ∈ H1 ++ H2, b ∈ F ∨ w.heap.size ≤ b) ∧ Keeps w F w')
theorem AC.k {K : Ctx} {P : Program} {f : FuncId} {ins : List U} {outs : List (Option U)} {res : List U} (h : AC P K.ET f ins outs res) : ACK K P f ins outs res := fun R w vs F _ _ => h R w vs F
theorem ACT.k {g : Nat} {Q : Option Obj → Prop} {K : Ctx} {P : Program} {f : FuncId} {ins : List U} {outs : List (Option U)} {res : List U} (hT : LaidT g Q K.R K.w0) (h : ACT g Q P K.ET f ins outs res) : ACK K P f ins outs res :=
  fun R w vs F h1 h2 => h R w vs F ⟨h1 g hT.1, (h2 g hT.1) ▸ hT.2⟩
end
end Go.Proofs.Ytfbjhioefkimbaa.V
namespace Go.Proofs.Ytfbjhioefkimbaa.V
open Go Go.RowKit
set_option linter.unusedVariables false
set_option linter.unusedSimpArgs false

/-- Where an operand's pointer or slice lies: a temporary, or a cell within what it holds. -/
inductive PlaceOf (σ : St) : Operand → Nat → Pl → Prop
  | ptr {i r : Nat} {own : Bool} {cs : List C} (h : aliasT i (σ i) = .addr r .d [] 0) (hr : σ r = .u (.c (.pt own cs))) : PlaceOf σ (.tmp i) r none
  | ptrC {i r off : Nat} {s : Sel} {p : List (Nat × Sel)} {own : Bool} {c : C} {cs ds : List C} (h : aliasT i (σ i) = .addr r s (p ++ [(off, .d)]) 0) (hr : σ r = .u (.c c)) (hg : getP c s p = some cs) (hc : cs[off]? = some (.pt own ds)) : PlaceOf σ (.tmp i) r (some (s, p, off))
  | ptrX {i r : Nat} {q : Opq} (h : aliasT i (σ i) = .addr r .d [] 0) (hr : σ r = .u (.c (.x q))) (hq : q.isp = true) : PlaceOf σ (.tmp i) r none
  | sl {i r sz n : Nat} {pl : Pl} (h : aliasT i (σ i) = .whole r pl sz n) : PlaceOf σ (.tmp i) r pl
abbrev Hole := Nat × Pl × C
/-- Arguments: some are handed over (out of their places), the others are read. -/
inductive Args (AR : Operand → U → Prop) : St → List Operand → List U → List (Option Hole) → St → Prop
  | nil {σ : St} : Args AR σ [] [] [] σ
  | hand {σ σ' : St} {x : Operand} {r : Nat} {pl : Pl} {c y : C} {xs : List Operand} {us : List U} {hs : List (Option Hole)} (hp : PlaceOf σ x r pl) (hr : σ r = .u (.c c)) (hc : cellAt c pl = some y) (ho : ownAt c pl = true) (t : Args AR (upd σ r .junk) xs us hs σ') : Args AR σ (x :: xs) (.c y :: us) (some (r, pl, c) :: hs) σ'
  | move {σ σ' : St} {i : Nat} {u : U} {xs : List Operand} {us : List U} {hs : List (Option Hole)} (hi : σ i = .u u) (t : Args AR (upd σ i .junk) xs us hs σ') : Args AR σ (.tmp i :: xs) (u :: us) (none :: hs) σ'
  | rd {σ σ' : St} {x : Operand} {u : U} {xs : List Operand} {us : List U} {hs : List (Option Hole)} (h : AR x u) (t : Args AR σ xs us hs σ') : Args AR σ (x :: xs) (u :: us) (none :: hs) σ'
def back : List (Option Hole) → List (Option U) → St → St
  | some (r, pl, c) :: hs, some (.c y) :: os, σ => back hs os (upd σ r (.u (.c (setAt c pl y))))
  | _ :: hs, _ :: os, σ => back hs os σ
  | _, _, σ => σ
/-- What is handed over comes back as one cell, or not at all; of what is read, or moved, nothing comes back. -/
def okOuts : List (Option Hole) → List (Option U) → Bool
  | some _ :: hs, some (.c _) :: os => okOuts hs os
  | some _ :: hs, none :: os => okOuts hs os
  | none :: hs, none :: os => okOuts hs os
  | [], [] => true
  | _, _ => false
inductive ArgC (K : Ctx) (σ : St) : Operand → U → Prop
  | copy {x : Operand} {u : U} (h : opT K.ET σ x = .u u) (hc : copyU u = true) : ArgC K σ x u
  | nil (sz : Nat) (o : Bool) : ArgC K σ (.const (.slice none 0 0)) (.c (.sl o sz []))
  | func {f : FuncId} : ArgC K σ (.func f) (.fn f [])
/-- What a closure captured, lent. -/
inductive CapsL (σ : St) : List Cap → List C → Prop
  | nil : CapsL σ [] []
  | val {x : C} {caps : List Cap} {cs : List C} (t : CapsL σ caps cs) : CapsL σ (.val x :: caps) (x :: cs)
  | ref {r : Nat} {own : Bool} {ds ds' : List C} {caps : List Cap} {cs : List C} (hr : σ r = .u (.c (.pt own ds))) (hf : flatL ds) (e : roL ds = ds') (t : CapsL σ caps cs) : CapsL σ (.ref r :: caps) (.pt false ds' :: cs)
inductive ArgL (K : Ctx) (σ : St) : Operand → U → Prop
  | copy {x : Operand} {u : U} (h : ArgC K σ x u) : ArgL K σ x u
  | lend {x : Operand} {r : Nat} {pl : Pl} {c y y' : C} (hp : PlaceOf σ x r pl) (hr : σ r = .u (.c c)) (hc : cellAt c pl = some y) (hf : flatC y) (e : roC y = y') : ArgL K σ x (.c y')
  | fn {i : Nat} {f : FuncId} {caps : List Cap} {cs : List C} (h : aliasT i (σ i) = .fn f caps) (hc : CapsL σ caps cs) : ArgL K σ (.tmp i) (.fn f cs)
  | view {x : Operand} {sz : Nat} {rows : List (List C)} (h : Rows K σ sz x rows) (hf : ∀ r ∈ rows, r.all copyC = true) : ArgL K σ x (.c (.sl false sz rows))

section
variable {P : Program} {ET : TypeId} {w w' : World} {R R' : Nat → Prop} {K : Ctx} {σ σ' : St} {a : Act} {Fs : Nat → List Nat} {o : Oper} {d : Nat}

theorem PlaceOf.at_ {x : Operand} {r : Nat} {pl : Pl} (h : PlaceOf σ x r pl) (hs : SimF K σ a w Fs) : slAt w a.tmps r pl = some (a.eval x) := by
  cases h with
  | @ptr i r own cs h hr =>
    have h1 := (OpT.tmp h).rep hs
    have h2 := hs.rep r
    rw [hr] at h2
    generalize hv : a.eval (.tmp i) = v at h1
    cases h1 with
    | @addr _ _ b o' _ _ hw =>
      simp only [slAt]
      generalize a.tmps.getD r undef = v0 at h2 hw
      generalize Fs r = F at h2
      cases h2 with | u h2 => cases h2 with | c h2 => cases h2 with
        | pt hb hrep ho =>
          simp only [walk, walkV, Option.some.injEq, Prod.mk.injEq] at hw
          obtain ⟨rfl, rfl⟩ := hw
          rfl
  | @ptrX i r q h hr hq =>
    have h1 := (OpT.tmp h).rep hs
    have h2 := hs.rep r
    rw [hr] at h2
    generalize hv : a.eval (.tmp i) = v at h1
    cases h1 with
    | @addr _ _ b o' _ _ hw =>
      simp only [slAt]
      generalize a.tmps.getD r undef = v0 at h2 hw
      generalize Fs r = F at h2
      cases h2 with | u h2 => cases h2 with | c h2 => cases h2 with
        | x h2 =>
          obtain ⟨b2, rfl⟩ := q.ptr hq h2
          simp only [walk, walkV, Option.some.injEq, Prod.mk.injEq] at hw
          obtain ⟨rfl, rfl⟩ := hw
          rfl
  | @ptrC i r off s p own c cs ds h hr hg hc =>
    have h1 := (OpT.tmp h).rep hs
    have h2 := hs.rep r
    rw [hr] at h2
    generalize hv : a.eval (.tmp i) = v at h1
    cases h1 with
    | @addr _ _ b o' _ _ hw =>
      simp only [slAt]
      generalize a.tmps.getD r undef = v0 at h2 hw
      generalize Fs r = F at h2
      cases h2 with | u h2 => cases h2 with | c h2 =>
        obtain ⟨b3, o3, arr, et, Fi, h3, h4, h5, h6, _⟩ := RepC.read p h2 hg
        obtain ⟨y, F1, Fj, F2, hy, _, hrx, _⟩ := h6.at_ hc
        have hcell := window_cell h4 hy
        simp only [h3, Option.bind_some, hcell]
        cases hrx with
        | @pt b4 _ arr2 et2 _ F1' F' hb2 hrep ho2 =>
          have := walk_append h3 hcell (s' := .d) (q := (b4, 0)) rfl
          rw [this] at hw
          injection hw with hw
          injection hw with e1 e2
          subst e1; subst e2
          rfl
  | @sl i r sz n pl h =>
    have h1 := (OpT.tmp h).rep hs
    generalize hv : a.eval (.tmp i) = v at h1
    cases h1 with
    | whole h hs => exact h
theorem ArgC.rep {x : Operand} {u : U} (h : ArgC K σ x u) (hs : SimF K σ a w Fs) : RepU K.ET w K.R (a.eval x) u [] := by
  cases h with
  | copy h hc =>
    have h1 := opT_rep hs h (by simp)
    generalize a.eval x = v at h1
    cases h1 with | u h => exact h
  | nil sz o => exact .c (.nil o sz)
  | func => exact .fn .nil
theorem CapsL.rep {xs : List Value} {caps : List Cap} {cs : List C} (h : CapsL σ caps cs) (hs : SimF K σ a w Fs) (hx : xs.length = caps.length) (hv : ∀ (i : Nat) (c : Cap), caps[i]? = some c → ∃ v, xs[i]? = some v ∧ match c with | .ref r => v = a.tmps.getD r undef | .val x => RepC K.ET w K.R v x []) : RepL K.ET w (lentR K Fs) xs cs [] := by
  induction h generalizing xs with
  | nil => obtain rfl := List.eq_nil_of_length_eq_zero hx; exact .nil
  | val t ih =>
    cases xs with
    | nil => cases hx
    | cons y xs =>
      obtain ⟨v, h1, h2⟩ := hv 0 _ rfl
      obtain rfl : y = v := by simpa using h1
      exact RepL.cons (F := []) (G := []) (h2.frame (fun _ h => .inl h) (fun _ _ => rfl)) (ih (by simpa using hx) (fun i c hi => by simpa using hv (i + 1) c (by simpa using hi)))
  | @ref r own ds ds' caps cs hr hf e t ih =>
    cases xs with
    | nil => cases hx
    | cons y xs =>
      obtain ⟨v, h1, h2⟩ := hv 0 _ rfl
      obtain rfl : y = v := by simpa using h1
      subst e
      have h3 := hs.rep r
      rw [hr] at h3
      simp only at h2
      rw [← h2] at h3
      generalize hF : Fs r = F at h3
      cases h3 with | u h3 => cases h3 with | c h3 =>
        have h4 := h3.lend (R' := lentR K Fs) hf (fun b hb => .inr ⟨r, by rw [hF]; exact hb⟩) (fun b hb => .inl hb)
        exact RepL.cons (F := []) (G := []) h4 (ih (by simpa using hx) (fun i c hi => by simpa using hv (i + 1) c (by simpa using hi)))
theorem RepU.more {x : Value} {u : U} {F : List Nat} (h : RepU ET w R x u F) (hR : ∀ b, R b → R' b) : RepU ET w R' x u F := h.frame hR (fun _ _ => rfl)
theorem ArgL.rep {x : Operand} {u : U} (h : ArgL K σ x u) (hs : SimF K σ a w Fs) : RepU K.ET w (lentR K Fs) (a.eval x) u [] := by
  cases h with
  | copy h => exact (h.rep hs).more (fun b hb => .inl hb)
  | @lend _ r pl c y y' hp hr hc hf e =>
    subst e
    have hv := hp.at_ hs
    have h2 := hs.rep r
    rw [hr] at h2
    generalize hF : Fs r = F at h2
    generalize hv0 : a.tmps.getD r undef = v0 at h2
    cases h2 with | u h2 => cases h2 with | c h2 =>
      have hy : ∃ Fx, RepC K.ET w K.R (a.eval x) y Fx ∧ ∀ b ∈ Fx, b ∈ F := by
        cases pl with
        | none =>
          simp only [slAt, Option.some.injEq] at hv
          simp only [cellAt, Option.some.injEq] at hc
          rw [← hv, hv0, ← hc]
          exact ⟨F, h2, fun _ h => h⟩
        | some q =>
          obtain ⟨s, p, off⟩ := q
          simp only [cellAt, Option.bind_eq_some_iff] at hc
          obtain ⟨cs, hg, hc⟩ := hc
          obtain ⟨b3, o3, arr, et, Fi, h3, h4, h5, h6, h7, _⟩ := RepC.read p h2 hg
          obtain ⟨y1, F1, Fj, F2, hy, e1, hrx, _⟩ := h6.at_ hc
          have hcell := window_cell h4 hy
          simp only [slAt, hv0, h3, Option.bind_some, hcell, Option.some.injEq] at hv
          rw [← hv]
          exact ⟨Fj, hrx, fun b hb => h7 b (by rw [e1]; exact List.mem_append_right _ (List.mem_append_left _ hb))⟩
      obtain ⟨Fx, hrx, hsub⟩ := hy
      exact .c (hrx.lend hf (fun b hb => .inr ⟨r, by rw [hF]; exact hsub b hb⟩) (fun b hb => .inl hb))
  | @fn i f caps cs h hc =>
    have h1 := (OpT.tmp h).rep hs
    generalize a.eval (.tmp i) = v at h1
    cases h1 with
    | fn hl h1 => exact .fn (hc.rep hs (by simpa using hl) (fun i c hi => by obtain ⟨v, h2, h3⟩ := h1 i c hi; exact ⟨v, by simpa using h2, h3⟩))
  | @view _ sz rows h hf =>
    obtain ⟨G, hG⟩ := h.shows hs
    rcases hG with ⟨h1, rfl⟩ | ⟨b, off, cap, arr, et, h1, hb, k1, k2, k3, hrow, hrep, hsz, hS⟩
    · rw [h1]; exact .c (.nil false sz)
    · rw [h1]
      have hG0 := flat_copy hf hrep
      subst hG0
      exact .c (.sl hb rfl k3 hsz k2 hrow (hrep.frame (fun b hb => .inl hb) (fun _ _ => rfl)) (.inr ⟨rfl, hS, rfl, rfl⟩) (fun h => by cases h))
end
end Go.Proofs.Ytfbjhioefkimbaa.V
namespace Go.Proofs.Ytfbjhioefkimbaa.V
open Go Go.RowKit
set_option linter.unusedVariables false
set_option linter.unusedSimpArgs false

def resT : List U → T
  | [u] => .u u
  | us => .tup us
section
variable {P : Program} {ET : TypeId} {w w' : World} {R R' : Nat → Prop} {K : Ctx} {σ σ' : St} {a : Act} {Fs : Nat → List Nat} {o : Oper} {d : Nat}

theorem Free.sub {F G : List Nat} (h : Free K Fs F) (hn : G.Nodup) (hs : ∀ b ∈ G, b ∈ F) : Free K Fs G := ⟨hn, fun b hb => h.2 b (hs b hb)⟩
theorem SimF.args {AR : Operand → U → Prop} {xs : List Operand} {us : List U} {hs : List (Option Hole)} (h : Args AR σ xs us hs σ') : ∀ {Fs}, SimF K σ a w Fs →
    ∃ Fs1 Fin Fo, SimF K σ' a w Fs1 ∧ Free K Fs1 (Fin ++ Fo) ∧ (∀ b ∈ Fin ++ Fo, ∃ j, b ∈ Fs j) ∧ (∀ j b, b ∈ Fs1 j → b ∈ Fs j) ∧
      (∀ R', (∀ b, K.R b → R' b) → (∀ x u, AR x u → RepU K.ET w R' (a.eval x) u []) → RepUs K.ET w R' (xs.map a.eval) us Fin) ∧
      (∀ w' σw Fsw outs H1, SimF K σw a w' Fsw → okOuts hs outs = true → (∀ b, (b ∈ Fo ∨ K.R b) → w'.heap[b]? = w.heap[b]?) → RepO K.ET w' K.R (xs.map a.eval) outs H1 → Free K Fsw (H1 ++ Fo) →
        ∃ Fs2, SimF K (back hs outs σw) a w' Fs2 ∧ ∀ j b, b ∈ Fs2 j → b ∈ Fsw j ∨ b ∈ H1 ∨ b ∈ Fo) := by
  induction h with
  | nil =>
    intro Fs hs
    refine ⟨Fs, [], [], hs, ⟨List.nodup_nil, by simp⟩, by simp, fun _ _ h => h, fun _ _ _ => .nil, fun w' σw Fsw outs H1 h1 h2 _ h4 h5 => ?_⟩
    cases outs with
    | nil => exact ⟨Fsw, h1, fun j b hb => .inl hb⟩
    | cons _ _ => simp [okOuts] at h2
  | @hand σ σ' x r pl c y xs us hs hp hr hc ho t ih =>
    intro Fs hsim
    have hv := hp.at_ hsim
    have hrep := hsim.rep r
    rw [hr] at hrep
    have hnd := hsim.nd r
    have hex : ∃ Fo Fx, (Fs r).Perm (Fo ++ Fx) ∧ RepC K.ET w K.R (a.eval x) y Fx ∧ ∀ w' x' Fx', (∀ b, (b ∈ Fo ∨ K.R b) → w'.heap[b]? = w.heap[b]?) → RepC K.ET w' K.R (a.eval x) x' Fx' → ∃ F2, RepC K.ET w' K.R (a.tmps.getD r undef) (setAt c pl x') F2 ∧ F2.Perm (Fo ++ Fx') := by
      generalize hF : Fs r = F at hrep hnd
      generalize hv0 : a.tmps.getD r undef = v0 at hrep
      cases hrep with | u hrep => cases hrep with | c hrep =>
        obtain ⟨y1, Fo, Fx, h1, h2, h3, h4⟩ := hrep.cell hv0 hnd hc ho
        rw [h1] at hv
        injection hv with hv
        subst hv
        exact ⟨Fo, Fx, h2, h3, h4⟩
    obtain ⟨For, Fx, hperm, hy, hback⟩ := hex
    obtain ⟨Fs1, Fin, Fo, k1, k2, k3, k4, k5, k6⟩ := ih (hsim.out r)
    have hndr : (For ++ Fx).Nodup := hperm.nodup_iff.mp hnd
    have hin : ∀ b, b ∈ For ++ Fx → b ∈ Fs r := fun b hb => hperm.mem_iff.mpr hb
    have hne : ∀ b, b ∈ Fs r → b ∉ Fin ++ Fo := by
      intro b hb hb2
      obtain ⟨j, hj⟩ := k3 b hb2
      unfold updF at hj
      split at hj
      · cases hj
      · rename_i hn; exact hn (hsim.dis j r b hj hb)
    have hfr : ∀ b ∈ Fs r, (∀ j, b ∉ Fs1 j) ∧ ¬ K.R b ∧ (b ∈ K.E ∨ K.w0.heap.size ≤ b) := by
      intro b hb
      refine ⟨fun j hj => ?_, hsim.own r b hb⟩
      have := k4 j b hj
      unfold updF at this
      split at this
      · cases this
      · rename_i hn; exact hn (hsim.dis j r b this hb)
    refine ⟨Fs1, Fx ++ Fin, For ++ Fo, k1, ⟨?_, ?_⟩, ?_, ?_, ?_, ?_⟩
    · have n1 := List.nodup_append.mp hndr
      have n2 := List.nodup_append.mp k2.1
      simp only [List.nodup_append, List.mem_append]
      refine ⟨⟨n1.2.1, n2.1, fun x hx y hy e => hne x (hin x (List.mem_append_right _ hx)) (by rw [e]; exact List.mem_append_left _ hy)⟩, ⟨n1.1, n2.2.1, fun x hx y hy e => hne x (hin x (List.mem_append_left _ hx)) (by rw [e]; exact List.mem_append_right _ hy)⟩, ?_⟩
      intro x hx y hy e
      subst e
      rcases hx with hx | hx <;> rcases hy with hy | hy
      · exact n1.2.2 x hy x hx rfl
      · exact hne x (hin x (List.mem_append_right _ hx)) (List.mem_append_right _ hy)
      · exact hne x (hin x (List.mem_append_left _ hy)) (List.mem_append_left _ hx)
      · exact n2.2.2 x hx x hy rfl
    · intro b hb
      simp only [List.mem_append] at hb
      rcases hb with (hb | hb) | hb | hb
      · exact hfr b (hin b (List.mem_append_right _ hb))
      · exact k2.2 b (List.mem_append_left _ hb)
      · exact hfr b (hin b (List.mem_append_left _ hb))
      · exact k2.2 b (List.mem_append_right _ hb)
    · intro b hb
      simp only [List.mem_append] at hb
      have hk3 : ∀ b ∈ Fin ++ Fo, ∃ j, b ∈ Fs j := by
        intro b hb
        obtain ⟨j, hj⟩ := k3 b hb
        unfold updF at hj
        split at hj
        · cases hj
        · exact ⟨j, hj⟩
      rcases hb with (hb | hb) | hb | hb
      · exact ⟨r, hin b (List.mem_append_right _ hb)⟩
      · exact hk3 b (List.mem_append_left _ hb)
      · exact ⟨r, hin b (List.mem_append_left _ hb)⟩
      · exact hk3 b (List.mem_append_right _ hb)
    · intro j b hb
      have := k4 j b hb
      unfold updF at this
      split at this
      · cases this
      · exact this
    · intro R' hR hA
      exact .cons ((RepU.c hy).more hR) (k5 R' hR hA)
    · intro w' σw Fsw outs H1 h1 h2 h3 h4 h5
      cases outs with
      | nil => simp [okOuts] at h2
      | cons u os =>
        cases u with
        | none =>
          cases h4 with
          | skip h4 =>
            obtain ⟨Fs2, l1, l2⟩ := k6 w' σw Fsw os H1 h1 (by simpa [okOuts] using h2) (fun b hb => h3 b (hb.imp (fun h => List.mem_append_right _ h) id)) h4 (h5.sub (by
              have := List.nodup_append.mp h5.1
              have n2 := List.nodup_append.mp this.2.1
              rw [List.nodup_append]
              exact ⟨this.1, n2.2.1, fun x hx y hy => this.2.2 x hx y (List.mem_append_right _ hy)⟩) (fun b hb => by
              rcases List.mem_append.mp hb with h | h
              · exact List.mem_append_left _ h
              · exact List.mem_append_right _ (List.mem_append_right _ h)))
            exact ⟨Fs2, l1, fun j b hb => (l2 j b hb).imp id (fun h => h.imp id (fun h => List.mem_append_right _ h))⟩
        | some u =>
          cases u with
          | agg cs => simp [okOuts] at h2
          | fn f cs => simp [okOuts] at h2
          | c y' =>
            cases h4 with
            | @cons _ _ _ _ Fa Ha h4 h4t =>
              have h4 : RepC K.ET w' K.R (a.eval x) y' Fa := by
                generalize a.eval x = vx at h4
                cases h4 with | c h => exact h
              · obtain ⟨F2, m1, m2⟩ := hback w' y' Fa (fun b hb => h3 b (hb.imp (fun h => List.mem_append_left _ h) id)) h4
                have n0 := List.nodup_append.mp h5.1
                have n1 := List.nodup_append.mp n0.1
                have n2 := List.nodup_append.mp n0.2.1
                have hF2 : ∀ b ∈ F2, b ∈ For ∨ b ∈ Fa := fun b hb => List.mem_append.mp (m2.mem_iff.mp hb)
                have hF2f : ∀ b ∈ F2, b ∈ (Fa ++ Ha) ++ (For ++ Fo) := fun b hb => by
                  rcases hF2 b hb with h | h
                  · exact List.mem_append_right _ (List.mem_append_left _ h)
                  · exact List.mem_append_left _ (List.mem_append_left _ h)
                have hin2 := h1.in_ (i := r) (t := .u (.c (setAt c pl y'))) (F := F2) (.u (.c m1)) (by
                  rw [m2.nodup_iff, List.nodup_append]
                  exact ⟨n2.1, n1.1, fun x hx y hy e => n0.2.2 y (List.mem_append_left _ hy) x (List.mem_append_left _ hx) e.symm⟩) (fun j _ b hb => (h5.2 b (hF2f b hb)).1 j) (fun b hb => (h5.2 b (hF2f b hb)).2)
                obtain ⟨Fs2, l1, l2⟩ := k6 w' _ _ os Ha hin2 (by simpa [okOuts] using h2) (fun b hb => h3 b (hb.imp (fun h => List.mem_append_right _ h) id)) h4t ⟨by
                    rw [List.nodup_append]
                    exact ⟨n1.2.1, n2.2.1, fun x hx y hy => n0.2.2 x (List.mem_append_right _ hx) y (List.mem_append_right _ hy)⟩, fun b hb => by
                    have hb' : b ∈ (Fa ++ Ha) ++ (For ++ Fo) := by
                      rcases List.mem_append.mp hb with h | h
                      · exact List.mem_append_left _ (List.mem_append_right _ h)
                      · exact List.mem_append_right _ (List.mem_append_right _ h)
                    refine ⟨fun j hj => ?_, (h5.2 b hb').2⟩
                    unfold updF at hj
                    split at hj
                    · rcases hF2 b hj with h | h <;> rcases List.mem_append.mp hb with h' | h'
                      · exact n0.2.2 b (List.mem_append_right _ h') b (List.mem_append_left _ h) rfl
                      · exact n2.2.2 b h b h' rfl
                      · exact n1.2.2 b h b h' rfl
                      · exact n0.2.2 b (List.mem_append_left _ h) b (List.mem_append_right _ h') rfl
                    · exact (h5.2 b hb').1 j hj⟩
                refine ⟨Fs2, l1, fun j b hb => ?_⟩
                rcases l2 j b hb with h | h | h
                · unfold updF at h
                  split at h
                  · rcases hF2 b h with h | h
                    · exact .inr (.inr (List.mem_append_left _ h))
                    · exact .inr (.inl (List.mem_append_left _ h))
                  · exact .inl h
                · exact .inr (.inl (List.mem_append_right _ h))
                · exact .inr (.inr (List.mem_append_right _ h))
  | @move σ σ' i u xs us hs hi t ih =>
    intro Fs hsim
    have hrep := hsim.rep i
    rw [hi] at hrep
    obtain ⟨Fs1, Fin, Fo, k1, k2, k3, k4, k5, k6⟩ := ih (hsim.out i)
    have hne : ∀ b, b ∈ Fs i → b ∉ Fin ++ Fo := by
      intro b hb hb2
      obtain ⟨j, hj⟩ := k3 b hb2
      unfold updF at hj
      split at hj
      · cases hj
      · rename_i hn; exact hn (hsim.dis j i b hj hb)
    refine ⟨Fs1, Fs i ++ Fin, Fo, k1, ⟨?_, ?_⟩, ?_, ?_, ?_, ?_⟩
    · rw [List.append_assoc, List.nodup_append]
      exact ⟨hsim.nd i, k2.1, fun x hx y hy e => hne x hx (e ▸ hy)⟩
    · intro b hb
      rw [List.append_assoc] at hb
      rcases List.mem_append.mp hb with hb | hb
      · refine ⟨fun j hj => ?_, hsim.own i b hb⟩
        have := k4 j b hj
        unfold updF at this
        split at this
        · cases this
        · rename_i hn; exact hn (hsim.dis j i b this hb)
      · exact k2.2 b hb
    · intro b hb
      rw [List.append_assoc] at hb
      rcases List.mem_append.mp hb with hb | hb
      · exact ⟨i, hb⟩
      · obtain ⟨j, hj⟩ := k3 b hb
        unfold updF at hj
        split at hj
        · cases hj
        · exact ⟨j, hj⟩
    · intro j b hb
      have := k4 j b hb
      unfold updF at this
      split at this
      · cases this
      · exact this
    · intro R' hR hA
      refine .cons ?_ (k5 R' hR hA)
      rw [getD_eval]
      generalize a.tmps.getD i undef = v at hrep ⊢
      generalize Fs i = F at hrep ⊢
      cases hrep with | u h => exact h.more hR
    · intro w' σw Fsw outs H1 h1 h2 h3 h4 h5
      cases outs with
      | nil => simp [okOuts] at h2
      | cons u os =>
        cases u with
        | some u => simp [okOuts] at h2
        | none =>
          cases h4 with
          | skip h4 => exact k6 w' σw Fsw os H1 h1 (by simpa [okOuts] using h2) h3 h4 h5
  | @rd σ σ' x u xs us hs hA t ih =>
    intro Fs hsim
    obtain ⟨Fs1, Fin, Fo, k1, k2, k3, k4, k5, k6⟩ := ih hsim
    refine ⟨Fs1, Fin, Fo, k1, k2, k3, k4, fun R' hR hAR => ?_, fun w' σw Fsw outs H1 h1 h2 h3 h4 h5 => ?_⟩
    · have := RepUs.cons (hAR x u hA) (k5 R' hR hAR)
      simpa using this
    · cases outs with
      | nil => simp [okOuts] at h2
      | cons u os =>
        cases u with
        | some u => simp [okOuts] at h2
        | none =>
          cases h4 with
          | skip h4 => exact k6 w' σw Fsw os H1 h1 (by simpa [okOuts] using h2) h3 h4 h5
end
end Go.Proofs.Ytfbjhioefkimbaa.V
namespace Go.Proofs.Ytfbjhioefkimbaa.V
open Go Go.RowKit
set_option linter.unusedVariables false
set_option linter.unusedSimpArgs false

def mineOs : List (Option U) → Prop
  | [] => True
  | none :: os => mineOs os
  | some u :: os => mineU u ∧ mineOs os
def mineUs : List U → Prop
  | [] => True
  | u :: us => mineU u ∧ mineUs us
/-- A function of the program, that has code. -/
def FnT (P : Program) (f : FuncId) : Prop := ∃ fn, P.funcs[f]? = some fn ∧ fn.body.isSome = true ∧ (fn.name == "runtime.NumGoroutine") = false
/-- A call's callee, and what it captured. -/
inductive CalleeT (K : Ctx) (σ : St) : Callee → FuncId → List C → Prop
  | func {f : FuncId} : CalleeT K σ (.value (.func f)) f []
  | u {i : Nat} {f : FuncId} {caps : List C} (h : σ i = .u (.fn f caps)) : CalleeT K σ (.value (.tmp i)) f caps
section
variable {P : Program} {ET : TypeId} {w w' : World} {R R' : Nat → Prop} {K : Ctx} {σ σ' : St} {a : Act} {Fs : Nat → List Nat} {o : Oper} {d : Nat}

theorem RepO.mine {xs : List Value} {us : List (Option U)} {F : List Nat} (h : RepO ET w R xs us F) (hm : mineOs us) : RepO ET w R' xs us F := by
  induction us generalizing xs F with
  | nil => cases h; exact .nil
  | cons u us ih =>
    cases h with
    | skip t => exact .skip (ih t (by simpa [mineOs] using hm))
    | cons h t => exact .cons (h.mine hm.1) (ih t hm.2)
theorem RepUs.mine {xs : List Value} {us : List U} {F : List Nat} (h : RepUs ET w R xs us F) (hm : mineUs us) : RepUs ET w R' xs us F := by
  induction us generalizing xs F with
  | nil => cases h; exact .nil
  | cons u us ih => cases h with | cons h t => exact .cons (h.mine hm.1) (ih t hm.2)
theorem RepR.mine {v : Value} {us : List U} {F : List Nat} (h : RepR ET w R v us F) (hm : mineUs us) : RepR ET w R' v us F := by
  cases h with
  | one h => exact .one (h.mine hm.1)
  | many hl h => exact .many hl (h.mine hm)
theorem RepR.repT {tmps : Array Value} {v : Value} {us : List U} {F : List Nat} (h : RepR ET w R v us F) : RepT ET w R tmps v (resT us) F := by
  cases h with
  | one h => exact .u h
  | many hl h =>
    have : resT us = .tup us := by
      cases us with
      | nil => rfl
      | cons u us => cases us with
        | nil => simp at hl
        | cons _ _ => rfl
    rw [this]
    exact .tup h
theorem run_callFunc {f : FuncId} (h : FnT P f) (args : Array Value) (w : World) : (callFunc f args).run P w = .ok (.enter f args) w := by
  obtain ⟨fn, h1, h2, h3⟩ := h
  have h4 : fn.body.isNone = false := by cases hb : fn.body <;> simp_all
  unfold callFunc
  rw [Sem.run_bind, run_program]
  simp only [Result.andThen_ok]
  rw [h1]
  simp only [h3, h4, Bool.false_eq_true, if_false, Sem.run_pure]
theorem run_call {c : Callee} {args : Array Operand} {tys : Array TypeId} {f : FuncId} {caps : List C} (ho : o.op = .call { callee := c, args := args, argTypes := tys }) (hc : CalleeT K σ c f caps) (hf : FnT P f) (hs : SimF K σ a w Fs) :
    ∃ vc, RepL K.ET w K.R vc caps [] ∧ (execOp a.eval o).run P w = .ok (.enter f ((args.toList.map a.eval) ++ vc).toArray) w := by
  cases hc with
  | func =>
    refine ⟨[], .nil, ?_⟩
    simp only [execOp, ho, resolve, Act.eval, Deferred.ofValue, Sem.run_bind, Sem.run_pure, Result.andThen_ok, invoke]
    rw [run_callFunc hf]
    congr 2
    apply Array.toList_inj.mp
    simp
  | @u i _ _ h =>
    have h1 := hs.rep i
    rw [h] at h1
    generalize hv : a.tmps.getD i undef = v at h1
    generalize Fs i = F at h1
    cases h1 with | u h1 => cases h1 with
      | @fn _ arr _ h1 =>
        refine ⟨arr.toList, h1, ?_⟩
        simp only [execOp, ho, resolve, getD_eval, hv, Deferred.ofValue, Sem.run_bind, Sem.run_pure, Result.andThen_ok, invoke]
        rw [run_callFunc hf]
        congr 2
        apply Array.toList_inj.mp
        simp
theorem RepUs.app {xs : List Value} {us : List U} {F : List Nat} (h : RepUs ET w R xs us F) {vc : List Value} {caps : List C} (hc : RepL ET w R vc caps []) : RepUs ET w R (xs ++ vc) (us ++ caps.map .c) F := by
  induction us generalizing xs F with
  | nil =>
    cases h
    simp only [List.nil_append]
    induction caps generalizing vc with
    | nil => cases hc; exact .nil
    | cons c caps ih =>
      generalize hF : ([] : List Nat) = F at hc
      cases hc with
      | cons h t =>
        obtain ⟨e1, e2⟩ := List.append_eq_nil_iff.mp hF.symm
        subst e1; subst e2
        simpa using RepUs.cons (RepU.c h) (ih t)
  | cons u us ih => cases h with | cons h t => rw [List.cons_append, List.cons_append]; exact .cons h (ih t)
theorem RepO.cut {xs : List Value} {os : List (Option U)} {F : List Nat} {vc : List Value} {n : Nat} (h : RepO ET w R (xs ++ vc) (os ++ List.replicate n none) F) (hl : xs.length = os.length) : RepO ET w R xs os F := by
  induction os generalizing xs F with
  | nil =>
    have : xs = [] := List.eq_nil_of_length_eq_zero (by simpa using hl)
    subst this
    simp only [List.nil_append] at h
    have : F = [] := by
      clear hl
      induction n generalizing vc with
      | zero => simp only [List.replicate_zero] at h; cases h; rfl
      | succ n ih => rw [List.replicate_succ] at h; cases h with | skip t => exact ih t
    subst this
    exact .nil
  | cons u os ih =>
    cases xs with
    | nil => simp at hl
    | cons x xs =>
      rw [List.cons_append, List.cons_append] at h
      cases h with
      | skip t => exact .skip (ih t (by simpa using hl))
      | cons h t => exact .cons h (ih t (by simpa using hl))
def putR (σ : St) : Option Nat → T → St
  | some d, t => put σ d t
  | none, _ => σ
def okD (K : Ctx) : Option Nat → Bool
  | some d => okT K d
  | none => true
theorem SimF.putR (h : SimF K σ a w Fs) {od : Option Nat} {v : Value} {t : T} {F : List Nat} (hd : okD K od = true) (hF : Free K Fs F) (hr : ∀ d, od = some d → refs t d = false) (ht : RepT K.ET w K.R a.tmps v t F) : Sim K (V.putR σ od t) (a.put od v) w := by
  cases od with
  | none => exact ⟨Fs, h⟩
  | some d => exact ⟨_, h.put2 hd (Keeps.refl w _) hF.2 hF.1 (ht.to_put (hr d rfl))⟩
theorem resT_refs (us : List U) (d : Nat) : refs (resT us) d = false := by
  cases us with
  | nil => rfl
  | cons u us => cases us <;> rfl
/-- A call. Lending: 'R'' is whatever the reading arguments are shown under. -/
theorem s_call_ {AR : Operand → U → Prop} {c : Callee} {args : Array Operand} {tys : Array TypeId} {f : FuncId} {caps : List C} {ins : List U} {hs : List (Option Hole)} {outs : List (Option U)} {res : List U} {lend : Bool} (ho : o.op = .call { callee := c, args := args, argTypes := tys }) (hf : FnT P f) (hc : CalleeT K σ c f caps)
    (hA : Args AR σ args.toList ins hs σ') (hAR : ∀ a w Fs, SimF K σ' a w Fs → ∀ x u, AR x u → RepU K.ET w (if lend then lentR K Fs else K.R) (a.eval x) u []) (hac : ACK K P f (ins ++ caps.map .c) (outs ++ List.replicate caps.length none) res) (hok : okOuts hs outs = true) (hm : lend = true → mineOs outs ∧ mineUs res)
    (hd : okD K o.dst = true) : Step P K σ o (putR (back hs outs (fun j => killD (σ' j))) o.dst (resT res)) := by
  rintro a w ⟨Fs, hsim⟩
  obtain ⟨vc, hvc, hrun⟩ := run_call (P := P) ho hc hf hsim
  obtain ⟨Fs1, Fin, Fo, k1, k2, k3, k4, k5, k6⟩ := hsim.args hA
  simp only [Oper.wp, hrun, Oper.upon_enter]
  obtain ⟨R', hR'⟩ : ∃ R', (if lend then lentR K Fs1 else K.R) = R' := ⟨_, rfl⟩
  have hRR : ∀ b, K.R b → R' b := by
    intro b hb
    rw [← hR']
    split
    · exact .inl hb
    · exact hb
  have hRlt : ∀ b, R' b → b < w.heap.size := by
    intro b hb
    rw [← hR'] at hb
    split at hb
    · rcases hb with hb | ⟨j, hb⟩
      · exact Nat.lt_of_lt_of_le (k1.ro b hb).1 k1.keeps.size
      · exact (k1.rep j).lt b hb
    · exact Nat.lt_of_lt_of_le (k1.ro b hb).1 k1.keeps.size
  have hnodup := List.nodup_append.mp k2.1
  have hinR : ∀ b ∈ Fin, ¬ R' b := by
    intro b hb hb2
    rw [← hR'] at hb2
    have h1 := k2.2 b (List.mem_append_left _ hb)
    split at hb2
    · rcases hb2 with h | ⟨j, h⟩
      · exact h1.2.1 h
      · exact h1.1 j h
    · exact h1.2.1 hb2
  have hins := (k5 R' hRR (fun x u h => by rw [← hR']; exact hAR a w Fs1 k1 x u h)).app (hvc.frame hRR (fun _ _ => rfl))
  refine (hac R' w _ Fin hRR (fun b hb => k1.keeps.block b (k1.ro b hb).1 (k1.ro b hb).2) hins hnodup.1 hinR hRlt).mono ?_
  rintro e w2 ⟨rv, H1, H2, rfl, hO, hRr, hnd, hsub, hk⟩
  have hO2 : RepO K.ET w2 K.R (args.toList.map a.eval) outs H1 := by
    have hlen : (args.toList.map a.eval).length = outs.length := by
      have l1 : ∀ {σ0 : St} {xs : List Operand} {us : List U} {hs : List (Option Hole)} {σ1 : St}, Args AR σ0 xs us hs σ1 → xs.length = hs.length := by
        intro σ0 xs us hs σ1 h
        induction h <;> simp_all
      have l2 : ∀ (hs : List (Option Hole)) (os : List (Option U)), okOuts hs os = true → hs.length = os.length := by
        intro hs
        induction hs with
        | nil => intro os h; cases os <;> simp_all [okOuts]
        | cons x hs ih =>
          intro os h
          cases os with
          | nil => cases x <;> simp [okOuts] at h
          | cons y os =>
            simp only [List.length_cons]
            congr 1
            apply ih
            cases x with
            | none => cases y with
              | none => exact h
              | some u => simp [okOuts] at h
            | some x => cases y with
              | none => exact h
              | some u => cases u with
                | c u => exact h
                | agg u => simp [okOuts] at h
                | fn f u => simp [okOuts] at h
      rw [List.length_map, l1 hA, l2 hs outs hok]
    have := hO.cut hlen
    cases hl : lend with
    | true => exact this.mine (hm hl).1
    | false => rw [hl, if_neg Bool.false_ne_true] at hR'; rw [hR']; exact this
  have hR2 : RepR K.ET w2 K.R rv res H2 := by
    cases hl : lend with
    | true => exact hRr.mine (hm hl).2
    | false => rw [hl, if_neg Bool.false_ne_true] at hR'; rw [hR']; exact hRr
  have hw2 := k1.world hk (fun b hb => (k2.2 b (List.mem_append_left _ hb)).2.2) (fun j b hb h => (k2.2 b (List.mem_append_left _ h)).1 j hb) (fun b hb => (k2.2 b (List.mem_append_left _ hb)).2.1)
  have hFoK : ∀ b, (b ∈ Fo ∨ K.R b) → w2.heap[b]? = w.heap[b]? := by
    intro b hb
    rcases hb with hb | hb
    · obtain ⟨j, hj⟩ := k3 b (List.mem_append_right _ hb)
      exact hk.block b ((hsim.rep j).lt b hj) (fun h => hnodup.2.2 b h b hb rfl)
    · exact hk.block b (hRlt b (hRR b hb)) (fun h => hinR b h (hRR b hb))
  have hfree : ∀ b ∈ H1 ++ H2, (∀ j, b ∉ Fs1 j) ∧ ¬ K.R b ∧ (b ∈ K.E ∨ K.w0.heap.size ≤ b) := by
    intro b hb
    rcases hsub b hb with h | h
    · exact k2.2 b (List.mem_append_left _ h)
    · refine ⟨fun j hj => ?_, fun hR => ?_, .inr (Nat.le_trans k1.keeps.size h)⟩
      · have := (k1.rep j).lt b hj; omega
      · have := hRlt b (hRR b hR); omega
  have hHF : ∀ b ∈ H1 ++ H2, b ∉ Fo := by
    intro b hb h2
    rcases hsub b hb with h | h
    · exact hnodup.2.2 b h b h2 rfl
    · obtain ⟨j, hj⟩ := k3 b (List.mem_append_right _ h2)
      have := (hsim.rep j).lt b hj
      omega
  have hH := List.nodup_append.mp hnd
  obtain ⟨Fs2, m1, m2⟩ := k6 w2 _ Fs1 outs H1 hw2 hok hFoK hO2 ⟨by
      rw [List.nodup_append]
      exact ⟨hH.1, hnodup.2.1, fun x hx y hy e => hHF x (List.mem_append_left _ hx) (e ▸ hy)⟩, fun b hb => by
      rcases List.mem_append.mp hb with hb | hb
      · exact hfree b (List.mem_append_left _ hb)
      · exact k2.2 b (List.mem_append_right _ hb)⟩
  refine m1.putR hd ⟨hH.2.1, fun b hb => ⟨fun j hj => ?_, (hfree b (List.mem_append_right _ hb)).2⟩⟩ (fun d _ => resT_refs res d) hR2.repT
  rcases m2 j b hj with h | h | h
  · exact (hfree b (List.mem_append_right _ hb)).1 j h
  · exact hH.2.2 b h b hb rfl
  · exact hHF b (List.mem_append_right _ hb) h
end
end Go.Proofs.Ytfbjhioefkimbaa.V
namespace Go.Proofs.Ytfbjhioefkimbaa.V
open Go Go.RowKit
set_option linter.unusedVariables false
set_option linter.unusedSimpArgs false

inductive Rds (AR : Operand → U → Prop) : List Operand → List U → Prop
  | nil : Rds AR [] []
  | cons {x : Operand} {u : U} {xs : List Operand} {us : List U} (h : AR x u) (t : Rds AR xs us) : Rds AR (x :: xs) (u :: us)
def initS (us : List U) : St := fun i => match us[i]? with
  | some u => .u u
  | none => .junk
/-- What is handed back, and what is left where the arguments lay. -/
def retQ (K : Ctx) (rts : List Nat) (outs : List (Option U)) (res : List U) (e : Exit) (σ : St) : Prop :=
  (e = .normal ∨ e = .ret) ∧ ∃ σ' us, Srcs K σ (rts.map fun t => (t, .tmp t)) us σ' ∧ us.map (·.2) = res ∧ ∀ (i : Nat) (u : U), outs[i]? = some (some u) → σ' i = .u u ∧ K.pins.contains i = true
section
variable {P : Program} {ET : TypeId} {w w' : World} {R R' : Nat → Prop} {K : Ctx} {σ σ' : St} {a : Act} {Fs : Nat → List Nat} {o : Oper} {d : Nat}

theorem s_callC {c : Callee} {args : Array Operand} {tys : Array TypeId} {f : FuncId} {caps : List C} {ins : List U} {hs : List (Option Hole)} {outs : List (Option U)} {res : List U} (ho : o.op = .call { callee := c, args := args, argTypes := tys }) (hf : FnT P f) (hc : CalleeT K σ c f caps)
    (hA : Args (ArgC K σ') σ args.toList ins hs σ') (hac : ACK K P f (ins ++ caps.map .c) (outs ++ List.replicate caps.length none) res) (hok : okOuts hs outs = true)
    (hd : okD K o.dst = true) : Step P K σ o (putR (back hs outs (fun j => killD (σ' j))) o.dst (resT res)) :=
  s_call_ (lend := false) ho hf hc hA (fun _ _ _ hs x u h => by simpa using h.rep hs) hac hok (by simp) hd
theorem s_callL {c : Callee} {args : Array Operand} {tys : Array TypeId} {f : FuncId} {caps : List C} {ins : List U} {hs : List (Option Hole)} {outs : List (Option U)} {res : List U} (ho : o.op = .call { callee := c, args := args, argTypes := tys }) (hf : FnT P f) (hc : CalleeT K σ c f caps)
    (hA : Args (ArgL K σ') σ args.toList ins hs σ') (hac : ACK K P f (ins ++ caps.map .c) (outs ++ List.replicate caps.length none) res) (hok : okOuts hs outs = true) (hm1 : mineOs outs) (hm2 : mineUs res)
    (hd : okD K o.dst = true) : Step P K σ o (putR (back hs outs (fun j => killD (σ' j))) o.dst (resT res)) :=
  s_call_ (lend := true) ho hf hc hA (fun _ _ _ hs x u h => by simpa using h.rep hs) hac hok (fun _ => ⟨hm1, hm2⟩) hd
theorem Rds.reps {AR : Operand → U → Prop} {xs : List Operand} {us : List U} (h : Rds AR xs us) (hA : ∀ x u, AR x u → RepU ET w R (a.eval x) u []) : RepUs ET w R (xs.map a.eval) us [] := by
  induction h with
  | nil => exact .nil
  | cons h t ih => exact RepUs.cons (hA _ _ h) ih
/-- A call that only reads what there is. -/
theorem s_callQ_ {AR : Operand → U → Prop} {c : Callee} {args : Array Operand} {tys : Array TypeId} {f : FuncId} {caps : List C} {ins : List U} {outs : List (Option U)} {res : List U} {lend : Bool} (ho : o.op = .call { callee := c, args := args, argTypes := tys }) (hf : FnT P f) (hc : CalleeT K σ c f caps)
    (hA : Rds AR args.toList ins) (hAR : ∀ a w Fs, SimF K σ a w Fs → ∀ x u, AR x u → RepU K.ET w (if lend then lentR K Fs else K.R) (a.eval x) u []) (hac : ACK K P f (ins ++ caps.map .c) outs res) (hm : lend = true → mineUs res)
    (hd : okD K o.dst = true) : Step P K σ o (putR σ o.dst (resT res)) := by
  rintro a w ⟨Fs, hsim⟩
  obtain ⟨vc, hvc, hrun⟩ := run_call (P := P) ho hc hf hsim
  simp only [Oper.wp, hrun, Oper.upon_enter]
  obtain ⟨R', hR'⟩ : ∃ R', (if lend then lentR K Fs else K.R) = R' := ⟨_, rfl⟩
  have hRR : ∀ b, K.R b → R' b := by
    intro b hb
    rw [← hR']
    split
    · exact .inl hb
    · exact hb
  have hRlt : ∀ b, R' b → b < w.heap.size := by
    intro b hb
    rw [← hR'] at hb
    split at hb
    · rcases hb with hb | ⟨j, hb⟩
      · exact Nat.lt_of_lt_of_le (hsim.ro b hb).1 hsim.keeps.size
      · exact (hsim.rep j).lt b hb
    · exact Nat.lt_of_lt_of_le (hsim.ro b hb).1 hsim.keeps.size
  have hins := (hA.reps (fun x u h => by have := hAR a w Fs hsim x u h; rw [hR'] at this; exact this)).app (hvc.frame hRR (fun _ _ => rfl))
  refine (hac R' w _ [] hRR (fun b hb => hsim.keeps.block b (hsim.ro b hb).1 (hsim.ro b hb).2) hins List.nodup_nil (by simp) hRlt).mono ?_
  rintro e w2 ⟨rv, H1, H2, rfl, hO, hRr, hnd, hsub, hk⟩
  have hR2 : RepR K.ET w2 K.R rv res H2 := by
    cases hl : lend with
    | true => exact hRr.mine (hm hl)
    | false => rw [hl, if_neg Bool.false_ne_true] at hR'; rw [hR']; exact hRr
  have hfree : Free K Fs H2 := ⟨(List.nodup_append.mp hnd).2.1, fun b hb => by
    rcases hsub b (List.mem_append_right _ hb) with h | h
    · cases h
    · refine ⟨fun j hj => ?_, fun hR => ?_, .inr (Nat.le_trans hsim.keeps.size h)⟩
      · have := (hsim.rep j).lt b hj; omega
      · have := hRlt b (hRR b hR); omega⟩
  cases hod : o.dst with
  | none =>
    refine ⟨Fs, ?_⟩
    have hall : ∀ b, b < w.heap.size → w2.heap[b]? = w.heap[b]? := fun b hb => hk.block b hb (by simp)
    refine ⟨fun i => (hsim.rep i).turn (fun b hb => hall b (hb.elim ((hsim.rep i).lt b) (fun h => hRlt b (hRR b h)))) (fun s p v q => walk_same hall) (fun ad sv sz lo n v hc _ => (cell_blk (hall _ (cell_lt hc))).trans hc) (fun _ _ => rfl), hsim.nd, hsim.dis, hsim.own, hsim.keeps.trans hk (by simp), hsim.ro, hsim.size, hsim.pin, hsim.defers⟩
  | some d =>
    rw [hod] at hd
    exact ⟨_, hsim.put2 hd hk hfree.2 hfree.1 (hR2.repT.to_put (resT_refs res d))⟩
theorem s_callQ {c : Callee} {args : Array Operand} {tys : Array TypeId} {f : FuncId} {caps : List C} {ins : List U} {outs : List (Option U)} {res : List U} (ho : o.op = .call { callee := c, args := args, argTypes := tys }) (hf : FnT P f) (hc : CalleeT K σ c f caps)
    (hA : Rds (ArgC K σ) args.toList ins) (hac : ACK K P f (ins ++ caps.map .c) outs res) (hd : okD K o.dst = true) : Step P K σ o (putR σ o.dst (resT res)) :=
  s_callQ_ (lend := false) ho hf hc hA (fun _ _ _ hs x u h => by simpa using h.rep hs) hac (by simp) hd
theorem s_callQL {c : Callee} {args : Array Operand} {tys : Array TypeId} {f : FuncId} {caps : List C} {ins : List U} {outs : List (Option U)} {res : List U} (ho : o.op = .call { callee := c, args := args, argTypes := tys }) (hf : FnT P f) (hc : CalleeT K σ c f caps)
    (hA : Rds (ArgL K σ) args.toList ins) (hac : ACK K P f (ins ++ caps.map .c) outs res) (hm : mineUs res) (hd : okD K o.dst = true) : Step P K σ o (putR σ o.dst (resT res)) :=
  s_callQ_ (lend := true) ho hf hc hA (fun _ _ _ hs x u h => by simpa using h.rep hs) hac (fun _ => hm) hd

/-! ### A function's contract -/
theorem RepUs.fs {xs : List Value} {us : List U} {F : List Nat} (h : RepUs ET w R xs us F) (hnd : F.Nodup) : ∃ Fs : Nat → List Nat, (∀ i u, us[i]? = some u → ∃ x, xs[i]? = some x ∧ RepU ET w R x u (Fs i)) ∧ (∀ i, us.length ≤ i → Fs i = []) ∧ (∀ i, (Fs i).Nodup) ∧ (∀ i j b, b ∈ Fs i → b ∈ Fs j → i = j) ∧ (∀ i b, b ∈ Fs i → b ∈ F) := by
  induction us generalizing xs F with
  | nil => cases h; exact ⟨fun _ => [], by simp, fun _ _ => rfl, fun _ => List.nodup_nil, by simp, by simp⟩
  | cons u us ih =>
    cases h with
    | @cons x _ xs _ F1 G h t =>
      obtain ⟨n1, n2, n3⟩ := List.nodup_append.mp hnd
      obtain ⟨Fs, h1, h2, h3, h4, h5⟩ := ih t n2
      refine ⟨fun i => match i with | 0 => F1 | i + 1 => Fs i, ?_, ?_, ?_, ?_, ?_⟩
      · intro i u' hi
        cases i with
        | zero => simp only [List.getElem?_cons_zero, Option.some.injEq] at hi; subst hi; exact ⟨x, rfl, h⟩
        | succ i => simpa using h1 i u' (by simpa using hi)
      · intro i hi
        cases i with
        | zero => simp at hi
        | succ i => exact h2 i (by simpa using hi)
      · intro i; cases i with
        | zero => exact n1
        | succ i => exact h3 i
      · intro i j b hi hj
        cases i with
        | zero => cases j with
          | zero => rfl
          | succ j => exact absurd rfl (n3 b hi b (h5 j b hj))
        | succ i => cases j with
          | zero => exact absurd rfl (n3 b hj b (h5 i b hi))
          | succ j => rw [h4 i j b hi hj]
      · intro i b hb
        cases i with
        | zero => exact List.mem_append_left _ hb
        | succ i => exact List.mem_append_right _ (h5 i b hb)
theorem RepUs.len {xs : List Value} {us : List U} {F : List Nat} (h : RepUs ET w R xs us F) : xs.length = us.length := by
  induction us generalizing xs F with
  | nil => cases h; rfl
  | cons u us ih => cases h with | cons h t => simp [ih t]
theorem mapM_pure_list {α β : Type} (f : α → Sem β) (g : α → β) (h : ∀ x, f x = pure (g x)) (l : List α) : l.mapM f = pure (l.map g) := by
  induction l with
  | nil => rfl
  | cons x l ih => simp only [List.mapM_cons, ih, h, pure_bind, List.map_cons]
theorem results_run {fn : Func} {rts : List Nat} (h : fn.results = (rts.map ResultVar.tmp).toArray) (tmps : Array Value) (w : World) :
    (results fn tmps).run P w = .ok (match rts.map (tmps.getD · undef) with | [v] => v | vs => .tuple vs.toArray) w := by
  unfold results
  rw [h, List.mapM_toArray, List.mapM_map, mapM_pure_list (g := fun t => tmps.getD t undef)]
  · match rts with
    | [] => rfl
    | [t] => rfl
    | t :: u :: l => simp
  · intro x; rfl
theorem RepPs.res {xs : List (Nat × Value)} {us : List (Nat × U)} {F : List Nat} (h : RepPs ET w R xs us F) : RepUs ET w R (xs.map (·.2)) (us.map (·.2)) F := by
  induction us generalizing xs F with
  | nil => cases h; exact .nil
  | cons u us ih => cases h with | cons h _ t => exact .cons h (ih t)
theorem outs_rep {outs : List (Option U)} {vs : List Value} {Fs : Nat → List Nat} {k : Nat} (hl : outs.length = vs.length) (h : ∀ (i : Nat) (u : U), outs[i]? = some (some u) → ∃ v, vs[i]? = some v ∧ RepU ET w R v u (Fs (k + i))) : ∃ H, RepO ET w R vs outs H ∧ ((∀ i, (Fs i).Nodup) → (∀ i j b, b ∈ Fs i → b ∈ Fs j → i = j) → H.Nodup) ∧ ∀ b ∈ H, ∃ j, k ≤ j ∧ b ∈ Fs j := by
  induction outs generalizing vs k with
  | nil => cases vs with
    | nil => exact ⟨[], .nil, fun _ _ => List.nodup_nil, by simp⟩
    | cons _ _ => simp at hl
  | cons u outs ih =>
    cases vs with
    | nil => simp at hl
    | cons v vs =>
      obtain ⟨H, h1, h2, h3⟩ := ih (vs := vs) (k := k + 1) (by simpa using hl) (fun i u hi => by
        have := h (i + 1) u (by simpa using hi)
        rw [show k + (i + 1) = k + 1 + i by omega] at this
        simpa using this)
      cases u with
      | none => exact ⟨H, .skip h1, h2, fun b hb => by obtain ⟨j, h4, h5⟩ := h3 b hb; exact ⟨j, by omega, h5⟩⟩
      | some u =>
        obtain ⟨v', h4, h5⟩ := h 0 u rfl
        simp only [List.getElem?_cons_zero, Option.some.injEq] at h4
        subst h4
        refine ⟨Fs k ++ H, .cons (by simpa using h5) h1, fun n1 n2 => ?_, fun b hb => ?_⟩
        · rw [List.nodup_append]
          refine ⟨n1 k, h2 n1 n2, fun x hx y hy e => ?_⟩
          subst e
          obtain ⟨j, h6, h7⟩ := h3 x hy
          have := n2 k j x hx h7
          omega
        · rcases List.mem_append.mp hb with hb | hb
          · exact ⟨k, Nat.le_refl _, hb⟩
          · obtain ⟨j, h6, h7⟩ := h3 b hb
            exact ⟨j, by omega, h7⟩
theorem act_intro {T : (Nat → Prop) → World → Prop} {f : FuncId} {fn : Func} {c : Code} {ins : List U} {outs : List (Option U)} {res : List U} {rts : List Nat} {n : Nat} {pins : List Nat} (hf : P.funcs[f]? = some fn) (hb : fn.body = some c) (hn : fn.ntmps = n) (hr : fn.results = (rts.map ResultVar.tmp).toArray) (hin : ins.length ≤ n) (hpin : ∀ i, pins.contains i = true → i < ins.length) (hout : outs.length = ins.length)
    (h : ∀ (w : World) (R : Nat → Prop) (E : List Nat) (vs : Nat → Value), T R w → Run P ⟨ET, w, R, E, n, pins, vs⟩ c (initS ins) (retQ ⟨ET, w, R, E, n, pins, vs⟩ rts outs res)) : ACg T P ET f ins outs res := by
  intro R w vs F hT hrep hnd hR hRlt
  obtain ⟨Fs, f1, f2, f3, f4, f5⟩ := hrep.fs hnd
  have hlen := hrep.len
  have htm : ∀ i, i < vs.length → (vs.toArray ++ Array.replicate (fn.ntmps - vs.toArray.size) undef).getD i undef = vs.getD i undef := by
    intro i hi
    simp [Array.getD_eq_getD_getElem?, List.getD_eq_getElem?_getD, Array.getElem?_append, hi]
  refine calls_of_wp hf hb ?_
  have hs : Sim ⟨ET, w, R, F, n, pins, fun i => vs.getD i undef⟩ (initS ins) { tmps := vs.toArray ++ Array.replicate (fn.ntmps - vs.toArray.size) undef, defers := [] } w := by
    refine ⟨Fs, ?_, f3, f4, fun i b hb => ⟨hR b (f5 i b hb), .inl (f5 i b hb)⟩, Keeps.refl w F, fun b hb => ⟨hRlt b hb, fun h => hR b h hb⟩, by simp [hn, hlen]; omega, fun i hi => htm i (by rw [hlen]; exact hpin i hi), rfl⟩
    intro i
    unfold initS
    cases hu : ins[i]? with
    | none =>
      have : ins.length ≤ i := by
        rcases Nat.lt_or_ge i ins.length with h | h
        · rw [List.getElem?_eq_getElem h] at hu; cases hu
        · exact h
      rw [f2 i this]
      exact .junk _
    | some u =>
      obtain ⟨x, hx, hru⟩ := f1 i u hu
      have hi : i < vs.length := by
        rcases Nat.lt_or_ge i vs.length with h | h
        · exact h
        · rw [List.getElem?_eq_none h] at hx; cases hx
      simp only
      rw [htm i hi, List.getD_eq_getElem?_getD, hx]
      exact .u hru
  refine wp_mono (h w R F (fun i => vs.getD i undef) hT _ _ hs) ?_
  rintro e a' w' ⟨σ, ⟨Fs2, hsim⟩, he, σ', us, hsrc, hres, houts⟩
  obtain ⟨G, Fs3, hp, hs3, hG, g1, _⟩ := hsim.takes hsrc
  have hrr := hp.res
  rw [List.map_map] at hrr
  have hvs : (rts.map (fun t => (t, Operand.tmp t))).map ((fun x => x.2) ∘ fun p => (p.1, a'.eval p.2)) = rts.map (a'.tmps.getD · undef) := by
    rw [List.map_map]
    apply List.map_congr_left
    intro t _
    rfl
  rw [hvs, hres] at hrr
  obtain ⟨H, hH1, hH2, hH3⟩ := outs_rep (ET := ET) (w := w') (R := R) (outs := outs) (vs := vs) (Fs := Fs3) (k := 0) (by rw [hout, hlen]) (fun i u hi => by
    obtain ⟨h1, h2⟩ := houts i u hi
    have h3 := hs3.rep i
    rw [h1] at h3
    have h4 := hs3.pin i h2
    have hi2 : i < vs.length := by rw [hlen]; exact hpin i h2
    simp only at h4
    rw [h4] at h3
    refine ⟨vs.getD i undef, by rw [List.getD_eq_getElem?_getD, List.getElem?_eq_getElem hi2]; rfl, ?_⟩
    rw [Nat.zero_add]
    generalize Fs3 i = F3 at h3
    generalize vs.getD i undef = v at h3 ⊢
    cases h3 with | u h => exact h)
  have hfin : ∃ v, (results fn a'.tmps).run P w' = .ok v w' ∧ ∃ rv H1 H2, Ending.returned v = .returned rv ∧ RepO ET w' R vs outs H1 ∧ RepR ET w' R rv res H2 ∧ (H1 ++ H2).Nodup ∧ (∀ b ∈ H1 ++ H2, b ∈ F ∨ w.heap.size ≤ b) ∧ Keeps w F w' := by
    refine ⟨_, results_run hr a'.tmps w', _, H, G, rfl, hH1, ?_, ?_, ?_, hsim.keeps⟩
    · generalize hl : rts.map (a'.tmps.getD · undef) = l at hrr
      have hll := hrr.len
      match l, hrr with
      | [v], hrr =>
        match res, hrr with
        | [u], .cons h .nil => simpa using RepR.one h
      | [], hrr => exact .many (by simp at hll; omega) (by simpa using hrr)
      | v1 :: v2 :: l, hrr => exact .many (by simp at hll; omega) (by simpa using hrr)
    · rw [List.nodup_append]
      refine ⟨hH2 hs3.nd hs3.dis, hG.1, fun x hx y hy e => ?_⟩
      subst e
      obtain ⟨j, _, hj⟩ := hH3 x hx
      exact (hG.2 x hy).1 j hj
    · intro b hb
      rcases List.mem_append.mp hb with hb | hb
      · obtain ⟨j, _, hj⟩ := hH3 b hb
        exact (hs3.own j b hj).2
      · exact (hG.2 b hb).2.2
  rcases he with rfl | rfl
  · exact ⟨hsim.defers, hfin⟩
  · exact ⟨hsim.defers, hfin⟩
theorem ac_intro {f : FuncId} {fn : Func} {c : Code} {ins : List U} {outs : List (Option U)} {res : List U} {rts : List Nat} {n : Nat} {pins : List Nat} (hf : P.funcs[f]? = some fn) (hb : fn.body = some c) (hn : fn.ntmps = n) (hr : fn.results = (rts.map ResultVar.tmp).toArray) (hin : ins.length ≤ n) (hpin : ∀ i, pins.contains i = true → i < ins.length) (hout : outs.length = ins.length)
    (h : ∀ (w : World) (R : Nat → Prop) (E : List Nat) (vs : Nat → Value), Run P ⟨ET, w, R, E, n, pins, vs⟩ c (initS ins) (retQ ⟨ET, w, R, E, n, pins, vs⟩ rts outs res)) : AC P ET f ins outs res :=
  fun R w vs F => act_intro (T := fun _ _ => True) hf hb hn hr hin hpin hout (fun w R E vs _ => h w R E vs) R w vs F trivial
end
end Go.Proofs.Ytfbjhioefkimbaa.V
