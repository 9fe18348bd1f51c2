import Derived.Test.YtmjnenjeckeklaaB2
import Derived.Test.YtmjnenjeckeklaaAreaEach
import Derived.Test.YtmjnenjeckeklaaB3
import Derived.Test.YtmjnenjeckeklaaQx13
set_option linter.unusedVariables false
set_option linter.unusedSimpArgs false
namespace Go.Proofs.Ytmjnenjeckeklaa.FlatP
open Go Go.RowKit Go.Proofs.Ytmjnenjeckeklaa.Q Go.Proofs.YtmjnenjeckeklaaW.PrintWords Go.Proofs.Ytmjnenjeckeklaa.Bits Go.Proofs.Ytmjnenjeckeklaa.AreaLib Go.Proofs.Ytmjnenjeckeklaa.AreaEv Go.Proofs.Ytmjnenjeckeklaa.AreaRef Go.Proofs.Ytmjnenjeckeklaa.AreaFind Go.Proofs.Ytmjnenjeckeklaa.AreaEach
open Go.Proofs.Ytmjnenjeckeklaa.V hiding at_ dn
theorem bd {α : Type} {p : Prop} [Decidable p] {x y : α} (h : p) : (bif decide p then x else y) = x := by rw [decide_eq_true h]; rfl
theorem bn {α : Type} {p : Prop} [Decidable p] {x y : α} (h : ¬ p) : (bif decide p then x else y) = y := by rw [decide_eq_false h]; rfl
theorem bt {α : Type} {b : Bool} {x y : α} (h : b = true) : (bif b then x else y) = x := by rw [h]; rfl
theorem bf {α : Type} {b : Bool} {x y : α} (h : b = false) : (bif b then x else y) = y := by rw [h]; rfl
theorem b2 {α : Type} {p q : Prop} [Decidable p] [Decidable q] {x y : α} (h : p) (k : q) : (bif decide p && decide q then x else y) = x := by rw [decide_eq_true h, decide_eq_true k]; rfl
theorem DG {n : Int} (h0 : -9223372036854775808 ≤ n) (h1 : n ≤ 9223372036854775807) : IntKind.i64.wrap n = n := by
 simp [IntKind.wrap, IntKind.bits, IntKind.signed]; split <;> omega
def vH (w x : Bool) (a : At) : At := (w, x, a.2.2)
def vI (h : Bool) (a : At) : At := (a.1, a.2.1, h)
theorem FU (w x : Bool) : keeps (cT.of w x) (vH w x) := fun _ => ⟨rfl, rfl, rfl⟩
theorem FV (h : Bool) : keeps (cU.of h) (vI h) := fun _ => ⟨rfl, rfl, rfl⟩
theorem tX {α : Type} {l : List aG} {x : Option α} (h : valid l) : (if l.length ≤ 1000000 then x else none) = x := by rw [if_pos (by have := h.2; omega)]
theorem Jc {l : List aG} (a : aG) (h : valid l) : Ev (fun k => AM.f k l a) (if dD a.f0 a.f1 then fin (yQ l a) else ([], some 1)) := by
 have := LX l a (by have := h.2; omega); simp only [AM.f, tX h]; simpa [h] using this
theorem Jd {l : List aG} (f t : Int) (h : valid l) : Ev (fun k => AN.f k l f t) (if dD f t then fin (yR l f t) else ([], some 1)) := by
 have := LY l f t (by have := h.2; omega); simp only [AN.f, tX h]; simpa [h] using this
theorem Bt {l : List aG} (f t : Int) (r : fF) (h : valid l) : Ev (fun k => lW.f k l f t r) (if dD f t then (if fQ (cut f t l) < t - f then ([], some 3) else fin (j6 (cT.of r.f0 r.f1) l f t)) else ([], some 1)) := by
 have := B7 (FU r.f0 r.f1) l f t (by have := h.2; omega); simp only [lW.f, tX h]; simpa [h] using (show Ev (fun k => cT.f k l f t r.f0 r.f1) _ from this)
theorem Bu {l : List aG} (f t : Int) (b : Bool) (h : valid l) : Ev (fun k => lX.f k l f t b) (if dD f t then (if fQ (cut f t l) < t - f then ([], some 3) else fin (j6 (cU.of b) l f t)) else ([], some 1)) := by
 have := B7 (FV b) l f t (by have := h.2; omega); simp only [lX.f, tX h]; simpa [h] using (show Ev (fun k => cU.f k l f t b) _ from this)
def found : Option aG → aG × Option Int
  | some x => (x, none)
  | none => (⟨0, 0, ⟨false, false⟩, false⟩, some 3)
theorem zC {l : List aG} (p : Int) (h : valid l) : Ev (fun k => pI.f k l p) (found (AreaFind.look l p)) := by
 obtain ⟨K, hK⟩ := Je l p (by have := h.2; omega); refine ⟨K, fun k hk => ?_⟩; simp only [pI.f, tX h, hK k hk, if_pos h, Option.map_some]; cases AreaFind.look l p <;> rfl
theorem FX (g : Int → Option At) : ∃ z, canon z ∧ (∀ p, 0 ≤ p → p < 4096 → at_ z p = g p) ∧ Ev (fun k => Fz.f k (fW g)) (z, decide (z.length ≤ 64)) := by
 obtain ⟨z, h1, h2, h3⟩ := FY g; refine ⟨z, h1, h2, ?_⟩; simp only [Fz.f, fo]; exact h3
def lZ (g : Int → Option At) (ψ : At → At) (f t : Int) : Int → Option At := fun q => if f ≤ q ∧ q < t then (g q).map ψ else g q
theorem pO (l : List dL) (i : Int) : l.getD i.toNat cg = rd_T72 l i := rfl
theorem PC (t : Int) (ht : t ≤ 4096) (m : Bool) (h : Bool) (a : fF) (K : Nat) (a0 : List dL) (f0 : Int) (x : List dL) (y : Int) (ψ : At → At) (hψ : ψ = if m = true then vH a.f0 a.f1 else vI h) : ∀ (d : Nat) (i : Int) (g : Int → Option At), 0 ≤ i → i + d = t → (∀ p, i ≤ p → p < t → g p ≠ none) →
    ∀ k, d < k → cC.l2 K a0 f0 t m a h x y k (fW g) i = some (fW (lZ g ψ i t), true) := by
 intro d
 induction d with
 | zero =>
  intro i g hi hd hg k hk; obtain ⟨k, rfl⟩ : ∃ n, k = n + 1 := ⟨k - 1, by omega⟩; rw [cC.l2, bn (by omega), show fW (lZ g ψ i t) = fW g from jD (fun p _ _ => by unfold lZ; rw [if_neg (by omega)])]
 | succ d ih =>
  intro i g hi hd hg k hk; obtain ⟨k, rfl⟩ : ∃ n, k = n + 1 := ⟨k - 1, by omega⟩; have hi4 : i < 4096 := by omega
  obtain ⟨v, hv⟩ : ∃ v, g i = some v := by
   cases hx : g i with
   | none => exact absurd hx (hg i (Int.le_refl _) (by omega))
   | some v => exact ⟨v, rfl⟩
  have h1 := ih (i + 1) (AreaRef.dn g i (some (ψ v))) (by omega) (by omega) (fun p p1 p2 => by unfold AreaRef.dn; rw [if_neg (by omega)]; exact hg p (by omega) p2) k (by omega)
  rw [show fW (lZ (AreaRef.dn g i (some (ψ v))) ψ (i + 1) t) = fW (lZ g ψ i t) from jD (fun p _ _ => by
   unfold lZ AreaRef.dn; by_cases c : p = i
   · subst c; rw [if_neg (by omega), if_pos rfl, if_pos (by omega), hv]; rfl
   · rw [if_neg c]; by_cases c2 : i + 1 ≤ p ∧ p < t
     · rw [if_pos c2, if_pos (by omega)]
     · rw [if_neg c2, if_neg (by omega)])] at h1
  rw [← xB g i _ hi] at h1; have hrd : (fW g).getD i.toNat cg = iw (some v) := by rw [pO, jt g i hi hi4, hv]
  rw [← h1, cC.l2, bd (by omega)]
  cases m with
  | true =>
   rw [bt rfl, b2 hi (by rw [fo]; omega), hrd, b2 hi (by rw [List.length_set, fo]; omega)]; have hs : (fW g).set i.toNat (⟨(iw (some v)).f0, a.f0, (iw (some v)).f2, (iw (some v)).f3⟩ : dL) = fW (AreaRef.dn g i (some (a.f0, v.2.1, v.2.2))) := xB g i (some (a.f0, v.2.1, v.2.2)) hi; rw [hs, pO, jt _ i hi hi4, show AreaRef.dn g i (some (a.f0, v.2.1, v.2.2)) i = some (a.f0, v.2.1, v.2.2) from if_pos rfl, DG (by omega) (by omega), ← hs, List.set_set, hψ, if_pos rfl]; rfl
  | false =>
   rw [bf rfl, b2 hi (by rw [fo]; omega), hrd, DG (by omega) (by omega), hψ, if_neg Bool.false_ne_true]; rfl
theorem KM (f t : Int) (hf : 0 ≤ f) (ht : t ≤ 4096) (m : Bool) (a : fF) (h : Bool) (K : Nat) (hK : 4096 < K) (a0 : List dL) (g : Int → Option At) (ψ : At → At) (hψ : ψ = if m = true then vH a.f0 a.f1 else vI h) : ∀ (d : Nat) (i : Int), f ≤ i → i + d = t → (∀ p, f ≤ p → p < i → g p ≠ none) →
    ∀ k, d < k → ((∀ p, f ≤ p → p < t → g p ≠ none) ∧ cC.l1 K a0 f t m a h k (fW g) i = some (fW (lZ g ψ f t), true)) ∨ ((∃ p, f ≤ p ∧ p < t ∧ g p = none) ∧ cC.l1 K a0 f t m a h k (fW g) i = some (fW g, false)) := by
 intro d
 induction d with
 | zero =>
  intro i hi hd hg k hk; obtain ⟨k, rfl⟩ : ∃ n, k = n + 1 := ⟨k - 1, by omega⟩; have e : i = t := by omega
  subst e; refine .inl ⟨hg, ?_⟩; rw [cC.l1, bn (by omega)]; exact PC i ht m h a K a0 f _ _ ψ hψ (i - f).toNat f g hf (by omega) hg K (by omega)
 | succ d ih =>
  intro i hi hd hg k hk; obtain ⟨k, rfl⟩ : ∃ n, k = n + 1 := ⟨k - 1, by omega⟩; have hi4 : i < 4096 := by omega
  cases hv : g i with
  | none =>
   refine .inr ⟨⟨i, hi, by omega, hv⟩, ?_⟩; rw [cC.l1, bd (by omega), b2 (by omega) (by rw [fo]; omega), pO, jt g i (by omega) hi4, hv]; rfl
  | some v =>
   have e : cC.l1 K a0 f t m a h (k + 1) (fW g) i = cC.l1 K a0 f t m a h k (fW g) (i + 1) := by
    rw [cC.l1, bd (by omega), b2 (by omega) (by rw [fo]; omega), pO, jt g i (by omega) hi4, hv, DG (by omega) (by omega)]; rfl
   rw [e]
   exact ih (i + 1) (by omega) (by omega) (fun p p1 p2 => by
    by_cases c : p = i
    · rw [c, hv]; exact fun e => by cases e
    · exact hg p p1 (by omega)) k (by omega)
theorem KN {f t : Int} (hs : dD f t) (m : Bool) (a : fF) (h : Bool) (g : Int → Option At) (ψ : At → At) (hψ : ψ = if m = true then vH a.f0 a.f1 else vI h) :
    ((∀ p, f ≤ p → p < t → g p ≠ none) ∧ Ev (fun k => cC.f k (fW g) f t m a h) (fW (lZ g ψ f t), true)) ∨ ((∃ p, f ≤ p ∧ p < t ∧ g p = none) ∧ Ev (fun k => cC.f k (fW g) f t m a h) (fW g, false)) := by
 obtain ⟨h0, h1, h2⟩ := hs; by_cases c : ∃ p, f ≤ p ∧ p < t ∧ g p = none
 · refine .inr ⟨c, 4097, fun k hk => ?_⟩; rcases KM f t h0 h2 m a h k (by omega) (fW g) g ψ hψ (t - f).toNat f (Int.le_refl _) (by omega) (fun p p1 p2 => absurd p1 (by omega)) k (by omega) with ⟨h3, _⟩ | ⟨_, h3⟩
   · obtain ⟨p, p1, p2, p3⟩ := c; exact absurd p3 (h3 p p1 p2)
   · exact h3
 · refine .inl ⟨fun p p1 p2 e => c ⟨p, p1, p2, e⟩, 4097, fun k hk => ?_⟩; rcases KM f t h0 h2 m a h k (by omega) (fW g) g ψ hψ (t - f).toNat f (Int.le_refl _) (by omega) (fun p p1 p2 => absurd p1 (by omega)) k (by omega) with ⟨_, h3⟩ | ⟨h3, _⟩
   · exact h3
   · exact absurd h3 c
end Go.Proofs.Ytmjnenjeckeklaa.FlatP
namespace Go.Proofs.Ytmjnenjeckeklaa.FlatP
open Go Go.RowKit Go.Proofs.Ytmjnenjeckeklaa.Q Go.Proofs.YtmjnenjeckeklaaW.PrintWords Go.Proofs.Ytmjnenjeckeklaa.Bits Go.Proofs.Ytmjnenjeckeklaa.AreaLib Go.Proofs.Ytmjnenjeckeklaa.AreaEv Go.Proofs.Ytmjnenjeckeklaa.AreaRef Go.Proofs.Ytmjnenjeckeklaa.AreaFind Go.Proofs.Ytmjnenjeckeklaa.AreaEach
open Go.Proofs.Ytmjnenjeckeklaa.V hiding at_ dn
abbrev Sp := ji aG W8
def GW (W : FW) : Prop := ∀ s ∈ W, valid s.l
theorem jc {W : FW} {n : Int} {s : Sp} (h : dJ W n = some s) : s ∈ W := List.mem_of_find?_eq_some h
theorem set_set {W : FW} {m : Int} {g h : Sp → Sp} (hg : ∀ s, (g s).n = s.n) : iy m h (iy m g W) = iy m (fun s => h (g s)) W := by
 unfold iy; rw [List.map_map]; refine List.map_congr_left fun s _ => ?_; show (if (if s.n = m then g s else s).n = m then h _ else _) = _; by_cases c : s.n = m
 · rw [if_pos c, hg, if_pos c, if_pos c]; show h (if s.n = m then g s else s) = h (g s); rw [if_pos c]
 · rw [if_neg c, if_neg c, if_neg c]
def pe (W : FW) (n p i : Int) : Int × Option Int := (dJ W n).elim (0, some 3) fun s => if 0 ≤ i ∧ i < 8 then (if at_ s.l p = none then (0, some 3) else (cN zw s.ps p i.toNat, none)) else (0, some 1)
theorem rG {W : FW} (hW : GW W) (n p i : Int) : Ev (fun k => ql.f k W n p i) (pe W n p i) := by
 simp only [ql.f, pe]
 cases hs : dJ W n with
 | none => exact Ev.now _
 | some s =>
  simp only [Option.elim]; by_cases h0 : 0 ≤ i ∧ i < 8
  · simp only [bn (show ¬ i < 0 by omega), bn (show ¬ i ≥ 8 by omega), if_pos h0, b2 h0.1 h0.2]; refine Ev.bind (zC p (hW s (jc hs))) ?_; have hl := rU s.l p
    cases hx : AreaFind.look s.l p with
    | none => rw [hx] at hl; rw [if_pos (show at_ s.l p = none from hl)]; exact Ev.now _
    | some x => rw [hx] at hl; rw [if_neg (by rw [hl]; simp)]; exact Ev.now _
  · rw [if_neg h0]; by_cases h1 : i < 0
    · simp only [bd h1]; exact Ev.now _
    · simp only [bn h1, bd (show i ≥ 8 by omega)]; exact Ev.now _
def CR (W : FW) (n p : Int) : aG × Option Int := (dJ W n).elim (⟨0, 0, ⟨false, false⟩, false⟩, some 3) fun s => found (AreaFind.look s.l p)
theorem CS {W : FW} (hW : GW W) (n p : Int) : Ev (fun k => ec.f k W n p) (CR W n p) := by
 simp only [ec.f, CR]
 cases hs : dJ W n with
 | none => exact Ev.now _
 | some s => exact Ev.bind (zC p (hW s (jc hs))) (Ev.now _)
def Nv (W : FW) (n p : Int) : Option Int := (dJ W n).elim (some 3) fun s => (at_ s.l p).elim (some 3) fun a => if a.2.1 = true then none else some 6
theorem Nu {W : FW} (hW : GW W) (n p : Int) : Ev (fun k => V.fX.f k W n p) (Nv W n p) := by
 simp only [V.fX.f]; refine Ev.bind (CS hW n p) ?_; simp only [CR, Nv]
 cases hs : dJ W n with
 | none => exact Ev.now _
 | some s =>
  simp only [Option.elim]; rw [rU s.l p]
  cases hx : AreaFind.look s.l p with
  | none => exact Ev.now _
  | some x =>
   simp only [found, Option.map, attr]; cases x.f2.f1 <;> exact Ev.now _
def sX (W : FW) (n p i v : Int) : FW × Option Int := (dJ W n).elim (W, some 3) fun s => if 0 ≤ i ∧ i < 8 then ((at_ s.l p).elim (W, some 3) fun a => if a.1 = true then (iy n (fun t => { t with ps := nK p (gq (cN zw s.ps p) i.toNat v) t.ps }) W, none) else (W, some 6)) else (W, some 1)
theorem sY {W : FW} (hW : GW W) (n p i v : Int) : Ev (fun k => V.mc.f k W n p i v) (sX W n p i v) := by
 simp only [V.mc.f]; refine Ev.bind (rG hW n p i) ?_; simp only [sX]
 cases hs : dJ W n with
 | none => simp only [pe, hs]; exact Ev.now _
 | some s =>
  simp only [pe, hs, Option.elim]; by_cases h0 : 0 ≤ i ∧ i < 8
  · simp only [if_pos h0, b2 h0.1 h0.2]; have hl := rU s.l p
    cases hx : AreaFind.look s.l p with
    | none => rw [hx] at hl; simp only [Option.map] at hl; simp only [hl]; exact Ev.now _
    | some x =>
     rw [hx] at hl; simp only [Option.map] at hl; simp only [hl]; rw [if_neg (by simp)]; refine Ev.bind (CS hW n p) ?_; simp only [CR, hs, Option.elim, hx, found, attr]; by_cases hb : x.f2.f0 = true
     · simp only [hb, if_true]; exact Ev.now _
     · simp only [Bool.eq_false_iff.mpr hb, Bool.false_eq_true, if_false]; exact Ev.now _
  · simp only [if_neg h0]; exact Ev.now _
def zY (W : FW) (n : Int) (z : List aG × Option Int) (f t : Int) : FW × Option Int := if z.2 = none then (iy n (fun s => { s with l := z.1, ps := s.ps.filter fun p => !kI f t p.1 }) W, none) else (W, z.2)
theorem rX {W : FW} {n : Int} {s : Sp} (hs : dJ W n = some s) (k : Nat) (z : List aG × Option Int) (f t : Int) : lp.f k W n z.1 z.2 f t = some (zY W n z f t) := by
 unfold lp.f zY; rw [hs]
 cases z.2 with
 | none =>
  rw [if_pos rfl]; show some (iy n (fun s => { s with l := z.1 }) (iy n (fun s => { s with ps := s.ps.filter fun p => !kI f t p.1 }) W), none) = _; rw [set_set (g := fun s : Sp => { s with ps := s.ps.filter fun p => !kI f t p.1 }) (fun _ => rfl)]
 | some e => rfl
def j5 (W : FW) (n : Int) (z : List aG → List aG × Option Int) (f t : Int) : FW × Option Int := (dJ W n).elim (W, some 3) fun s => zY W n (z s.l) f t
def LD (f t : Int) (r : fF) (l : List aG) : List aG × Option Int := if dD f t then fin (yQ l ⟨f, t, ⟨r.f0, r.f1⟩, false⟩) else ([], some 1)
def Nz (f t : Int) (l : List aG) : List aG × Option Int := if dD f t then fin (yR l f t) else ([], some 1)
def JI (φ : aG → aG) (f t : Int) (l : List aG) : List aG × Option Int := if dD f t then (if fQ (cut f t l) < t - f then ([], some 3) else fin (j6 φ l f t)) else ([], some 1)
theorem EJ {W : FW} (hW : GW W) (n f t : Int) (r : fF) : Ev (fun k => V.Map.f k W n f t r) (j5 W n (LD f t r) f t) := by
 simp only [V.Map.f, j5]
 cases hs : dJ W n with
 | none => exact Ev.now _
 | some s =>
  simp only [Option.elim]; refine Ev.bind (Jc _ (hW s (jc hs))) ?_; refine Ev.bind (f := fun k r6 => some (r6.1, r6.2)) (Ev.congr (fun k => rX hs k _ f t) (Ev.now _)) (Ev.now _)
theorem G7 {W : FW} (hW : GW W) (n f t : Int) : Ev (fun k => qJ.f k W n f t) (j5 W n (Nz f t) f t) := by
 simp only [qJ.f, j5]
 cases hs : dJ W n with
 | none => exact Ev.now _
 | some s =>
  simp only [Option.elim]; refine Ev.bind (Jd f t (hW s (jc hs))) ?_; refine Ev.bind (f := fun k r6 => some (r6.1, r6.2)) (Ev.congr (fun k => rX hs k _ f t) (Ev.now _)) (Ev.now _)
theorem BQ {W : FW} (hW : GW W) (n f t : Int) (r : fF) : Ev (fun k => lH.f k W n f t r) (j5 W n (JI (cT.of r.f0 r.f1) f t) 0 0) := by
 simp only [lH.f, j5]
 cases hs : dJ W n with
 | none => exact Ev.now _
 | some s =>
  simp only [Option.elim]; refine Ev.bind (Bt f t r (hW s (jc hs))) ?_; refine Ev.bind (f := fun k r6 => some (r6.1, r6.2)) (Ev.congr (fun k => rX hs k _ 0 0) (Ev.now _)) (Ev.now _)
theorem D8 {W : FW} (hW : GW W) (n f t : Int) (h : Bool) : Ev (fun k => oA.f k W n f t h) (j5 W n (JI (cU.of h) f t) 0 0) := by
 simp only [oA.f, j5]
 cases hs : dJ W n with
 | none => exact Ev.now _
 | some s =>
  simp only [Option.elim]; refine Ev.bind (Bu f t h (hW s (jc hs))) ?_; refine Ev.bind (f := fun k r6 => some (r6.1, r6.2)) (Ev.congr (fun k => rX hs k _ 0 0) (Ev.now _)) (Ev.now _)
def Ny (W : FW) (n : Int) : FW × Option Int := (dJ W n).elim (W, some 3) fun _ => (W.filter (fun s => s.n != n), none)
theorem Nx (W : FW) (n : Int) : Ev (fun k => V.End.f k W n) (Ny W n) := by
 simp only [V.End.f, Ny]; cases dJ W n <;> exact Ev.now _
def B0 (W : FW) (n : Int) : FW × Option Int := if 1 ≤ n ∧ n ≤ 255 then (dJ W n).elim (W ++ [⟨n, [], []⟩], none) fun _ => (W, some 4) else (W, some 1)
theorem Hg (W : FW) (n : Int) : Ev (fun k => may.f k W n) (if 1 ≤ n ∧ n ≤ 255 then (dJ W n).elim none fun _ => some 4 else some 1) := by
 simp only [may.f]; by_cases h : 1 ≤ n ∧ n ≤ 255
 · simp only [bn (show ¬ n < 1 by omega), bn (show ¬ n > 255 by omega), if_pos h]; cases dJ W n <;> exact Ev.now _
 · rw [if_neg h]; by_cases h1 : n < 1
   · simp only [bd h1]; exact Ev.now _
   · simp only [bn h1, bd (show n > 255 by omega)]; exact Ev.now _
theorem B1 (W : FW) (n : Int) : Ev (fun k => V.Make.f k W n) (B0 W n) := by
 simp only [V.Make.f]; refine Ev.bind (Hg W n) ?_; simp only [B0]; by_cases h : 1 ≤ n ∧ n ≤ 255
 · simp only [if_pos h]; cases hs : dJ W n <;> exact Ev.now _
 · simp only [if_neg h]; exact Ev.now _
def B3 (W : FW) (n c : Int) : FW × Option Int := if 1 ≤ c ∧ c ≤ 255 then (dJ W n).elim (W, some 3) fun s => (dJ W c).elim (W ++ [⟨c, s.l, s.ps⟩], none) fun _ => (W, some 4) else (W, some 1)
theorem Ae {l : List aG} (h : valid l) : Ev (fun k => kG.f k l) l := by
 have h2 := h.2; refine Ev.congr (f := fun _ => some l) (fun k => ?_) (Ev.now _); unfold kG.f; rw [bd (by simp only [List.length_nil, Nat.zero_add]; omega)]; rfl
theorem B4 {W : FW} (hW : GW W) (n c : Int) : Ev (fun k => uB.f k W n c) (B3 W n c) := by
 simp only [uB.f, B3]; by_cases h : 1 ≤ c ∧ c ≤ 255
 · simp only [bn (show ¬ c < 1 by omega), bn (show ¬ c > 255 by omega), if_pos h]
   cases hs : dJ W n with
   | none => exact Ev.now _
   | some s =>
    simp only [Option.elim]; refine Ev.bind (Hg W c) ?_; simp only [if_pos h]
    cases hc : dJ W c with
    | none =>
     simp only [Option.elim]; show Ev (fun k => (copied.t k s).bind _) _; refine Ev.bind (g := fun k => copied.t k s) (a := (s.l, s.ps)) ?_ (Ev.now _); unfold copied.t; exact Ev.bind (Ae (hW s (jc hs))) (Ev.now _)
    | some _ => exact Ev.now _
 · rw [if_neg h]; by_cases h1 : c < 1
   · simp only [bd h1]; cases dJ W n <;> exact Ev.now _
   · simp only [bn h1, bd (show c > 255 by omega)]; cases dJ W n <;> exact Ev.now _
def qF (W : FW) (n : Int) : List aG × Option Int := (dJ W n).elim ([], some 3) fun s => (s.l, none)
theorem Aa {W : FW} (hW : GW W) (n : Int) : Ev (fun k => pZ.f k W n) (qF W n) := by
 simp only [pZ.f, qF]
 cases hs : dJ W n with
 | none => exact Ev.now _
 | some s => exact Ev.bind (Ae (hW s (jc hs))) (Ev.now _)
theorem LC : Ev (fun k => HE.f k) ([] : FW) := Ev.now _
end Go.Proofs.Ytmjnenjeckeklaa.FlatP
namespace Go.Proofs.Ytmjnenjeckeklaa.FlatP
open Go Go.RowKit Go.Proofs.Ytmjnenjeckeklaa.Q Go.Proofs.YtmjnenjeckeklaaW.PrintWords Go.Proofs.Ytmjnenjeckeklaa.Bits Go.Proofs.Ytmjnenjeckeklaa.AreaLib Go.Proofs.Ytmjnenjeckeklaa.AreaEv Go.Proofs.Ytmjnenjeckeklaa.AreaRef Go.Proofs.Ytmjnenjeckeklaa.AreaFind Go.Proofs.Ytmjnenjeckeklaa.AreaEach
open Go.Proofs.Ytmjnenjeckeklaa.V hiding at_ dn
attribute [local irreducible] fW
theorem b3 {α : Type} {b c : Bool} {x y : α} (h : b = true) (k : c = true) : (bif b && c then x else y) = x := by rw [h, k]; rfl
abbrev En := Sp × List W8
def enc (e : En) : Ms := ⟨e.1.n, fW (at_ e.1.l), e.2⟩
abbrev wE (E : List En) : FW := E.map Prod.fst
abbrev mE (E : List En) : List Ms := E.map enc
structure Ge (e : En) : Prop where
  v : valid e.1.l
  w : e.2.length = 4096
  s : ∀ p i : Nat, p < 4096 → i < 8 → (e.2.getD p zw) i = cN zw e.1.ps (p : Int) i
  r : 1 ≤ e.1.n ∧ e.1.n ≤ 255
structure St (E : List En) : Prop where
  nd : (E.map fun e => e.1.n).Nodup
  g : ∀ e ∈ E, Ge e
theorem St.gw {E : List En} (h : St E) : GW (wE E) := by
 intro s hs; obtain ⟨e, he, rfl⟩ := List.mem_map.mp hs; exact (h.g e he).v
theorem get_none : ∀ {E : List En} {n : Int}, (∀ e ∈ E, e.1.n ≠ n) → dJ (wE E) n = none := by
 intro E n h; refine List.find?_eq_none.mpr fun s hs => ?_; obtain ⟨e, he, rfl⟩ := List.mem_map.mp hs; simpa using h e he
theorem iV {A B : List En} {e : En} (h : ∀ x ∈ A, x.1.n ≠ e.1.n) : dJ (wE (A ++ e :: B)) e.1.n = some e.1 := by
 unfold dJ wE; rw [List.map_append, List.map_cons, List.find?_append, show List.find? (fun s : Sp => s.n == e.1.n) (A.map Prod.fst) = none from get_none h]; rw [Option.none_or]; exact List.find?_cons_of_pos (beq_self_eq_true e.1.n)
theorem split {E : List En} (h : St E) (n : Int) : (∀ e ∈ E, e.1.n ≠ n) ∨ ∃ A e B, E = A ++ e :: B ∧ e.1.n = n ∧ (∀ x ∈ A, x.1.n ≠ e.1.n) ∧ (∀ x ∈ B, x.1.n ≠ e.1.n) := by
 by_cases c : ∃ e ∈ E, e.1.n = n
 · obtain ⟨e, he, hn⟩ := c; obtain ⟨A, B, rfl⟩ := List.append_of_mem he; have nd := h.nd; rw [List.map_append, List.map_cons, List.nodup_append] at nd; obtain ⟨_, h2, h3⟩ := nd; rw [List.nodup_cons] at h2; refine .inr ⟨A, e, B, rfl, hn, fun x hx => h3 _ (List.mem_map_of_mem hx) _ (List.mem_cons_self ..), fun x hx e2 => h2.1 ?_⟩; rw [← e2]; exact List.mem_map_of_mem (f := fun e : En => e.1.n) hx
 · exact .inl fun e he hn => c ⟨e, he, hn⟩
theorem St.app {E : List En} (h : St E) {e : En} (he : Ge e) (hn : ∀ x ∈ E, x.1.n ≠ e.1.n) : St (E ++ [e]) where
  nd := by
   rw [List.map_append, List.nodup_append]; refine ⟨h.nd, by simp, fun a ha b hb => ?_⟩; obtain ⟨x, hx, rfl⟩ := List.mem_map.mp ha; obtain ⟨y, hy, rfl⟩ := List.mem_map.mp hb; rw [List.mem_singleton.mp hy]; exact hn x hx
  g := fun x hx => (List.mem_append.mp hx).elim (h.g x) fun hx => by rw [List.mem_singleton.mp hx]; exact he
theorem St.put {A B : List En} {e e' : En} (h : St (A ++ e :: B)) (he : Ge e') (hn : e'.1.n = e.1.n) : St (A ++ e' :: B) where
  nd := by
   have := h.nd; rw [List.map_append, List.map_cons] at this ⊢; rw [hn]; exact this
  g := fun x hx => by
    rcases List.mem_append.mp hx with hx | hx
    · exact h.g x (List.mem_append.mpr (.inl hx))
    · rcases List.mem_cons.mp hx with rfl | hx
      · exact he
      · exact h.g x (List.mem_append.mpr (.inr (List.mem_cons_of_mem _ hx)))
theorem St.cut {A B : List En} {e : En} (h : St (A ++ e :: B)) : St (A ++ B) where
  nd := by
   have := h.nd; rw [List.map_append, List.map_cons, List.nodup_append] at this; rw [List.map_append, List.nodup_append]; exact ⟨this.1, (List.nodup_cons.mp this.2.1).2, fun a ha b hb => this.2.2 a ha b (List.mem_cons_of_mem _ hb)⟩
  g := fun x hx => h.g x ((List.mem_append.mp hx).elim (fun hx => List.mem_append.mpr (.inl hx)) fun hx => List.mem_append.mpr (.inr (List.mem_cons_of_mem _ hx)))
theorem xX {A B : List En} {e : En} {g : Sp → Sp} {w : List W8} (hA : ∀ x ∈ A, x.1.n ≠ e.1.n) (hB : ∀ x ∈ B, x.1.n ≠ e.1.n) : iy e.1.n g (wE (A ++ e :: B)) = wE (A ++ (g e.1, w) :: B) := by
 unfold iy wE; rw [List.map_map, List.map_append, List.map_cons, List.map_append, List.map_cons]; congr 1
 · exact List.map_congr_left fun x hx => if_neg (hA x hx)
 · rw [List.cons.injEq]; exact ⟨if_pos rfl, List.map_congr_left fun x hx => if_neg (hB x hx)⟩
theorem eR (A B : List En) (e : En) : mE (A ++ e :: B) = mE A ++ enc e :: mE B := by unfold mE; rw [List.map_append, List.map_cons]
theorem G9 (E : List En) (e : En) : wE (E ++ [e]) = wE E ++ [e.1] := List.map_append
theorem He (E : List En) (e : En) : mE (E ++ [e]) = mE E ++ [enc e] := List.map_append
theorem getM (A B : List Ms) (x : Ms) : (A ++ x :: B).getD ((A.length : Int)).toNat bI = x := by simp
theorem M4 (A B : List Ms) (x y : Ms) : (A ++ x :: B).set ((A.length : Int)).toNat y = A ++ y :: B := by simp
theorem GM (A B : List Ms) (x : Ms) : (decide (0 ≤ (A.length : Int)) && decide ((A.length : Int) < ((A ++ x :: B).length : Int))) = true := by
 rw [decide_eq_true (by omega), decide_eq_true (by simp only [List.length_append, List.length_cons]; omega)]; rfl
theorem Ad (T : List Ms) (n r : Int) (K : Nat) (M : List Ms) (hM : M.length ≤ 1000) : ∀ (suf pre : List Ms), M = pre ++ (suf ++ T) → (∀ x ∈ suf, x.n ≠ n) →
    (∀ k, dU.l1 K M n (k + 1) ((pre.length + suf.length : Nat) : Int) = some r) → ∀ k, suf.length < k → dU.l1 K M n k (pre.length : Int) = some r := by
 intro suf
 induction suf with
 | nil =>
  intro pre e h1 h2 k hk; obtain ⟨k, rfl⟩ : ∃ m, k = m + 1 := ⟨k - 1, by simp at hk; omega⟩; exact h2 k
 | cons x suf ih =>
  intro pre e h1 h2 k hk; obtain ⟨k, rfl⟩ : ∃ m, k = m + 1 := ⟨k - 1, by simp at hk; omega⟩; have hl : M.length = pre.length + (suf.length + 1 + T.length) := by rw [e]; simp; omega
  have hx : M.getD ((pre.length : Int)).toNat bI = x := by rw [e]; exact getM pre (suf ++ T) x
  have h3 := ih (pre ++ [x]) (by rw [e]; simp) (fun y hy => h1 y (List.mem_cons_of_mem _ hy)) (fun k => by
   rw [show (pre ++ [x]).length + suf.length = pre.length + (x :: suf).length by simp; omega]; exact h2 k) k (by simp at hk; omega)
  rw [dU.l1, bd (by omega), b2 (by omega) (by omega), hx, bf (by simpa using h1 x (List.mem_cons_self ..)), DG (by omega) (by omega)]; rw [← h3, List.length_append, List.length_singleton]; congr 1
theorem ia {E : List En} (hl : E.length ≤ 1000) {n : Int} (h : ∀ e ∈ E, e.1.n ≠ n) : Ev (fun k => dU.f k (mE E) n) (-1) := by
 refine ⟨1001, fun k hk => ?_⟩; have hm : (mE E).length = E.length := List.length_map ..; refine Ad [] n (-1) k (mE E) (by omega) (mE E) [] (by simp) (fun x hx => ?_) (fun k' => ?_) k (by omega)
 · obtain ⟨e, he, rfl⟩ := List.mem_map.mp hx; exact h e he
 · rw [dU.l1, bn (by simp)]
theorem ig {A B : List En} {e : En} (hl : (A ++ e :: B).length ≤ 1000) (h : ∀ x ∈ A, x.1.n ≠ e.1.n) : Ev (fun k => dU.f k (mE A ++ enc e :: mE B) e.1.n) ((mE A).length : Int) := by
 have hm : (mE A).length = A.length := List.length_map ..; have hm2 : (mE B).length = B.length := List.length_map ..; rw [List.length_append, List.length_cons] at hl; refine ⟨1001, fun k hk => ?_⟩; refine Ad (enc e :: mE B) e.1.n ((mE A).length : Int) k (mE A ++ enc e :: mE B) (by rw [List.length_append, List.length_cons]; omega) (mE A) [] rfl (fun x hx => ?_) (fun k' => ?_) k (by omega)
 · obtain ⟨y, hy, rfl⟩ := List.mem_map.mp hx; exact h y hy
 · rw [dU.l1, List.length_nil, Nat.zero_add, bd (by rw [List.length_append, List.length_cons]; omega), bt (GM _ _ _), getM, bt (by simp [enc])]
def DW (c : Option Int) : Prop := c = none ∨ ∃ v, c = some v ∧ 1 ≤ v ∧ v ≤ 8
theorem gP {c : Option Int} (h : DW c) : Ev (fun k => Code.f k c) (c.getD 0) := by
 rcases h with rfl | ⟨v, rfl, h1, h2⟩
 · exact Ev.now _
 · have go : ∀ (d : Nat) (i : Int), 1 ≤ i → i + d = v → ∀ K k, d < k → Code.l1 K (some v) k i = some v := by
    intro d
    induction d with
    | zero =>
     intro i h3 h4 K k hk; obtain ⟨k, rfl⟩ : ∃ m, k = m + 1 := ⟨k - 1, by omega⟩; rw [Code.l1, bd (by omega), bt (by simp; omega), show i = v by omega]
    | succ d ih =>
     intro i h3 h4 K k hk; obtain ⟨k, rfl⟩ : ∃ m, k = m + 1 := ⟨k - 1, by omega⟩; rw [Code.l1, bd (by omega), bf (by simp; omega), DG (by omega) (by omega)]; exact ih (i + 1) (by omega) (by omega) K k (by omega)
   refine ⟨9, fun k hk => ?_⟩; exact go (v - 1).toNat 1 (by omega) (by omega) k k (by omega)
theorem JT (c : Option Int) : ((c.getD 0) == (c.getD 0)) = true := by simp
theorem Hf (n : Int) (hn : 1 ≤ n ∧ n ≤ 255) : Ge ((⟨n, [], []⟩ : Sp), List.replicate 4096 zw) where
  r := hn
  v := ⟨⟨show (0 : Int) ≤ 4096 by omega, trivial⟩, by simp⟩
  w := List.length_replicate ..
  s := fun p i hp hi => by
    rw [List.getD_eq_getElem?_getD, List.getElem?_replicate]
    rw [if_pos hp]
    rfl
theorem D6 {E : List En} (h : St E) (hl : E.length ≤ 1000) (n : Int) : ∃ E' c, St E' ∧ E'.length ≤ E.length + 1 ∧ DW c ∧ Ev (fun k => V.Make.f k (wE E) n) (wE E', c) ∧ Ev (fun k => o7.f k (mE E) n) (mE E', c.getD 0) := by
 have hm : (mE E).length = E.length := List.length_map ..; have hw := B1 (wE E) n; unfold B0 at hw; by_cases c : 1 ≤ n ∧ n ≤ 255
 · rw [if_pos c] at hw
   have hM : ∀ r, Ev (fun k => (dU.f k (mE E) n).bind fun (r3 : Int) => (bif decide (r3 ≥ 0) then some (mE E, 4) else some (mE E ++ [enc ((⟨n, [], []⟩ : Sp), List.replicate 4096 zw)], 0))) r → Ev (fun k => o7.f k (mE E) n) r := by
    intro r hr; refine Ev.congr (fun k => ?_) hr; unfold o7.f; rw [bn (by omega), bn (by omega)]; refine congrArg _ (funext fun r3 => ?_); by_cases h3 : r3 ≥ 0
    · rw [bd h3, bd h3]
    · rw [bn h3, bn h3, b2 (by omega) (by omega), b2 (by omega) (by omega), bd (by omega)]; unfold enc; rw [show fW (at_ (⟨n, [], []⟩ : Sp).l) = List.replicate 4096 NX from AreaRef.blank.symm]; rfl
   rcases split h n with hn | ⟨A, e, B, rfl, rfl, hA, hB⟩
   · rw [get_none hn] at hw; refine ⟨E ++ [((⟨n, [], []⟩ : Sp), List.replicate 4096 zw)], none, h.app (Hf n c) hn, by rw [List.length_append]; exact Nat.le_refl _, .inl rfl, ?_, hM _ (Ev.bind (ia hl hn) ?_)⟩
     · rw [G9]; exact hw
     · rw [He]; exact Ev.now _
   · rw [iV hA] at hw; refine ⟨_, some 4, h, by omega, .inr ⟨4, rfl, by omega, by omega⟩, hw, hM _ (Ev.bind (by rw [eR]; exact ig hl hA) ?_)⟩; simp only [bd (show ((mE A).length : Int) ≥ 0 by omega)]; exact Ev.now _
 · rw [if_neg c] at hw; refine ⟨E, some 1, h, by omega, .inr ⟨1, rfl, by omega, by omega⟩, hw, Ev.congr (f := fun _ => some (mE E, 1)) (fun k => ?_) (Ev.now _)⟩; unfold o7.f; by_cases c1 : n < 1
   · rw [bd c1]
   · rw [bn c1, bd (by omega)]
theorem JU (x : Ms) (h1 : x.p.length ≤ 1000000) (h2 : x.w.length ≤ 1000000) (k : Nat) (d : Int) : pQ.f k x d = some ⟨d, x.p, x.w⟩ := by
 unfold pQ.f; rw [bd h1, bd h2]
theorem copy_eq {e : En} (he : Ge e) (k : Nat) (d : Int) : pQ.f k (enc e) d = some (enc ((⟨d, e.1.l, e.1.ps⟩ : Sp), e.2)) :=
  JU (enc e) (Nat.le_trans (Nat.le_of_eq (fo (at_ e.1.l))) (by omega)) (Nat.le_trans (Nat.le_of_eq he.w) (by omega)) k d
theorem D7 {E : List En} (h : St E) (hl : E.length ≤ 1000) (n d : Int) : ∃ E' c, St E' ∧ E'.length ≤ E.length + 1 ∧ DW c ∧ Ev (fun k => V.uB.f k (wE E) n d) (wE E', c) ∧ Ev (fun k => o8.f k (mE E) n d) (mE E', c.getD 0) := by
 have hm : (mE E).length = E.length := List.length_map ..; have hw := B4 h.gw n d; unfold B3 at hw; by_cases c : 1 ≤ d ∧ d ≤ 255
 · rw [if_pos c] at hw
   have hM : ∀ r, Ev (fun k => (dU.f k (mE E) n).bind fun (r3 : Int) => (bif decide (r3 < 0) then some (mE E, 3) else (dU.f k (mE E) d).bind fun (r4 : Int) => (bif decide (r4 ≥ 0) then some (mE E, 4) else (bif decide (0 ≤ r3) && decide (r3 < ((mE E).length : Int)) then (pQ.f k ((mE E).getD (r3).toNat bI) d).bind fun (r7 : Ms) => (bif decide ((mE E).length ≤ 100000) then some (((mE E) ++ [r7]), 0) else none) else none)))) r → Ev (fun k => o8.f k (mE E) n d) r := by
    intro r hr; refine Ev.congr (fun k => ?_) hr; unfold o8.f; rw [bn (by omega), bn (by omega)]
   rcases split h n with hn | ⟨A, e, B, rfl, rfl, hA, hB⟩
   · rw [get_none hn] at hw; exact ⟨E, some 3, h, by omega, .inr ⟨3, rfl, by omega, by omega⟩, hw, hM _ (Ev.bind (ia hl hn) (Ev.now _))⟩
   · rw [iV hA] at hw; simp only [Option.elim] at hw; have he := h.g e (by simp); have f1 : Ev (fun k => dU.f k (mE (A ++ e :: B)) e.1.n) ((mE A).length : Int) := by rw [eR]; exact ig hl hA
     rcases split h d with hd | ⟨A2, e2, B2, VK, rfl, Wu, hB2⟩
     · rw [get_none hd] at hw; refine ⟨(A ++ e :: B) ++ [((⟨d, e.1.l, e.1.ps⟩ : Sp), e.2)], none, h.app ⟨he.v, he.w, he.s, c⟩ hd, by rw [List.length_append]; exact Nat.le_refl _, .inl rfl, ?_, hM _ (Ev.bind f1 ?_)⟩
       · rw [G9]; exact hw
       · simp only [bn (show ¬ ((mE A).length : Int) < 0 by omega)]; refine Ev.bind (ia hl hd) ?_; simp only [bn (show ¬ (-1 : Int) ≥ 0 by omega)]; refine Ev.congr (f := fun _ => some (mE ((A ++ e :: B) ++ [((⟨d, e.1.l, e.1.ps⟩ : Sp), e.2)]), 0)) (fun k => ?_) (Ev.now _); rw [b2 (p := (0 : Int) ≤ ((mE A).length : Int)) (by omega) (by rw [eR, List.length_append, List.length_cons]; omega), eR, getM]; rw [copy_eq he, Option.bind_some, bd (by rw [← eR, hm]; omega), He, eR]
     · have hg : dJ (wE (A ++ e :: B)) e2.1.n = some e2.1 := by rw [VK]; exact iV Wu
       rw [hg] at hw; refine ⟨_, some 4, h, by omega, .inr ⟨4, rfl, by omega, by omega⟩, hw, hM _ (Ev.bind f1 ?_)⟩; simp only [bn (show ¬ ((mE A).length : Int) < 0 by omega)]; refine Ev.bind (a := ((mE A2).length : Int)) (by rw [VK, eR]; exact ig (by rw [← VK]; exact hl) Wu) ?_; simp only [bd (show ((mE A2).length : Int) ≥ 0 by omega)]; exact Ev.now _
 · rw [if_neg c] at hw; refine ⟨E, some 1, h, by omega, .inr ⟨1, rfl, by omega, by omega⟩, hw, Ev.congr (f := fun _ => some (mE E, 1)) (fun k => ?_) (Ev.now _)⟩; unfold o8.f; by_cases c1 : d < 1
   · rw [bd c1]
   · rw [bn c1, bd (by omega)]
theorem G8 {E : List En} (h : St E) (hl : E.length ≤ 1000) (n : Int) : ∃ E' c, St E' ∧ E'.length ≤ E.length + 1 ∧ DW c ∧ Ev (fun k => V.End.f k (wE E) n) (wE E', c) ∧ Ev (fun k => C3.f k (mE E) n) (mE E', c.getD 0) := by
 have hw := Nx (wE E) n; unfold Ny at hw; rcases split h n with hn | ⟨A, e, B, rfl, rfl, hA, hB⟩
 · rw [get_none hn] at hw; exact ⟨E, some 3, h, by omega, .inr ⟨3, rfl, by omega, by omega⟩, hw, Ev.bind (ia hl hn) (Ev.now _)⟩
 · rw [iV hA] at hw
   have hf : (wE (A ++ e :: B)).filter (fun s => s.n != e.1.n) = wE (A ++ B) := by
    rw [wE, wE, List.map_append, List.map_cons, List.filter_append, List.filter_cons_of_neg (by simp), List.map_append]; congr 1
    · refine List.filter_eq_self.mpr fun s hs => ?_; obtain ⟨x, hx, rfl⟩ := List.mem_map.mp hs; simpa using hA x hx
    · refine List.filter_eq_self.mpr fun s hs => ?_; obtain ⟨x, hx, rfl⟩ := List.mem_map.mp hs; simpa using hB x hx
   simp only [Option.elim] at hw; rw [hf] at hw; refine ⟨A ++ B, none, h.cut, by simp only [List.length_append, List.length_cons]; omega, .inl rfl, hw, ?_⟩; have hma : (mE A).length = A.length := List.length_map ..; have hmb : (mE B).length = B.length := List.length_map ..; rw [List.length_append, List.length_cons] at hl; have hlen : (mE A ++ enc e :: mE B).length = A.length + (B.length + 1) := by rw [List.length_append, List.length_cons, hma, hmb]
   rw [eR]; refine Ev.bind (ig (by rw [List.length_append, List.length_cons]; omega) hA) (Ev.congr (f := fun _ => some (mE (A ++ B), 0)) (fun k => ?_) (Ev.now _)); rw [DG (by omega) (by omega), show ((mE A).length : Int).toNat = (mE A).length by omega, show (((mE A).length : Int) + 1).toNat = (mE A).length + 1 by omega]; rw [bn (by omega), b2 (by omega) (by omega), bd (by omega), b2 (by omega) (by omega), bd (by omega), bd (by omega), show mE (A ++ B) = mE A ++ mE B from List.map_append]; congr 2; congr 1
   · rw [Nat.sub_zero, Nat.zero_add, List.drop_zero, List.take_left' rfl]
   · rw [Nat.zero_add, show mE A ++ enc e :: mE B = (mE A ++ [enc e]) ++ mE B by simp, List.drop_left' (by simp)]; refine List.take_of_length_le ?_; rw [List.length_append, List.length_append, List.length_singleton]; omega
end Go.Proofs.Ytmjnenjeckeklaa.FlatP
namespace Go.Proofs.Ytmjnenjeckeklaa.FlatP
open Go Go.RowKit Go.Proofs.Ytmjnenjeckeklaa.Q Go.Proofs.YtmjnenjeckeklaaW.PrintWords Go.Proofs.Ytmjnenjeckeklaa.Bits Go.Proofs.Ytmjnenjeckeklaa.AreaLib Go.Proofs.Ytmjnenjeckeklaa.AreaEv Go.Proofs.Ytmjnenjeckeklaa.AreaRef Go.Proofs.Ytmjnenjeckeklaa.AreaFind Go.Proofs.Ytmjnenjeckeklaa.AreaEach
open Go.Proofs.Ytmjnenjeckeklaa.V hiding at_ dn
attribute [local irreducible] fW
theorem pW (q f t : Int) : ∀ ps : List (Int × W8), cN zw (ps.filter fun p => !kI f t p.1) q = if f ≤ q ∧ q < t then zw else cN zw ps q
  | [] => by simp [cN]
  | p :: ps => by
    have ih := pW q f t ps
    by_cases c : f ≤ p.1 ∧ p.1 < t
    · rw [List.filter_cons_of_neg (by simp [kI, c.1, c.2]), ih]
      by_cases d : p.1 = q
      · rw [if_pos (by omega), if_pos (by omega)]
      · rw [show cN zw (p :: ps) q = cN zw ps q by unfold cN; rw [List.find?_cons_of_neg (by simpa using d)]]
    · rw [List.filter_cons_of_pos (by simp only [kI, Bool.not_eq_true', Bool.and_eq_false_iff, decide_eq_false_iff_not]; omega)]
      by_cases d : p.1 = q
      · unfold cN
        rw [List.find?_cons_of_pos (by simpa using d), List.find?_cons_of_pos (by simpa using d), if_neg (by omega)]
      · rw [show ∀ l, cN zw (p :: l) q = cN zw l q from fun l => by unfold cN; rw [List.find?_cons_of_neg (by simpa using d)], ih]
        rw [show cN zw (p :: ps) q = cN zw ps q by unfold cN; rw [List.find?_cons_of_neg (by simpa using d)]]
theorem filter_all (ps : List (Int × W8)) : (ps.filter fun p => !kI 0 0 p.1) = ps := by
 refine List.filter_eq_self.mpr fun p _ => ?_; simp only [kI, Bool.not_eq_true', Bool.and_eq_false_iff, decide_eq_false_iff_not]; omega
theorem jQ (p : Int × W8) (ps : List (Int × W8)) (q : Int) : cN zw (p :: ps) q = if p.1 = q then p.2 else cN zw ps q := by
 unfold cN; by_cases c : p.1 = q
 · rw [if_pos c, List.find?_cons_of_pos (by simpa using c)]; rfl
 · rw [if_neg c, List.find?_cons_of_neg (by simpa using c)]
theorem BM (n : Int) (b : W8) (ps : List (Int × W8)) (q : Int) : cN zw (nK n b ps) q = if q = n then b else cN zw ps q := by
 have hm : ∀ ps : List (Int × W8), cN zw (ps.map fun p => if p.1 = n then (n, b) else p) q = if q = n ∧ ps.any (fun p => p.1 == n) = true then b else cN zw ps q := by
  intro ps
  induction ps with
  | nil => simp [cN]
  | cons p ps ih =>
   rw [List.map_cons, jQ, jQ, ih, List.any_cons]; by_cases c : p.1 = n
   · rw [if_pos c]; by_cases d : q = n
     · rw [if_pos d.symm, if_pos ⟨d, by simp [c]⟩]
     · rw [if_neg (fun e => d e.symm), if_neg (fun e => d e.1), if_neg (fun e => d e.1), if_neg (fun e => d (by omega))]
   · rw [if_neg c]; by_cases d : p.1 = q
     · rw [if_pos d, if_pos d, if_neg (fun e => c (by omega))]
     · rw [if_neg d, if_neg d, show (p.1 == n) = false by simpa using c, Bool.false_or]
 have ha : ∀ ps : List (Int × W8), ps.any (fun p => p.1 == n) = false → cN zw (ps ++ [(n, b)]) q = if q = n then b else cN zw ps q := by
  intro ps
  induction ps with
  | nil =>
   intro _; rw [List.nil_append, jQ]; by_cases d : q = n
   · rw [if_pos d.symm, if_pos d]
   · rw [if_neg (fun e => d e.symm), if_neg d]
  | cons p ps ih =>
   intro h; rw [List.any_cons, Bool.or_eq_false_iff] at h; have h1 : ¬ p.1 = n := by simpa using h.1
   rw [List.cons_append, jQ, jQ, ih h.2]; by_cases d : q = n
   · rw [if_pos d, if_pos d, if_neg (by omega)]
   · rw [if_neg d, if_neg d]
 unfold nK; by_cases c : ps.any (fun p => p.1 == n) = true
 · rw [if_pos c, hm]; simp [c]
 · rw [if_neg c, ha ps (Bool.eq_false_iff.mpr c)]
def zr : List W8 → Int → Nat → List W8
  | w, _, 0 => w
  | w, i, d + 1 => zr (w.set i.toNat zw) (i + 1) d
theorem GK : ∀ (d : Nat) (w : List W8) (i : Int), (zr w i d).length = w.length
  | 0, _, _ => rfl
  | d + 1, w, i => by rw [zr, GK d, List.length_set]
theorem zW (w : List W8) (i p : Nat) (v : W8) (hp : p < w.length) : (w.set i v).getD p zw = if i = p then v else w.getD p zw := by
 rw [List.getD_eq_getElem?_getD, List.getD_eq_getElem?_getD, List.getElem?_set]; by_cases c : i = p
 · rw [if_pos c, if_pos (by omega), if_pos c]; rfl
 · rw [if_neg c, if_neg c]
theorem GL : ∀ (d : Nat) (w : List W8) (i : Int) (p : Nat), 0 ≤ i → p < w.length → (zr w i d).getD p zw = if i ≤ (p : Int) ∧ (p : Int) < i + d then zw else w.getD p zw
  | 0, w, i, p, _, _ => by rw [zr, if_neg (by omega)]
  | d + 1, w, i, p, h0, hp => by
    rw [zr, GL d _ _ _ (by omega) (by rw [List.length_set]; exact hp), zW _ _ _ _ hp]
    by_cases c : i ≤ (p : Int) ∧ (p : Int) < i + (d + 1 : Nat)
    · rw [if_pos c]
      by_cases c2 : i.toNat = p
      · rw [if_pos c2]; split <;> rfl
      · rw [if_pos (by omega)]
    · rw [if_neg c, if_neg (by omega), if_neg (by omega)]
theorem CN {A B : List Ms} {x : Ms} {z : List aG} (hz : canon z) : Ev (fun k => fits.f k (A ++ x :: B) (A.length : Int) (fW (at_ z))) (if z.length ≤ 64 then (A ++ { x with p := fW (at_ z) } :: B, 0) else (A ++ x :: B, 5)) := by
 obtain ⟨y, h1, h2, h3⟩ := FX (at_ z); obtain rfl : y = z := th h1 hz h2; unfold fits.f; refine Ev.bind h3 ?_; by_cases c : y.length ≤ 64
 · rw [if_pos c, decide_eq_true c]; simp only [GM, getM, M4]; exact Ev.now _
 · rw [if_neg c, decide_eq_false c]; exact Ev.now _
def uq (g : Int → Option At) (v : Option At) (f t : Int) : Int → Option At := fun q => if f ≤ q ∧ q < t then v else g q
theorem M5 (K : Nat) (M M2 : List Ms) (n f t : Int) (v : Option At) (r1 : Int) (r2 : Bool) (ht : t ≤ 4096) : ∀ (d : Nat) (i : Int) (g : Int → Option At), 0 ≤ i → i + d = t → ∀ k, d < k →
    fY.l1 K M n f t (iw v) r1 r2 k M2 (fW g) i = (fits.f K M2 r1 (fW (uq g v i t))).bind fun r9 => fY.l2 K M n f t (iw v) r1 r2 M2 (fW (uq g v i t)) t r9 K r9.1 f := by
 intro d
 induction d with
 | zero =>
  intro i g hi hd k hk; obtain ⟨k, rfl⟩ : ∃ m, k = m + 1 := ⟨k - 1, by omega⟩; obtain rfl : i = t := by omega
  rw [fY.l1, bn (by omega), show fW (uq g v i i) = fW g from jD (fun p _ _ => if_neg (by omega))]
 | succ d ih =>
  intro i g hi hd k hk; obtain ⟨k, rfl⟩ : ∃ m, k = m + 1 := ⟨k - 1, by omega⟩; rw [fY.l1, bd (by omega), b2 hi (by rw [fo]; omega), xB g i v hi, DG (by omega) (by omega), ih (i + 1) _ (by omega) (by omega) k (by omega)]
  rw [show fW (uq (AreaRef.dn g i v) v (i + 1) t) = fW (uq g v i t) from jD (fun p _ _ => by
   unfold uq AreaRef.dn; by_cases c : p = i
   · rw [if_neg (by omega), if_pos c, if_pos (by omega)]
   · rw [if_neg c]; by_cases c2 : i + 1 ≤ p ∧ p < t
     · rw [if_pos c2, if_pos (by omega)]
     · rw [if_neg c2, if_neg (by omega)])]
theorem M6 (K : Nat) (M M2 : List Ms) (n f t : Int) (a4 : dL) (r2 : Bool) (v6 : List dL) (v7 : Int) (r9 : List Ms × Int) (h9 : r9.2 = 0) (A B : List Ms) (ht : t ≤ 4096) : ∀ (d : Nat) (i : Int) (x : Ms), x.w.length = 4096 → 0 ≤ i → i + d = t → ∀ k, d < k →
    fY.l2 K M n f t a4 (A.length : Int) r2 M2 v6 v7 r9 k (A ++ x :: B) i = some (A ++ { x with w := zr x.w i d } :: B, 0) := by
 intro d
 induction d with
 | zero =>
  intro i x hx hi hd k hk; obtain ⟨k, rfl⟩ : ∃ m, k = m + 1 := ⟨k - 1, by omega⟩; rw [fY.l2, bn (by omega), h9]; rfl
 | succ d ih =>
  intro i x hx hi hd k hk; obtain ⟨k, rfl⟩ : ∃ m, k = m + 1 := ⟨k - 1, by omega⟩; have h1 := ih (i + 1) { x with w := x.w.set i.toNat zw } (by rw [List.length_set]; exact hx) (by omega) (by omega) k (by omega); rw [fY.l2, bd (by omega), bt (by rw [h9]; rfl), bt (GM _ _ _), getM, b2 hi (by omega), M4, DG (by omega) (by omega), h1]; rfl
theorem GN {e : En} (he : Ge e) {p i : Int} (p0 : 0 ≤ p) (p1 : p < 4096) (i0 : 0 ≤ i) (i1 : i < 8) : (e.2.getD p.toNat zw) i.toNat = cN zw e.1.ps p i.toNat := by
 have := he.s p.toNat i.toNat (by omega) (by omega); rw [this, show ((p.toNat : Nat) : Int) = p by omega]
theorem zX {E : List En} (h : St E) (hl : E.length ≤ 1000) (n f t : Int) (v : Option At) (zl : List aG → List aG)
    (hz : ∀ l, canon l → dD f t → canon (zl l) ∧ ∀ p, at_ (zl l) p = if f ≤ p ∧ p < t then v else at_ l p) :
    ∃ E' c, St E' ∧ E'.length ≤ E.length ∧ DW c ∧ j5 (wE E) n (fun l => if dD f t then fin (zl l) else ([], some 1)) f t = (wE E', c) ∧ Ev (fun k => fY.f k (mE E) n f t (iw v)) (mE E', c.getD 0) := by
 unfold j5 fY.f; rcases split h n with hn | ⟨A, e, B, rfl, rfl, hA, hB⟩
 · rw [get_none hn]; exact ⟨E, some 3, h, by omega, .inr ⟨3, rfl, by omega, by omega⟩, rfl, Ev.bind (ia hl hn) (Ev.now _)⟩
 · rw [iV hA]; have he := h.g e (by simp); simp only [Option.elim]
   have hb : ∀ r, Ev (fun k => (bif !(decide (dD f t)) then some (mE A ++ enc e :: mE B, 1) else fY.l1 k (mE A ++ enc e :: mE B) e.1.n f t (iw v) ((mE A).length : Int) (decide (dD f t)) k (mE A ++ enc e :: mE B) (fW (at_ e.1.l)) f)) r →
       Ev (fun k => (dU.f k (mE (A ++ e :: B)) e.1.n).bind fun (r1 : Int) => (bif decide (r1 < 0) then some (mE (A ++ e :: B), 3) else (cu.f f t).bind fun (r2 : Bool) => (bif !r2 then some (mE (A ++ e :: B), 1) else (bif decide (0 ≤ r1) && decide (r1 < ((mE (A ++ e :: B)).length : Int)) then (bif decide (([] : List dL).length + (((mE (A ++ e :: B)).getD (r1).toNat bI).p).length ≤ 1000000) then fY.l1 k (mE (A ++ e :: B)) e.1.n f t (iw v) r1 r2 k (mE (A ++ e :: B)) (([] : List dL) ++ (((mE (A ++ e :: B)).getD (r1).toNat bI).p)) f else none) else none)))) r := by
     intro r hr
     rw [eR]
     refine Ev.bind (ig hl hA) (Ev.congr (fun k => ?_) hr)
     have h1 := fo (at_ e.1.l)
     rw [bn (by omega), yU, Option.bind_some]
     cases decide (dD f t) with
     | false => rfl
     | true =>
       rw [bt (GM _ _ _), getM, bd (by show 0 + (fW (at_ e.1.l)).length ≤ 1000000; omega)]
       rfl
   by_cases hs : dD f t
   · obtain ⟨z1, z2⟩ := hz e.1.l he.v.1 hs; obtain ⟨s0, s1, s2⟩ := hs; have hs : dD f t := ⟨s0, s1, s2⟩; simp only [if_pos hs]; obtain ⟨K, hK⟩ := CN (A := mE A) (B := mE B) (x := enc e) z1; have hg : fW (uq (at_ e.1.l) v f t) = fW (at_ (zl e.1.l)) := jD fun p _ _ => (z2 p).symm
     have run : ∀ k, K ≤ k → 4097 ≤ k → fY.l1 k (mE A ++ enc e :: mE B) e.1.n f t (iw v) ((mE A).length : Int) (decide (dD f t)) k (mE A ++ enc e :: mE B) (fW (at_ e.1.l)) f = (if (zl e.1.l).length ≤ 64 then some (mE A ++ { enc e with p := fW (at_ (zl e.1.l)), w := zr e.2 f (t - f).toNat } :: mE B, 0) else some (mE A ++ enc e :: mE B, 5)) := by
      intro k h1 h2; have h3 := hK k h1; dsimp only at h3; rw [M5 k _ _ _ f t v _ _ s2 (t - f).toNat f (at_ e.1.l) s0 (by omega) k (by omega), hg, h3, Option.bind_some]; by_cases c : (zl e.1.l).length ≤ 64
      · rw [if_pos c, if_pos c]; rw [M6 k _ _ _ f t _ _ _ _ _ rfl (mE A) (mE B) s2 (t - f).toNat f { enc e with p := fW (at_ (zl e.1.l)) } he.w s0 (by omega) k (by omega)]; rfl
      · rw [if_neg c, if_neg c]; obtain ⟨k, rfl⟩ : ∃ m, k = m + 1 := ⟨k - 1, by omega⟩; rw [fY.l2, bd s1, bf (show ((mE A ++ enc e :: mE B, (5 : Int)).2 == 0) = false from rfl)]
     unfold zY fin; by_cases c : (zl e.1.l).length ≤ 64
     · rw [if_pos c, if_pos rfl]; refine ⟨A ++ (({ e.1 with l := zl e.1.l, ps := e.1.ps.filter fun p => !kI f t p.1 } : Sp), zr e.2 f (t - f).toNat) :: B, none, h.put (e' := (({ e.1 with l := zl e.1.l, ps := e.1.ps.filter fun p => !kI f t p.1 } : Sp), zr e.2 f (t - f).toNat)) ⟨⟨z1, c⟩, ?_, fun p i hp hi => ?_, he.r⟩ rfl, ?_, .inl rfl, ?_, hb _ ⟨K + 4097, fun k hk => ?_⟩⟩
       · show (zr e.2 f (t - f).toNat).length = 4096; rw [GK, he.w]
       · show (zr e.2 f (t - f).toNat).getD p zw i = cN zw (e.1.ps.filter fun p => !kI f t p.1) p i; rw [GL _ _ _ _ s0 (by rw [he.w]; exact hp), pW, show f + ((t - f).toNat : Nat) = t by omega]; by_cases c2 : f ≤ (p : Int) ∧ (p : Int) < t
         · rw [if_pos c2, if_pos c2]
         · rw [if_neg c2, if_neg c2]; exact he.s p i hp hi
       · simp
       · rw [xX (g := fun s => { s with l := zl e.1.l, ps := s.ps.filter fun p => !kI f t p.1 }) (w := zr e.2 f (t - f).toNat) hA hB]
       · rw [decide_eq_true hs]; rw [decide_eq_true hs] at run; refine (run k (by omega) (by omega)).trans ?_; rw [if_pos c, eR]; rfl
     · rw [if_neg c, if_neg (by simp)]; refine ⟨_, some 5, h, by omega, .inr ⟨5, rfl, by omega, by omega⟩, rfl, hb _ ⟨K + 4097, fun k hk => ?_⟩⟩; rw [decide_eq_true hs]; rw [decide_eq_true hs] at run; refine (run k (by omega) (by omega)).trans ?_; rw [if_neg c, eR]; rfl
   · simp only [if_neg hs]; refine ⟨_, some 1, h, by omega, .inr ⟨1, rfl, by omega, by omega⟩, rfl, hb _ ?_⟩; rw [decide_eq_false hs, eR]; exact Ev.now _
theorem zZ {E : List En} (h : St E) (hl : E.length ≤ 1000) (n f t : Int) (m : Bool) (a : fF) (b : Bool) (φ : aG → aG) (ψ : At → At) (kp : keeps φ ψ) (hψ : ψ = if m = true then vH a.f0 a.f1 else vI b) :
    ∃ E' c, St E' ∧ E'.length ≤ E.length ∧ DW c ∧ j5 (wE E) n (JI φ f t) 0 0 = (wE E', c) ∧ Ev (fun k => jr.f k (mE E) n f t m a b) (mE E', c.getD 0) := by
 unfold j5 jr.f JI; rcases split h n with hn | ⟨A, e, B, rfl, rfl, hA, hB⟩
 · rw [get_none hn]; exact ⟨E, some 3, h, by omega, .inr ⟨3, rfl, by omega, by omega⟩, rfl, Ev.bind (ia hl hn) (Ev.now _)⟩
 · rw [iV hA]; have he := h.g e (by simp); simp only [Option.elim]
   have hb : ∀ r, Ev (fun k => (bif !(decide (dD f t)) then some (mE A ++ enc e :: mE B, 1) else (cC.f k (fW (at_ e.1.l)) f t m a b).bind fun (r5 : (List dL) × Bool) => (bif !r5.2 then some (mE A ++ enc e :: mE B, 3) else (fits.f k (mE A ++ enc e :: mE B) ((mE A).length : Int) r5.1).bind fun (r6 : (List Ms) × Int) => some (r6.1, r6.2)))) r →
       Ev (fun k => (dU.f k (mE (A ++ e :: B)) e.1.n).bind fun (r1 : Int) => (bif decide (r1 < 0) then some (mE (A ++ e :: B), 3) else (cu.f f t).bind fun (r2 : Bool) => (bif !r2 then some (mE (A ++ e :: B), 1) else (bif decide (0 ≤ r1) && decide (r1 < ((mE (A ++ e :: B)).length : Int)) then (bif decide (([] : List dL).length + (((mE (A ++ e :: B)).getD (r1).toNat bI).p).length ≤ 1000000) then (cC.f k (([] : List dL) ++ (((mE (A ++ e :: B)).getD (r1).toNat bI).p)) f t m a b).bind fun (r5 : (List dL) × Bool) => (bif !r5.2 then some (mE (A ++ e :: B), 3) else (fits.f k (mE (A ++ e :: B)) r1 r5.1).bind fun (r6 : (List Ms) × Int) => some (r6.1, r6.2)) else none) else none)))) r := by
     intro r hr
     rw [eR]
     refine Ev.bind (ig hl hA) (Ev.congr (fun k => ?_) hr)
     have h1 := fo (at_ e.1.l)
     rw [bn (by omega), yU, Option.bind_some]
     cases decide (dD f t) with
     | false => rfl
     | true =>
       rw [bt (GM _ _ _), getM, bd (by show 0 + (fW (at_ e.1.l)).length ≤ 1000000; omega)]
       rfl
   by_cases hs : dD f t
   · simp only [if_pos hs]; rw [decide_eq_true hs] at hb; by_cases cs : fQ (cut f t e.1.l) < t - f
     · rw [if_pos cs]; have hno := (yC he.v.1 hs).mp cs; rcases KN hs m a b (at_ e.1.l) ψ hψ with ⟨h1, _⟩ | ⟨_, h2⟩
       · obtain ⟨p, p1, p2, p3⟩ := hno; exact absurd p3 (h1 p p1 p2)
       · refine ⟨_, some 3, h, by omega, .inr ⟨3, rfl, by omega, by omega⟩, rfl, hb _ ?_⟩; rw [eR]; exact Ev.bind h2 (Ev.now _)
     · rw [if_neg cs]; have hno : ¬ _ := fun x => cs ((yC he.v.1 hs).mpr x); have z1 := Ax kp he.v.1 hs; have z2 := Ib kp he.v.1 hs; have hg : fW (lZ (at_ e.1.l) ψ f t) = fW (at_ (j6 φ e.1.l f t)) := jD fun p _ _ => (z2 p).symm; rcases KN hs m a b (at_ e.1.l) ψ hψ with ⟨_, h2⟩ | ⟨h1, _⟩
       · rw [hg] at h2; unfold zY fin; have fe := CN (A := mE A) (B := mE B) (x := enc e) z1; by_cases c : (j6 φ e.1.l f t).length ≤ 64
         · rw [if_pos c, if_pos rfl]; rw [if_pos c] at fe; refine ⟨A ++ (({ e.1 with l := j6 φ e.1.l f t, ps := e.1.ps.filter fun p => !kI 0 0 p.1 } : Sp), e.2) :: B, none, h.put (e' := (({ e.1 with l := j6 φ e.1.l f t, ps := e.1.ps.filter fun p => !kI 0 0 p.1 } : Sp), e.2)) ⟨⟨z1, c⟩, he.w, ?_, he.r⟩ rfl, ?_, .inl rfl, ?_, hb _ (Ev.bind h2 (Ev.bind fe ?_))⟩
           · show ∀ p i : Nat, p < 4096 → i < 8 → (e.2.getD p zw) i = cN zw (e.1.ps.filter fun p => !kI 0 0 p.1) p i; rw [filter_all]; exact he.s
           · simp
           · rw [xX (g := fun s => { s with l := j6 φ e.1.l f t, ps := s.ps.filter fun p => !kI 0 0 p.1 }) (w := e.2) hA hB]
           · rw [eR]; exact Ev.now _
         · rw [if_neg c, if_neg (by simp)]; rw [if_neg c] at fe; refine ⟨_, some 5, h, by omega, .inr ⟨5, rfl, by omega, by omega⟩, rfl, hb _ (Ev.bind h2 (Ev.bind fe ?_))⟩; rw [eR]; exact Ev.now _
       · exact absurd h1 hno
   · simp only [if_neg hs]; refine ⟨_, some 1, h, by omega, .inr ⟨1, rfl, by omega, by omega⟩, rfl, hb _ ?_⟩; rw [decide_eq_false hs, eR]; exact Ev.now _
end Go.Proofs.Ytmjnenjeckeklaa.FlatP
namespace Go.Proofs.Ytmjnenjeckeklaa.FlatP
open Go Go.RowKit Go.Proofs.Ytmjnenjeckeklaa.Q Go.Proofs.YtmjnenjeckeklaaW.PrintWords Go.Proofs.Ytmjnenjeckeklaa.Bits Go.Proofs.Ytmjnenjeckeklaa.AreaLib Go.Proofs.Ytmjnenjeckeklaa.AreaEv Go.Proofs.Ytmjnenjeckeklaa.AreaRef Go.Proofs.Ytmjnenjeckeklaa.AreaFind Go.Proofs.Ytmjnenjeckeklaa.AreaEach
open Go.Proofs.Ytmjnenjeckeklaa.V hiding at_ dn
attribute [local irreducible] fW
theorem uv (c n : Int) (h0 : -9223372036854775808 ≤ c) (h1 : c ≤ 9223372036854775807) (hn : 0 < n) (hn2 : n ≤ 1000000) : ∃ r, cM.f c n = some r ∧ 0 ≤ r ∧ r < n := by
 unfold cM.f; have hz : ¬ n = 0 := by omega
 by_cases hc : c < 0
 · rw [if_pos hc, if_neg hz]; refine ⟨_, rfl, ?_⟩; rw [Bits.dN (n := c + 1) (by omega) (by omega), Bits.dN (n := -(c + 1)) (by omega) (by omega)]; rw [Int.tmod_eq_emod_of_nonneg (by omega)]; exact ⟨Int.emod_nonneg _ (by omega), Int.emod_lt_of_pos _ hn⟩
 · rw [if_neg hc, if_neg hz]; refine ⟨_, rfl, ?_⟩; rw [Int.tmod_eq_emod_of_nonneg (by omega)]; exact ⟨Int.emod_nonneg _ (by omega), Int.emod_lt_of_pos _ hn⟩
theorem G5 {l : List aG} (h : valid l) {p : Int} {a : At} (ha : at_ l p = some a) : 0 ≤ p ∧ p < 4096 := by
 by_cases c : p < 0
 · rw [jJ h.1.1 c] at ha; cases ha
 · by_cases d : 4096 ≤ p
   · rw [mK h.1.1 d] at ha; cases ha
   · omega
theorem BP (g : Int → Option At) {p : Int} (p0 : 0 ≤ p) (p1 : p < 4096) : (fW g).getD p.toNat cg = iw (g p) := by rw [pO, jt g p p0 p1]
theorem Ab {E : List En} (hl : E.length ≤ 1000) {n : Int} (h : ∀ e ∈ E, e.1.n ≠ n) (p i : Int) : Ev (fun k => At.f k (mE E) n p i) (0, 3) := by
 unfold At.f; exact Ev.bind (ia hl h) (Ev.now _)
theorem yd {A B : List En} {e : En} (he : Ge e) (hl : (A ++ e :: B).length ≤ 1000) (h : ∀ x ∈ A, x.1.n ≠ e.1.n) (p i : Int) : Ev (fun k => At.f k (mE A ++ enc e :: mE B) e.1.n p i) (if 0 ≤ i ∧ i < 8 then (if at_ e.1.l p = none then (0, 3) else (((mE A).length : Int), 0)) else (0, 1)) := by
 unfold At.f; refine Ev.bind (ig hl h) ?_; have hp := fo (at_ e.1.l); simp only [bn (show ¬ ((mE A).length : Int) < 0 by omega), GM, getM, cond_true]; by_cases c : 0 ≤ i ∧ i < 8
 · simp only [bn (show ¬ i < 0 by omega), bn (show ¬ i > 7 by omega), if_pos c]; by_cases p0 : p < 0
   · simp only [bd p0, if_pos (jJ he.v.1.1 p0)]; exact Ev.now _
   · by_cases p1 : p > 4095
     · simp only [bn p0, bd p1, if_pos (mK he.v.1.1 (show (4096 : Int) ≤ p by omega))]; exact Ev.now _
     · have hq : (0 ≤ p ∧ p < ((enc e).p.length : Int)) := ⟨by omega, by show p < ((fW (at_ e.1.l)).length : Int); omega⟩; have hg : (enc e).p.getD p.toNat cg = iw (at_ e.1.l p) := BP _ (by omega) (by omega); simp only [bn p0, bn p1, b2 hq.1 hq.2, hg]
       cases at_ e.1.l p with
       | none => exact Ev.now _
       | some a => rw [if_neg (by simp)]; exact Ev.now _
 · rw [if_neg c]; by_cases c1 : i < 0
   · simp only [bd c1]; exact Ev.now _
   · simp only [bn c1, bd (show i > 7 by omega)]; exact Ev.now _
theorem two {wf : Nat → Option (FW × Option Int)} {mf : Nat → Option (List Ms × Int)} {W : FW} {M : List Ms} {c : Option Int} (hc : DW c) (hw : Ev wf (W, c)) (hm : Ev mf (M, c.getD 0)) :
    Ev (fun k => (wf k).bind fun (r2 : FW × (Option Int)) => (mf k).bind fun (r3 : (List Ms) × Int) => (Code.f k r2.2).bind fun (r4 : Int) => some (r2.1, r3.1, r4 == r3.2)) (W, M, true) := by
     refine Ev.bind hw (Ev.bind hm (Ev.bind (gP hc) ?_)); simp only [JT]; exact Ev.now _
theorem Qn : DW (some 3) := .inr ⟨3, rfl, by omega, by omega⟩
theorem N9 : DW (some 1) := .inr ⟨1, rfl, by omega, by omega⟩
theorem Wt : DW (some 6) := .inr ⟨6, rfl, by omega, by omega⟩
theorem VI : DW none := .inl rfl
theorem Ns {E : List En} (h : St E) (hl : E.length ≤ 1000) (n p : Int) :
    Ev (fun k => (V.fX.f k (wE E) n p).bind fun (Lu : (Option Int)) => (At.f k (mE E) n p 0).bind fun (Nt : Int × Int) => (bif Nt.2 == 0 then (bif decide (0 ≤ Nt.1) && decide (Nt.1 < ((mE E).length : Int)) then (bif decide (0 ≤ p) && decide (p < ((((mE E).getD ((Nt.1).toNat) bI).p).length : Int)) then (bif !(((((mE E).getD ((Nt.1).toNat) bI).p).getD ((p).toNat) cg).f2) then (Code.f k Lu).bind fun (r66 : Int) => some (wE E, mE E, r66 == 6) else (Code.f k Lu).bind fun (On : Int) => some (wE E, mE E, On == Nt.2)) else none) else none) else (Code.f k Lu).bind fun (Oo : Int) => some (wE E, mE E, Oo == Nt.2))) (wE E, mE E, true) := by
     refine Ev.bind (Nu h.gw n p) ?_; unfold Nv; rcases split h n with hn | ⟨A, e, B, rfl, rfl, hA, hB⟩
     · rw [get_none hn]; refine Ev.bind (Ab hl hn p 0) ?_; exact Ev.bind (gP Qn) (Ev.now _)
     · rw [iV hA]; have he := h.g e (by simp); simp only [Option.elim]; refine Ev.bind (by rw [eR]; exact yd he hl hA p 0) ?_; rw [if_pos (by omega)]
       cases ha : at_ e.1.l p with
       | none => exact Ev.bind (gP Qn) (Ev.now _)
       | some a =>
        rw [if_neg (by simp)]; obtain ⟨p0, p1⟩ := G5 he.v ha; have hp := fo (at_ e.1.l); have hq : p < ((enc e).p.length : Int) := by show p < ((fW (at_ e.1.l)).length : Int); omega
        have hg : (enc e).p.getD p.toNat cg = iw (some a) := by rw [← ha]; exact BP _ p0 p1
        simp only [eR, beq_self_eq_true, cond_true, GM, getM, b2 p0 hq, hg, iw]
        cases a.2.1 with
        | true => simp only [if_true, Bool.not_true, cond_false]; exact Ev.bind (gP VI) (Ev.now _)
        | false => simp only [Bool.false_eq_true, if_false, Bool.not_false, cond_true]; exact Ev.bind (gP Wt) (Ev.now _)
theorem Ac {E : List En} (h : St E) (hl : E.length ≤ 1000) (n p i v : Int) : ∃ E', St E' ∧ E'.length ≤ E.length ∧
    Ev (fun k => (V.mc.f k (wE E) n p i v).bind fun (Ht : FW × (Option Int)) => (At.f k (mE E) n p i).bind fun (rA : Int × Int) => (bif rA.2 == 0 then (bif decide (0 ≤ rA.1) && decide (rA.1 < ((mE E).length : Int)) then (bif decide (0 ≤ p) && decide (p < ((((mE E).getD ((rA.1).toNat) bI).p).length : Int)) then (bif !(((((mE E).getD ((rA.1).toNat) bI).p).getD ((p).toNat) cg).f1) then (Code.f k Ht.2).bind fun (Oq : Int) => some (Ht.1, (mE E), Oq == 6) else (bif rA.2 == 0 then (bif decide (0 ≤ rA.1) && decide (rA.1 < ((mE E).length : Int)) then (bif decide (0 ≤ p) && decide (p < ((((mE E).getD ((rA.1).toNat) bI).w).length : Int)) then (bif decide (0 ≤ i) && decide (i < 8) then (Code.f k Ht.2).bind fun (r79 : Int) => some (Ht.1, ((mE E).set ((rA.1).toNat) ({ ((mE E).getD ((rA.1).toNat) bI) with w := ((((mE E).getD ((rA.1).toNat) bI).w).set ((p).toNat) (gq ((((mE E).getD ((rA.1).toNat) bI).w).getD ((p).toNat) zw) i.toNat v)) })), r79 == rA.2) else none) else none) else none) else (Code.f k Ht.2).bind fun (r80 : Int) => some (Ht.1, (mE E), r80 == rA.2))) else none) else none) else (bif rA.2 == 0 then (bif decide (0 ≤ rA.1) && decide (rA.1 < ((mE E).length : Int)) then (bif decide (0 ≤ p) && decide (p < ((((mE E).getD ((rA.1).toNat) bI).w).length : Int)) then (bif decide (0 ≤ i) && decide (i < 8) then (Code.f k Ht.2).bind fun (r85 : Int) => some (Ht.1, ((mE E).set ((rA.1).toNat) ({ ((mE E).getD ((rA.1).toNat) bI) with w := ((((mE E).getD ((rA.1).toNat) bI).w).set ((p).toNat) (gq ((((mE E).getD ((rA.1).toNat) bI).w).getD ((p).toNat) zw) i.toNat v)) })), r85 == rA.2) else none) else none) else none) else (Code.f k Ht.2).bind fun (r86 : Int) => some (Ht.1, (mE E), r86 == rA.2)))) (wE E', mE E', true) := by
     have hs := sY h.gw n p i v; unfold sX at hs; rcases split h n with hn | ⟨A, e, B, rfl, rfl, hA, hB⟩
     · rw [get_none hn] at hs; refine ⟨E, h, by omega, Ev.bind hs (Ev.bind (Ab hl hn p i) ?_)⟩; exact Ev.bind (gP Qn) (Ev.now _)
     · rw [iV hA] at hs; have he := h.g e (by simp); simp only [Option.elim] at hs; have hat := yd he hl hA p i; rw [← eR] at hat; by_cases c : 0 ≤ i ∧ i < 8
       · rw [if_pos c] at hs hat
         cases ha : at_ e.1.l p with
         | none =>
          rw [ha] at hs hat; exact ⟨_, h, by omega, Ev.bind hs (Ev.bind hat (Ev.bind (gP Qn) (Ev.now _)))⟩
         | some a =>
          rw [ha] at hs hat; rw [if_neg (by simp)] at hat; simp only at hs; obtain ⟨p0, p1⟩ := G5 he.v ha; have hp := fo (at_ e.1.l); have hw := he.w; have hq : p < ((enc e).p.length : Int) := by show p < ((fW (at_ e.1.l)).length : Int); omega
          have iP : p < ((enc e).w.length : Int) := by show p < (e.2.length : Int); omega
          have hg : (enc e).p.getD p.toNat cg = iw (some a) := by rw [← ha]; exact BP _ p0 p1
          by_cases hb : a.1 = true
          · rw [if_pos hb] at hs; refine ⟨A ++ (({ e.1 with ps := nK p (gq (cN zw e.1.ps p) i.toNat v) e.1.ps } : Sp), e.2.set p.toNat (gq (e.2.getD p.toNat zw) i.toNat v)) :: B, h.put (e' := (({ e.1 with ps := nK p (gq (cN zw e.1.ps p) i.toNat v) e.1.ps } : Sp), e.2.set p.toNat (gq (e.2.getD p.toNat zw) i.toNat v))) ⟨he.v, ?_, fun q j hq hj => ?_, he.r⟩ rfl, by simp, Ev.bind hs (Ev.bind hat ?_)⟩
            · show (e.2.set _ _).length = 4096; rw [List.length_set, hw]
            · show ((e.2.set p.toNat (gq (e.2.getD p.toNat zw) i.toNat v)).getD q zw) j = cN zw (nK p (gq (cN zw e.1.ps p) i.toNat v) e.1.ps) q j; rw [zW _ _ _ _ (by omega), BM]; by_cases d : p.toNat = q
              · rw [if_pos d, if_pos (by omega)]; unfold gq; by_cases dj : j = i.toNat
                · rw [if_pos dj, if_pos dj]
                · rw [if_neg dj, if_neg dj, he.s p.toNat j (by omega) hj, show ((p.toNat : Nat) : Int) = p by omega]
              · rw [if_neg d, if_neg (by omega)]; exact he.s q j hq hj
            · simp only [eR, beq_self_eq_true, cond_true, GM, getM, M4, b2 p0 hq, b2 p0 iP, b2 c.1 c.2, hg, iw, hb, Bool.not_true, cond_false]; refine Ev.bind (gP VI) ?_; rw [xX (w := e.2.set p.toNat (gq (e.2.getD p.toNat zw) i.toNat v)) hA hB]; exact Ev.now _
          · rw [if_neg hb] at hs; refine ⟨_, h, by omega, Ev.bind hs (Ev.bind hat ?_)⟩; simp only [eR, beq_self_eq_true, cond_true, GM, getM, b2 p0 hq, hg, iw, Bool.eq_false_iff.mpr hb, Bool.not_false]; exact Ev.bind (gP Wt) (Ev.now _)
       · rw [if_neg c] at hs hat; exact ⟨_, h, by omega, Ev.bind hs (Ev.bind hat (Ev.bind (gP N9) (Ev.now _)))⟩
theorem Qr {E : List En} (h : St E) (hl : E.length ≤ 1000) (d : ye) (d0 : -9223372036854775808 ≤ d.f0) (d1 : d.f0 ≤ 9223372036854775807) : ∃ E', St E' ∧ E'.length ≤ E.length + 1 ∧ Ev (fun k => Hr.f k (wE E) (mE E) d) (wE E', mE E', true) := by
 obtain ⟨r, hr, r0, r1⟩ := uv d.f0 11 d0 d1 (by omega) (by omega); simp only [Hr.f, hr, Option.bind_some]
 have hmap : ∃ E' c, St E' ∧ E'.length ≤ E.length ∧ DW c ∧ Ev (fun k => V.Map.f k (wE E) d.f1 d.f3 d.f4 d.r) (wE E', c) ∧ Ev (fun k => fY.f k (mE E) d.f1 d.f3 d.f4 (⟨true, d.r.f0, d.r.f1, false⟩ : dL)) (mE E', c.getD 0) := by
  obtain ⟨E', c, h1, h2, h3, h4, h5⟩ := zX h hl d.f1 d.f3 d.f4 (some (d.r.f0, d.r.f1, false)) (fun l => yQ l ⟨d.f3, d.f4, ⟨d.r.f0, d.r.f1⟩, false⟩) (fun l hc hs => ⟨Di hc hs, fun p => LW hc hs p⟩); exact ⟨E', c, h1, h2, h3, by rw [← h4]; exact EJ h.gw _ _ _ _, h5⟩
 have hun : ∃ E' c, St E' ∧ E'.length ≤ E.length ∧ DW c ∧ Ev (fun k => qJ.f k (wE E) d.f1 d.f3 d.f4) (wE E', c) ∧ Ev (fun k => fY.f k (mE E) d.f1 d.f3 d.f4 (⟨false, false, false, false⟩ : dL)) (mE E', c.getD 0) := by
  obtain ⟨E', c, h1, h2, h3, h4, h5⟩ := zX h hl d.f1 d.f3 d.f4 none (fun l => yR l d.f3 d.f4) (fun l hc hs => ⟨Dj hc hs, fun p => IM hc hs p⟩); exact ⟨E', c, h1, h2, h3, by rw [← h4]; exact G7 h.gw _ _ _, h5⟩
 have hc : r = 0 ∨ r = 1 ∨ r = 2 ∨ r = 3 ∨ r = 4 ∨ r = 5 ∨ r = 6 ∨ r = 7 ∨ r = 8 ∨ r = 9 ∨ r = 10 := by omega
 rcases hc with rfl | rfl | rfl | rfl | rfl | rfl | rfl | rfl | rfl | rfl | rfl <;> simp only [Int.reduceBEq, cond_true, cond_false]
 · obtain ⟨E', c, h1, h2, h3, h4, h5⟩ := D6 h hl d.f1; exact ⟨E', h1, h2, two h3 h4 h5⟩
 · obtain ⟨E', c, h1, h2, h3, h4, h5⟩ := D7 h hl d.f1 d.f2; exact ⟨E', h1, h2, two h3 h4 h5⟩
 · obtain ⟨E', c, h1, h2, h3, h4, h5⟩ := G8 h hl d.f1; exact ⟨E', h1, h2, two h3 h4 h5⟩
 · obtain ⟨E', c, h1, h2, h3, h4, h5⟩ := hmap; exact ⟨E', h1, by omega, two h3 h4 h5⟩
 · obtain ⟨E', c, h1, h2, h3, h4, h5⟩ := hmap; exact ⟨E', h1, by omega, two h3 h4 h5⟩
 · obtain ⟨E', c, h1, h2, h3, h4, h5⟩ := hun; exact ⟨E', h1, by omega, two h3 h4 h5⟩
 · obtain ⟨E', c, h1, h2, h3, h4, h5⟩ := zZ h hl d.f1 d.f3 d.f4 true d.r false (cT.of d.r.f0 d.r.f1) (vH d.r.f0 d.r.f1) (FU _ _) (if_pos rfl).symm; exact ⟨E', h1, by omega, two h3 (by rw [← h4]; exact BQ h.gw _ _ _ _) h5⟩
 · obtain ⟨E', c, h1, h2, h3, h4, h5⟩ := zZ h hl d.f1 d.f3 d.f4 false d.r d.h (cU.of d.h) (vI d.h) (FV _) (if_neg Bool.false_ne_true).symm; exact ⟨E', h1, by omega, two h3 (by rw [← h4]; exact D8 h.gw _ _ _ _) h5⟩
 · exact ⟨E, h, by omega, Ns h hl d.f1 d.f3⟩
 · obtain ⟨E', h1, h2, h3⟩ := Ac h hl d.f1 d.f3 d.i d.v; exact ⟨E', h1, by omega, h3⟩
 · obtain ⟨E', h1, h2, h3⟩ := Ac h hl d.f1 d.f3 d.i d.v; exact ⟨E', h1, by omega, h3⟩
end Go.Proofs.Ytmjnenjeckeklaa.FlatP
namespace Go.Proofs.Ytmjnenjeckeklaa.FlatP
open Go Go.RowKit Go.Proofs.Ytmjnenjeckeklaa.Q Go.Proofs.YtmjnenjeckeklaaW.PrintWords Go.Proofs.Ytmjnenjeckeklaa.Bits Go.Proofs.Ytmjnenjeckeklaa.AreaLib Go.Proofs.Ytmjnenjeckeklaa.AreaEv Go.Proofs.Ytmjnenjeckeklaa.AreaRef Go.Proofs.Ytmjnenjeckeklaa.AreaFind Go.Proofs.Ytmjnenjeckeklaa.AreaEach
open Go.Proofs.Ytmjnenjeckeklaa.V hiding at_ dn
attribute [local irreducible] fW
theorem wA {α : Type} {f : Nat → Option α} {x y : α} (h : Ev f x) (e : x = y) : Ev f y := e ▸ h
abbrev yA : aG := ⟨0, 2, ⟨true, false⟩, false⟩
theorem QK : valid [yA] := ⟨⟨⟨by decide, by decide, by decide⟩, trivial⟩, by decide⟩
theorem exS : dD 0 2 := ⟨by omega, by omega, by omega⟩
abbrev C7 (v : Int) (ps : List (Int × W8)) : List (Int × W8) := nK 0 (gq (cN zw ps 0) 3 v) ps
theorem Ox : Ev (fun k => up.f k) true := by
 simp only [up.f]; refine Ev.bind LC ?_; have m0 : B0 [] 1 = ([(⟨1, [], []⟩ : Sp)], none) := rfl; refine Ev.bind (wA (B1 [] 1) m0) ?_; have g1 : GW [(⟨1, [], []⟩ : Sp)] := fun s hs => by rw [List.mem_singleton.mp hs]; exact ⟨⟨show (0 : Int) ≤ 4096 by omega, trivial⟩, by simp⟩
 have m1 : j5 [(⟨1, [], []⟩ : Sp)] 1 (LD 0 2 ⟨true, false⟩) 0 2 = ([⟨1, [yA], []⟩], none) := by
  simp only [j5, LD, if_pos exS]; rfl
 refine Ev.bind (wA (EJ g1 _ _ _ _) m1) ?_; have g2 : GW [(⟨1, [yA], []⟩ : Sp)] := fun s hs => by rw [List.mem_singleton.mp hs]; exact QK
 have m2 : sX [(⟨1, [yA], []⟩ : Sp)] 1 0 3 9 = ([⟨1, [yA], C7 9 []⟩], none) := rfl; refine Ev.bind (wA (sY g2 _ _ _ _) m2) ?_; have g3 : GW [(⟨1, [yA], C7 9 []⟩ : Sp)] := fun s hs => by rw [List.mem_singleton.mp hs]; exact QK
 have m3 : B3 [(⟨1, [yA], C7 9 []⟩ : Sp)] 1 2 = ([⟨1, [yA], C7 9 []⟩, ⟨2, [yA], C7 9 []⟩], none) := rfl; refine Ev.bind (wA (B4 g3 _ _) m3) ?_
 have g4 : ∀ q r, GW [(⟨1, [yA], q⟩ : Sp), ⟨2, [yA], r⟩] := fun q r s hs => by
  rcases List.mem_cons.mp hs with rfl | hs
  · exact QK
  · rw [List.mem_singleton.mp hs]; exact QK
 have m4 : sX [(⟨1, [yA], C7 9 []⟩ : Sp), ⟨2, [yA], C7 9 []⟩] 2 0 3 4 = ([⟨1, [yA], C7 9 []⟩, ⟨2, [yA], C7 4 (C7 9 [])⟩], none) := rfl; refine Ev.bind (wA (sY (g4 _ _) _ _ _ _) m4) ?_; have m5 : pe [(⟨1, [yA], C7 9 []⟩ : Sp), ⟨2, [yA], C7 4 (C7 9 [])⟩] 1 0 3 = (9, none) := rfl; refine Ev.bind (wA (rG (g4 _ _) _ _ _) m5) ?_; exact Ev.now _
end Go.Proofs.Ytmjnenjeckeklaa.FlatP
