import Derived.Test.YtmjnenjeckeklaaB2
import Derived.Test.YtmjnenjeckeklaaAreaEach
import Derived.Test.YtmjnenjeckeklaaB3
import Derived.Test.YtmjnenjeckeklaaQx13
set_option linter.unusedVariables false
set_option linter.unusedSimpArgs false
namespace Go.Proofs.Ytmjnenjeckeklaa.FlatP
open Go Go.RowKit Go.Proofs.Ytmjnenjeckeklaa.Q Go.Proofs.YtmjnenjeckeklaaW.PrintWords Go.Proofs.Ytmjnenjeckeklaa.Bits Go.Proofs.Ytmjnenjeckeklaa.AreaLib Go.Proofs.Ytmjnenjeckeklaa.AreaEv Go.Proofs.Ytmjnenjeckeklaa.AreaRef Go.Proofs.Ytmjnenjeckeklaa.AreaFind Go.Proofs.Ytmjnenjeckeklaa.AreaEach
open Go.Proofs.Ytmjnenjeckeklaa.V hiding at_ jN
theorem bd {α : Type} {p : Prop} [Decidable p] {x y : α} (h : p) : (bif decide p then x else y) = x := by rw [ay h]; rfl
theorem bn {α : Type} {p : Prop} [Decidable p] {x y : α} (h : ¬ p) : (bif decide p then x else y) = y := by rw [aY h]; rfl
theorem bt {α : Type} {b : Bool} {x y : α} (h : b = true) : (bif b then x else y) = x := by rw [h]; rfl
theorem bf {α : Type} {b : Bool} {x y : α} (h : b = false) : (bif b then x else y) = y := by rw [h]; rfl
theorem b2 {α : Type} {p q : Prop} [Decidable p] [Decidable q] {x y : α} (h : p) (k : q) : (bif decide p && decide q then x else y) = x := by rw [ay h, ay k]; rfl
theorem Ce {n : Int} (h0 : -9223372036854775808 ≤ n) (h1 : n ≤ 9223372036854775807) : IntKind.i64.wrap n = n := by
 simp [IntKind.wrap, IntKind.bits, IntKind.signed]; split <;> omega
def BE (w x : Bool) (a : At) : At := (w, x, a.2.2)
def BF (h : Bool) (a : At) : At := (a.1, a.2.1, h)
theorem Lp (w x : Bool) : keeps (jB.of w x) (BE w x) := fun _ => ⟨rfl, rfl, rfl⟩
theorem Lq (h : Bool) : keeps (jC.of h) (BF h) := fun _ => ⟨rfl, rfl, rfl⟩
theorem Ae {α : Type} {l : List gu} {x : Option α} (h : valid l) : (if l.length ≤ 1000000 then x else none) = x := by rw [aj (by have := h.2; omega)]
theorem Og {l : List gu} (a : gu) (h : valid l) : Ev (fun k => FO.f k l a) (if jV a.f0 a.f1 then fin (DO l a) else ([], some 1)) := by
 have := Q3 l a (by have := h.2; omega); simp only [FO.f, Ae h]; simpa [h] using this
theorem Oh {l : List gu} (f t : Int) (h : valid l) : Ev (fun k => FP.f k l f t) (if jV f t then fin (DP l f t) else ([], some 1)) := by
 have := Q4 l f t (by have := h.2; omega); simp only [FP.f, Ae h]; simpa [h] using this
theorem Gs {l : List gu} (f t : Int) (r : l6) (h : valid l) : Ev (fun k => rX.f k l f t r) (if jV f t then (if mB (cut f t l) < t - f then ([], some 3) else fin (qw (jB.of r.f0 r.f1) l f t)) else ([], some 1)) := by
 have := Hg (Lp r.f0 r.f1) l f t (by have := h.2; omega); simp only [rX.f, Ae h]; simpa [h] using (show Ev (fun k => jB.f k l f t r.f0 r.f1) _ from this)
theorem Gt {l : List gu} (f t : Int) (b : Bool) (h : valid l) : Ev (fun k => rY.f k l f t b) (if jV f t then (if mB (cut f t l) < t - f then ([], some 3) else fin (qw (jC.of b) l f t)) else ([], some 1)) := by
 have := Hg (Lq b) l f t (by have := h.2; omega); simp only [rY.f, Ae h]; simpa [h] using (show Ev (fun k => jC.f k l f t b) _ from this)
def found : Option gu → gu × Option Int
  | some x => (x, none)
  | none => (⟨0, 0, ⟨false, false⟩, false⟩, some 3)
theorem Er {l : List gu} (p : Int) (h : valid l) : Ev (fun k => vV.f k l p) (found (AreaFind.look l p)) := by
 obtain ⟨K, hK⟩ := Oi l p (by have := h.2; omega); refine ⟨K, fun k hk => ?_⟩; simp only [vV.f, Ae h, hK k hk, aj h, ct]; cases AreaFind.look l p <;> rfl
theorem Lr (g : Int → Option At) : ∃ z, canon z ∧ (∀ p, 0 ≤ p → p < 4096 → at_ z p = g p) ∧ Ev (fun k => K7.f k (mI g)) (z, decide (z.length ≤ 64)) := by
 obtain ⟨z, h1, h2, h3⟩ := Ls g; refine ⟨z, h1, h2, ?_⟩; simp only [K7.f, lT]; exact h3
def sd (g : Int → Option At) (ψ : At → At) (f t : Int) : Int → Option At := fun q => if f ≤ q ∧ q < t then (g q).map ψ else g q
theorem wg (l : List j5) (i : Int) : l.getD i.toNat iV = rd_T72 l i := rfl
theorem UH (t : Int) (ht : t ≤ 4096) (m : Bool) (h : Bool) (a : l6) (K : Nat) (a0 : List j5) (f0 : Int) (x : List j5) (y : Int) (ψ : At → At) (hψ : ψ = if m = true then BE a.f0 a.f1 else BF h) : ∀ (d : Nat) (i : Int) (g : Int → Option At), 0 ≤ i → i + d = t → (∀ p, i ≤ p → p < t → g p ≠ none) →
    ∀ k, d < k → jo.l2 K a0 f0 t m a h x y k (mI g) i = some (mI (sd g ψ i t), true) := by
 intro d
 induction d with
 | zero =>
  intro i g hi hd hg k hk; obtain ⟨k, rfl⟩ : ∃ n, k = n + 1 := ⟨k - 1, by omega⟩; rw [jo.l2, bn (by omega), show mI (sd g ψ i t) = mI g from pV (fun p _ _ => by unfold sd; rw [ag (by omega)])]
 | succ d ih =>
  intro i g hi hd hg k hk; obtain ⟨k, rfl⟩ : ∃ n, k = n + 1 := ⟨k - 1, by omega⟩; have hi4 : i < 4096 := by omega
  obtain ⟨v, hv⟩ : ∃ v, g i = some v := by
   cases hx : g i with
   | none => exact absurd hx (hg i (bM _) (by omega))
   | some v => exact ⟨v, rfl⟩
  have h1 := ih (i + 1) (AreaRef.jN g i (some (ψ v))) (by omega) (by omega) (fun p p1 p2 => by unfold AreaRef.jN; rw [ag (by omega)]; exact hg p (by omega) p2) k (by omega)
  rw [show mI (sd (AreaRef.jN g i (some (ψ v))) ψ (i + 1) t) = mI (sd g ψ i t) from pV (fun p _ _ => by
   unfold sd AreaRef.jN; by_cases c : p = i
   · subst c; rw [ag (by omega), aj rfl, aj (by omega), hv]; rfl
   · rw [ag c]; by_cases c2 : i + 1 ≤ p ∧ p < t
     · rw [aj c2, aj (by omega)]
     · rw [ag c2, ag (by omega)])] at h1
  rw [← CT g i _ hi] at h1; have hrd : (mI g).getD i.toNat iV = oc (some v) := by rw [wg, pN g i hi hi4, hv]
  rw [← h1, jo.l2, bd (by omega)]
  cases m with
  | true =>
   rw [bt rfl, b2 hi (by rw [lT]; omega), hrd, b2 hi (by rw [bV, lT]; omega)]; have hs : (mI g).set i.toNat (⟨(oc (some v)).f0, a.f0, (oc (some v)).f2, (oc (some v)).f3⟩ : j5) = mI (AreaRef.jN g i (some (a.f0, v.2.1, v.2.2))) := CT g i (some (a.f0, v.2.1, v.2.2)) hi; rw [hs, wg, pN _ i hi hi4, show AreaRef.jN g i (some (a.f0, v.2.1, v.2.2)) i = some (a.f0, v.2.1, v.2.2) from aj rfl, Ce (by omega) (by omega), ← hs, List.set_set, hψ, aj rfl]; rfl
  | false =>
   rw [bf rfl, b2 hi (by rw [lT]; omega), hrd, Ce (by omega) (by omega), hψ, ag cA]; rfl
theorem PY (f t : Int) (hf : 0 ≤ f) (ht : t ≤ 4096) (m : Bool) (a : l6) (h : Bool) (K : Nat) (hK : 4096 < K) (a0 : List j5) (g : Int → Option At) (ψ : At → At) (hψ : ψ = if m = true then BE a.f0 a.f1 else BF h) : ∀ (d : Nat) (i : Int), f ≤ i → i + d = t → (∀ p, f ≤ p → p < i → g p ≠ none) →
    ∀ k, d < k → ((∀ p, f ≤ p → p < t → g p ≠ none) ∧ jo.l1 K a0 f t m a h k (mI g) i = some (mI (sd g ψ f t), true)) ∨ ((∃ p, f ≤ p ∧ p < t ∧ g p = none) ∧ jo.l1 K a0 f t m a h k (mI g) i = some (mI g, false)) := by
 intro d
 induction d with
 | zero =>
  intro i hi hd hg k hk; obtain ⟨k, rfl⟩ : ∃ n, k = n + 1 := ⟨k - 1, by omega⟩; have e : i = t := by omega
  subst e; refine .inl ⟨hg, ?_⟩; rw [jo.l1, bn (by omega)]; exact UH i ht m h a K a0 f _ _ ψ hψ (i - f).toNat f g hf (by omega) hg K (by omega)
 | succ d ih =>
  intro i hi hd hg k hk; obtain ⟨k, rfl⟩ : ∃ n, k = n + 1 := ⟨k - 1, by omega⟩; have hi4 : i < 4096 := by omega
  cases hv : g i with
  | none =>
   refine .inr ⟨⟨i, hi, by omega, hv⟩, ?_⟩; rw [jo.l1, bd (by omega), b2 (by omega) (by rw [lT]; omega), wg, pN g i (by omega) hi4, hv]; rfl
  | some v =>
   have e : jo.l1 K a0 f t m a h (k + 1) (mI g) i = jo.l1 K a0 f t m a h k (mI g) (i + 1) := by
    rw [jo.l1, bd (by omega), b2 (by omega) (by rw [lT]; omega), wg, pN g i (by omega) hi4, hv, Ce (by omega) (by omega)]; rfl
   rw [e]
   exact ih (i + 1) (by omega) (by omega) (fun p p1 p2 => by
    by_cases c : p = i
    · rw [c, hv]; exact fun e => by cases e
    · exact hg p p1 (by omega)) k (by omega)
theorem PZ {f t : Int} (hs : jV f t) (m : Bool) (a : l6) (h : Bool) (g : Int → Option At) (ψ : At → At) (hψ : ψ = if m = true then BE a.f0 a.f1 else BF h) :
    ((∀ p, f ≤ p → p < t → g p ≠ none) ∧ Ev (fun k => jo.f k (mI g) f t m a h) (mI (sd g ψ f t), true)) ∨ ((∃ p, f ≤ p ∧ p < t ∧ g p = none) ∧ Ev (fun k => jo.f k (mI g) f t m a h) (mI g, false)) := by
 obtain ⟨h0, h1, h2⟩ := hs; by_cases c : ∃ p, f ≤ p ∧ p < t ∧ g p = none
 · refine .inr ⟨c, 4097, fun k hk => ?_⟩; rcases PY f t h0 h2 m a h k (by omega) (mI g) g ψ hψ (t - f).toNat f (bM _) (by omega) (fun p p1 p2 => absurd p1 (by omega)) k (by omega) with ⟨h3, _⟩ | ⟨_, h3⟩
   · obtain ⟨p, p1, p2, p3⟩ := c; exact absurd p3 (h3 p p1 p2)
   · exact h3
 · refine .inl ⟨fun p p1 p2 e => c ⟨p, p1, p2, e⟩, 4097, fun k hk => ?_⟩; rcases PY f t h0 h2 m a h k (by omega) (mI g) g ψ hψ (t - f).toNat f (bM _) (by omega) (fun p p1 p2 => absurd p1 (by omega)) k (by omega) with ⟨_, h3⟩ | ⟨h3, _⟩
   · exact h3
   · exact absurd h3 c
end Go.Proofs.Ytmjnenjeckeklaa.FlatP
namespace Go.Proofs.Ytmjnenjeckeklaa.FlatP
open Go Go.RowKit Go.Proofs.Ytmjnenjeckeklaa.Q Go.Proofs.YtmjnenjeckeklaaW.PrintWords Go.Proofs.Ytmjnenjeckeklaa.Bits Go.Proofs.Ytmjnenjeckeklaa.AreaLib Go.Proofs.Ytmjnenjeckeklaa.AreaEv Go.Proofs.Ytmjnenjeckeklaa.AreaRef Go.Proofs.Ytmjnenjeckeklaa.AreaFind Go.Proofs.Ytmjnenjeckeklaa.AreaEach
open Go.Proofs.Ytmjnenjeckeklaa.V hiding at_ jN
abbrev Sp := nj gu W8
def GW (W : FW) : Prop := ∀ s ∈ W, valid s.l
theorem o5 {W : FW} {n : Int} {s : Sp} (h : jQ W n = some s) : s ∈ W := cU h
theorem set_set {W : FW} {m : Int} {g h : Sp → Sp} (hg : ∀ s, (g s).n = s.n) : oe m h (oe m g W) = oe m (fun s => h (g s)) W := by
 unfold oe; rw [bW]; refine bY fun s _ => ?_; show (if (if s.n = m then g s else s).n = m then h _ else _) = _; by_cases c : s.n = m
 · rw [aj c, hg, aj c, aj c]; show h (if s.n = m then g s else s) = h (g s); rw [aj c]
 · rw [ag c, ag c, ag c]
def vM (W : FW) (n p i : Int) : Int × Option Int := (jQ W n).elim (0, some 3) fun s => if 0 ≤ i ∧ i < 8 then (if at_ s.l p = none then (0, some 3) else (jw zw s.ps p i.toNat, none)) else (0, some 1)
theorem yp {W : FW} (hW : GW W) (n p i : Int) : Ev (fun k => ur.f k W n p i) (vM W n p i) := by
 simp only [ur.f, vM]
 cases hs : jQ W n with
 | none => exact Ev.now _
 | some s =>
  simp only [Option.elim]; by_cases h0 : 0 ≤ i ∧ i < 8
  · simp only [bn (show ¬ i < 0 by omega), bn (show ¬ i ≥ 8 by omega), aj h0, b2 h0.1 h0.2]; refine Ev.bind (Er p (hW s (o5 hs))) ?_; have hl := yG s.l p
    cases hx : AreaFind.look s.l p with
    | none => rw [hx] at hl; rw [aj (show at_ s.l p = none from hl)]; exact Ev.now _
    | some x => rw [hx] at hl; rw [ag (by rw [hl]; simp)]; exact Ev.now _
  · rw [ag h0]; by_cases h1 : i < 0
    · simp only [bd h1]; exact Ev.now _
    · simp only [bn h1, bd (show i ≥ 8 by omega)]; exact Ev.now _
def Io (W : FW) (n p : Int) : gu × Option Int := (jQ W n).elim (⟨0, 0, ⟨false, false⟩, false⟩, some 3) fun s => found (AreaFind.look s.l p)
theorem Ip {W : FW} (hW : GW W) (n p : Int) : Ev (fun k => ku.f k W n p) (Io W n p) := by
 simp only [ku.f, Io]
 cases hs : jQ W n with
 | none => exact Ev.now _
 | some s => exact Ev.bind (Er p (hW s (o5 hs))) (Ev.now _)
def SB (W : FW) (n p : Int) : Option Int := (jQ W n).elim (some 3) fun s => (at_ s.l p).elim (some 3) fun a => if a.2.1 = true then none else some 6
theorem SA {W : FW} (hW : GW W) (n p : Int) : Ev (fun k => V.lC.f k W n p) (SB W n p) := by
 simp only [V.lC.f]; refine Ev.bind (Ip hW n p) ?_; simp only [Io, SB]
 cases hs : jQ W n with
 | none => exact Ev.now _
 | some s =>
  simp only [Option.elim]; rw [yG s.l p]
  cases hx : AreaFind.look s.l p with
  | none => exact Ev.now _
  | some x =>
   simp only [found, Option.map, attr]; cases x.f2.f1 <;> exact Ev.now _
def zm (W : FW) (n p i v : Int) : FW × Option Int := (jQ W n).elim (W, some 3) fun s => if 0 ≤ i ∧ i < 8 then ((at_ s.l p).elim (W, some 3) fun a => if a.1 = true then (oe n (fun t => { t with ps := uo p (mY (jw zw s.ps p) i.toNat v) t.ps }) W, none) else (W, some 6)) else (W, some 1)
theorem zn {W : FW} (hW : GW W) (n p i v : Int) : Ev (fun k => V.pZ.f k W n p i v) (zm W n p i v) := by
 simp only [V.pZ.f]; refine Ev.bind (yp hW n p i) ?_; simp only [zm]
 cases hs : jQ W n with
 | none => simp only [vM, hs]; exact Ev.now _
 | some s =>
  simp only [vM, hs, Option.elim]; by_cases h0 : 0 ≤ i ∧ i < 8
  · simp only [aj h0, b2 h0.1 h0.2]; have hl := yG s.l p
    cases hx : AreaFind.look s.l p with
    | none => rw [hx] at hl; simp only [Option.map] at hl; simp only [hl]; exact Ev.now _
    | some x =>
     rw [hx] at hl; simp only [Option.map] at hl; simp only [hl]; rw [ag (by simp)]; refine Ev.bind (Ip hW n p) ?_; simp only [Io, hs, Option.elim, hx, found, attr]; by_cases hb : x.f2.f0 = true
     · simp only [hb, cB]; exact Ev.now _
     · simp only [cw.mpr hb, bO, cQ]; exact Ev.now _
  · simp only [ag h0]; exact Ev.now _
def EM (W : FW) (n : Int) (z : List gu × Option Int) (f t : Int) : FW × Option Int := if z.2 = none then (oe n (fun s => { s with l := z.1, ps := s.ps.filter fun p => !qR f t p.1 }) W, none) else (W, z.2)
theorem yJ {W : FW} {n : Int} {s : Sp} (hs : jQ W n = some s) (k : Nat) (z : List gu × Option Int) (f t : Int) : pF.f k W n z.1 z.2 f t = some (EM W n z f t) := by
 unfold pF.f EM; rw [hs]
 cases z.2 with
 | none =>
  rw [aj rfl]; show some (oe n (fun s => { s with l := z.1 }) (oe n (fun s => { s with ps := s.ps.filter fun p => !qR f t p.1 }) W), none) = _; rw [set_set (g := fun s : Sp => { s with ps := s.ps.filter fun p => !qR f t p.1 }) (fun _ => rfl)]
 | some e => rfl
def qv (W : FW) (n : Int) (z : List gu → List gu × Option Int) (f t : Int) : FW × Option Int := (jQ W n).elim (W, some 3) fun s => EM W n (z s.l) f t
def QG (f t : Int) (r : l6) (l : List gu) : List gu × Option Int := if jV f t then fin (DO l ⟨f, t, ⟨r.f0, r.f1⟩, false⟩) else ([], some 1)
def SF (f t : Int) (l : List gu) : List gu × Option Int := if jV f t then fin (DP l f t) else ([], some 1)
def OT (φ : gu → gu) (f t : Int) (l : List gu) : List gu × Option Int := if jV f t then (if mB (cut f t l) < t - f then ([], some 3) else fin (qw φ l f t)) else ([], some 1)
theorem Kh {W : FW} (hW : GW W) (n f t : Int) (r : l6) : Ev (fun k => V.Map.f k W n f t r) (qv W n (QG f t r) f t) := by
 simp only [V.Map.f, qv]
 cases hs : jQ W n with
 | none => exact Ev.now _
 | some s =>
  simp only [Option.elim]; refine Ev.bind (Og _ (hW s (o5 hs))) ?_; refine Ev.bind (f := fun k r6 => some (r6.1, r6.2)) (Ev.congr (fun k => yJ hs k _ f t) (Ev.now _)) (Ev.now _)
theorem Mv {W : FW} (hW : GW W) (n f t : Int) : Ev (fun k => sS.f k W n f t) (qv W n (SF f t) f t) := by
 simp only [sS.f, qv]
 cases hs : jQ W n with
 | none => exact Ev.now _
 | some s =>
  simp only [Option.elim]; refine Ev.bind (Oh f t (hW s (o5 hs))) ?_; refine Ev.bind (f := fun k r6 => some (r6.1, r6.2)) (Ev.congr (fun k => yJ hs k _ f t) (Ev.now _)) (Ev.now _)
theorem GS {W : FW} (hW : GW W) (n f t : Int) (r : l6) : Ev (fun k => oN.f k W n f t r) (qv W n (OT (jB.of r.f0 r.f1) f t) 0 0) := by
 simp only [oN.f, qv]
 cases hs : jQ W n with
 | none => exact Ev.now _
 | some s =>
  simp only [Option.elim]; refine Ev.bind (Gs f t r (hW s (o5 hs))) ?_; refine Ev.bind (f := fun k r6 => some (r6.1, r6.2)) (Ev.congr (fun k => yJ hs k _ 0 0) (Ev.now _)) (Ev.now _)
theorem JK {W : FW} (hW : GW W) (n f t : Int) (h : Bool) : Ev (fun k => qH.f k W n f t h) (qv W n (OT (jC.of h) f t) 0 0) := by
 simp only [qH.f, qv]
 cases hs : jQ W n with
 | none => exact Ev.now _
 | some s =>
  simp only [Option.elim]; refine Ev.bind (Gt f t h (hW s (o5 hs))) ?_; refine Ev.bind (f := fun k r6 => some (r6.1, r6.2)) (Ev.congr (fun k => yJ hs k _ 0 0) (Ev.now _)) (Ev.now _)
def SE (W : FW) (n : Int) : FW × Option Int := (jQ W n).elim (W, some 3) fun _ => (W.filter (fun s => s.n != n), none)
theorem SD (W : FW) (n : Int) : Ev (fun k => V.End.f k W n) (SE W n) := by
 simp only [V.End.f, SE]; cases jQ W n <;> exact Ev.now _
def G7 (W : FW) (n : Int) : FW × Option Int := if 1 ≤ n ∧ n ≤ 255 then (jQ W n).elim (W ++ [⟨n, [], []⟩], none) fun _ => (W, some 4) else (W, some 1)
theorem Mz (W : FW) (n : Int) : Ev (fun k => may.f k W n) (if 1 ≤ n ∧ n ≤ 255 then (jQ W n).elim none fun _ => some 4 else some 1) := by
 simp only [may.f]; by_cases h : 1 ≤ n ∧ n ≤ 255
 · simp only [bn (show ¬ n < 1 by omega), bn (show ¬ n > 255 by omega), aj h]; cases jQ W n <;> exact Ev.now _
 · rw [ag h]; by_cases h1 : n < 1
   · simp only [bd h1]; exact Ev.now _
   · simp only [bn h1, bd (show n > 255 by omega)]; exact Ev.now _
theorem G8 (W : FW) (n : Int) : Ev (fun k => V.Make.f k W n) (G7 W n) := by
 simp only [V.Make.f]; refine Ev.bind (Mz W n) ?_; simp only [G7]; by_cases h : 1 ≤ n ∧ n ≤ 255
 · simp only [aj h]; cases hs : jQ W n <;> exact Ev.now _
 · simp only [ag h]; exact Ev.now _
def G9 (W : FW) (n c : Int) : FW × Option Int := if 1 ≤ c ∧ c ≤ 255 then (jQ W n).elim (W, some 3) fun s => (jQ W c).elim (W ++ [⟨c, s.l, s.ps⟩], none) fun _ => (W, some 4) else (W, some 1)
theorem EV {l : List gu} (h : valid l) : Ev (fun k => nK.f k l) l := by
 have h2 := h.2; refine Ev.congr (f := fun _ => some l) (fun k => ?_) (Ev.now _); unfold nK.f; rw [bd (by simp only [cW, aG]; omega)]; rfl
theorem He {W : FW} (hW : GW W) (n c : Int) : Ev (fun k => wT.f k W n c) (G9 W n c) := by
 simp only [wT.f, G9]; by_cases h : 1 ≤ c ∧ c ≤ 255
 · simp only [bn (show ¬ c < 1 by omega), bn (show ¬ c > 255 by omega), aj h]
   cases hs : jQ W n with
   | none => exact Ev.now _
   | some s =>
    simp only [Option.elim]; refine Ev.bind (Mz W c) ?_; simp only [aj h]
    cases hc : jQ W c with
    | none =>
     simp only [Option.elim]; show Ev (fun k => (copied.t k s).bind _) _; refine Ev.bind (g := fun k => copied.t k s) (a := (s.l, s.ps)) ?_ (Ev.now _); unfold copied.t; exact Ev.bind (EV (hW s (o5 hs))) (Ev.now _)
    | some _ => exact Ev.now _
 · rw [ag h]; by_cases h1 : c < 1
   · simp only [bd h1]; cases jQ W n <;> exact Ev.now _
   · simp only [bn h1, bd (show c > 255 by omega)]; cases jQ W n <;> exact Ev.now _
def sZ (W : FW) (n : Int) : List gu × Option Int := (jQ W n).elim ([], some 3) fun s => (s.l, none)
theorem zu {W : FW} (hW : GW W) (n : Int) : Ev (fun k => p8.f k W n) (sZ W n) := by
 simp only [p8.f, sZ]
 cases hs : jQ W n with
 | none => exact Ev.now _
 | some s => exact Ev.bind (EV (hW s (o5 hs))) (Ev.now _)
theorem QF : Ev (fun k => Ix.f k) ([] : FW) := Ev.now _
end Go.Proofs.Ytmjnenjeckeklaa.FlatP
namespace Go.Proofs.Ytmjnenjeckeklaa.FlatP
open Go Go.RowKit Go.Proofs.Ytmjnenjeckeklaa.Q Go.Proofs.YtmjnenjeckeklaaW.PrintWords Go.Proofs.Ytmjnenjeckeklaa.Bits Go.Proofs.Ytmjnenjeckeklaa.AreaLib Go.Proofs.Ytmjnenjeckeklaa.AreaEv Go.Proofs.Ytmjnenjeckeklaa.AreaRef Go.Proofs.Ytmjnenjeckeklaa.AreaFind Go.Proofs.Ytmjnenjeckeklaa.AreaEach
open Go.Proofs.Ytmjnenjeckeklaa.V hiding at_ jN
attribute [local irreducible] mI
theorem b3 {α : Type} {b c : Bool} {x y : α} (h : b = true) (k : c = true) : (bif b && c then x else y) = x := by rw [h, k]; rfl
abbrev En := Sp × List W8
def enc (e : En) : Ms := ⟨e.1.n, mI (at_ e.1.l), e.2⟩
abbrev wE (E : List En) : FW := E.map Prod.fst
abbrev mE (E : List En) : List Ms := E.map enc
structure Ge (e : En) : Prop where
  v : valid e.1.l
  w : e.2.length = 4096
  s : ∀ p i : Nat, p < 4096 → i < 8 → (e.2.getD p zw) i = jw zw e.1.ps (p : Int) i
  r : 1 ≤ e.1.n ∧ e.1.n ≤ 255
structure St (E : List En) : Prop where
  nd : (E.map fun e => e.1.n).Nodup
  g : ∀ e ∈ E, Ge e
theorem St.gw {E : List En} (h : St E) : GW (wE E) := by
 intro s hs; obtain ⟨e, he, rfl⟩ := aX.mp hs; exact (h.g e he).v
theorem get_none : ∀ {E : List En} {n : Int}, (∀ e ∈ E, e.1.n ≠ n) → jQ (wE E) n = none := by
 intro E n h; refine dy.mpr fun s hs => ?_; obtain ⟨e, he, rfl⟩ := aX.mp hs; simpa using h e he
theorem ou {A B : List En} {e : En} (h : ∀ x ∈ A, x.1.n ≠ e.1.n) : jQ (wE (A ++ e :: B)) e.1.n = some e.1 := by
 unfold jQ wE; rw [bk, aK, List.find?_append, show List.find? (fun s : Sp => s.n == e.1.n) (A.map Prod.fst) = none from get_none h]; rw [eZ]; exact dQ (dm e.1.n)
theorem split {E : List En} (h : St E) (n : Int) : (∀ e ∈ E, e.1.n ≠ n) ∨ ∃ A e B, E = A ++ e :: B ∧ e.1.n = n ∧ (∀ x ∈ A, x.1.n ≠ e.1.n) ∧ (∀ x ∈ B, x.1.n ≠ e.1.n) := by
 by_cases c : ∃ e ∈ E, e.1.n = n
 · obtain ⟨e, he, hn⟩ := c; obtain ⟨A, B, rfl⟩ := dN he; have nd := h.nd; rw [bk, aK, ax] at nd; obtain ⟨_, h2, h3⟩ := nd; rw [bh] at h2; refine .inr ⟨A, e, B, rfl, hn, fun x hx => h3 _ (dL hx) _ (aN ..), fun x hx e2 => h2.1 ?_⟩; rw [← e2]; exact dL (f := fun e : En => e.1.n) hx
 · exact .inl fun e he hn => c ⟨e, he, hn⟩
theorem St.app {E : List En} (h : St E) {e : En} (he : Ge e) (hn : ∀ x ∈ E, x.1.n ≠ e.1.n) : St (E ++ [e]) where
  nd := by
   rw [bk, ax]; refine ⟨h.nd, by simp, fun a ha b hb => ?_⟩; obtain ⟨x, hx, rfl⟩ := aX.mp ha; obtain ⟨y, hy, rfl⟩ := aX.mp hb; rw [aE.mp hy]; exact hn x hx
  g := fun x hx => (aT.mp hx).elim (h.g x) fun hx => by rw [aE.mp hx]; exact he
theorem St.put {A B : List En} {e e' : En} (h : St (A ++ e :: B)) (he : Ge e') (hn : e'.1.n = e.1.n) : St (A ++ e' :: B) where
  nd := by
   have := h.nd; rw [bk, aK] at this ⊢; rw [hn]; exact this
  g := fun x hx => by
    rcases aT.mp hx with hx | hx
    · exact h.g x (aT.mpr (.inl hx))
    · rcases bx.mp hx with rfl | hx
      · exact he
      · exact h.g x (aT.mpr (.inr (aU _ hx)))
theorem St.cut {A B : List En} {e : En} (h : St (A ++ e :: B)) : St (A ++ B) where
  nd := by
   have := h.nd; rw [bk, aK, ax] at this; rw [bk, ax]; exact ⟨this.1, (bh.mp this.2.1).2, fun a ha b hb => this.2.2 a ha b (aU _ hb)⟩
  g := fun x hx => h.g x ((aT.mp hx).elim (fun hx => aT.mpr (.inl hx)) fun hx => aT.mpr (.inr (aU _ hx)))
theorem Dd {A B : List En} {e : En} {g : Sp → Sp} {w : List W8} (hA : ∀ x ∈ A, x.1.n ≠ e.1.n) (hB : ∀ x ∈ B, x.1.n ≠ e.1.n) : oe e.1.n g (wE (A ++ e :: B)) = wE (A ++ (g e.1, w) :: B) := by
 unfold oe wE; rw [bW, bk, aK, bk, aK]; congr 1
 · exact bY fun x hx => ag (hA x hx)
 · rw [List.cons.injEq]; exact ⟨aj rfl, bY fun x hx => ag (hB x hx)⟩
theorem kP (A B : List En) (e : En) : mE (A ++ e :: B) = mE A ++ enc e :: mE B := by unfold mE; rw [bk, aK]
theorem Mx (E : List En) (e : En) : wE (E ++ [e]) = wE E ++ [e.1] := bk
theorem Fu (E : List En) (e : En) : mE (E ++ [e]) = mE E ++ [enc e] := bk
theorem getM (A B : List Ms) (x : Ms) : (A ++ x :: B).getD ((A.length : Int)).toNat ir = x := by simp
theorem Se (A B : List Ms) (x y : Ms) : (A ++ x :: B).set ((A.length : Int)).toNat y = A ++ y :: B := by simp
theorem IG (A B : List Ms) (x : Ms) : (decide (0 ≤ (A.length : Int)) && decide ((A.length : Int) < ((A ++ x :: B).length : Int))) = true := by
 rw [ay (by omega), ay (by simp only [aI, bC]; omega)]; rfl
theorem EU (T : List Ms) (n r : Int) (K : Nat) (M : List Ms) (hM : M.length ≤ 1000) : ∀ (suf pre : List Ms), M = pre ++ (suf ++ T) → (∀ x ∈ suf, x.n ≠ n) →
    (∀ k, kj.l1 K M n (k + 1) ((pre.length + suf.length : Nat) : Int) = some r) → ∀ k, suf.length < k → kj.l1 K M n k (pre.length : Int) = some r := by
 intro suf
 induction suf with
 | nil =>
  intro pre e h1 h2 k hk; obtain ⟨k, rfl⟩ : ∃ m, k = m + 1 := ⟨k - 1, by simp at hk; omega⟩; exact h2 k
 | cons x suf ih =>
  intro pre e h1 h2 k hk; obtain ⟨k, rfl⟩ : ∃ m, k = m + 1 := ⟨k - 1, by simp at hk; omega⟩; have hl : M.length = pre.length + (suf.length + 1 + T.length) := by rw [e]; simp; omega
  have hx : M.getD ((pre.length : Int)).toNat ir = x := by rw [e]; exact getM pre (suf ++ T) x
  have h3 := ih (pre ++ [x]) (by rw [e]; simp) (fun y hy => h1 y (aU _ hy)) (fun k => by
   rw [show (pre ++ [x]).length + suf.length = pre.length + (x :: suf).length by simp; omega]; exact h2 k) k (by simp at hk; omega)
  rw [kj.l1, bd (by omega), b2 (by omega) (by omega), hx, bf (by simpa using h1 x (aN ..)), Ce (by omega) (by omega)]; rw [← h3, aI, cx]; congr 1
theorem nU {E : List En} (hl : E.length ≤ 1000) {n : Int} (h : ∀ e ∈ E, e.1.n ≠ n) : Ev (fun k => kj.f k (mE E) n) (-1) := by
 refine ⟨1001, fun k hk => ?_⟩; have hm : (mE E).length = E.length := ak ..; refine EU [] n (-1) k (mE E) (by omega) (mE E) [] (by simp) (fun x hx => ?_) (fun k' => ?_) k (by omega)
 · obtain ⟨e, he, rfl⟩ := aX.mp hx; exact h e he
 · rw [kj.l1, bn (by simp)]
theorem nY {A B : List En} {e : En} (hl : (A ++ e :: B).length ≤ 1000) (h : ∀ x ∈ A, x.1.n ≠ e.1.n) : Ev (fun k => kj.f k (mE A ++ enc e :: mE B) e.1.n) ((mE A).length : Int) := by
 have hm : (mE A).length = A.length := ak ..; have hm2 : (mE B).length = B.length := ak ..; rw [aI, bC] at hl; refine ⟨1001, fun k hk => ?_⟩; refine EU (enc e :: mE B) e.1.n ((mE A).length : Int) k (mE A ++ enc e :: mE B) (by rw [aI, bC]; omega) (mE A) [] rfl (fun x hx => ?_) (fun k' => ?_) k (by omega)
 · obtain ⟨y, hy, rfl⟩ := aX.mp hx; exact h y hy
 · rw [kj.l1, cW, aG, bd (by rw [aI, bC]; omega), bt (IG _ _ _), getM, bt (by simp [enc])]
def Jz (c : Option Int) : Prop := c = none ∨ ∃ v, c = some v ∧ 1 ≤ v ∧ v ≤ 8
theorem nF {c : Option Int} (h : Jz c) : Ev (fun k => Code.f k c) (c.getD 0) := by
 rcases h with rfl | ⟨v, rfl, h1, h2⟩
 · exact Ev.now _
 · have go : ∀ (d : Nat) (i : Int), 1 ≤ i → i + d = v → ∀ K k, d < k → Code.l1 K (some v) k i = some v := by
    intro d
    induction d with
    | zero =>
     intro i h3 h4 K k hk; obtain ⟨k, rfl⟩ : ∃ m, k = m + 1 := ⟨k - 1, by omega⟩; rw [Code.l1, bd (by omega), bt (by simp; omega), show i = v by omega]
    | succ d ih =>
     intro i h3 h4 K k hk; obtain ⟨k, rfl⟩ : ∃ m, k = m + 1 := ⟨k - 1, by omega⟩; rw [Code.l1, bd (by omega), bf (by simp; omega), Ce (by omega) (by omega)]; exact ih (i + 1) (by omega) (by omega) K k (by omega)
   refine ⟨9, fun k hk => ?_⟩; exact go (v - 1).toNat 1 (by omega) (by omega) k k (by omega)
theorem O2 (c : Option Int) : ((c.getD 0) == (c.getD 0)) = true := by simp
theorem My (n : Int) (hn : 1 ≤ n ∧ n ≤ 255) : Ge ((⟨n, [], []⟩ : Sp), List.replicate 4096 zw) where
  r := hn
  v := ⟨⟨show (0 : Int) ≤ 4096 by omega, trivial⟩, by simp⟩
  w := eM ..
  s := fun p i hp hi => by
    rw [aH, List.getElem?_replicate]
    rw [aj hp]
    rfl
theorem JI {E : List En} (h : St E) (hl : E.length ≤ 1000) (n : Int) : ∃ E' c, St E' ∧ E'.length ≤ E.length + 1 ∧ Jz c ∧ Ev (fun k => V.Make.f k (wE E) n) (wE E', c) ∧ Ev (fun k => vJ.f k (mE E) n) (mE E', c.getD 0) := by
 have hm : (mE E).length = E.length := ak ..; have hw := G8 (wE E) n; unfold G7 at hw; by_cases c : 1 ≤ n ∧ n ≤ 255
 · rw [aj c] at hw
   have hM : ∀ r, Ev (fun k => (kj.f k (mE E) n).bind fun (r3 : Int) => (bif decide (r3 ≥ 0) then some (mE E, 4) else some (mE E ++ [enc ((⟨n, [], []⟩ : Sp), List.replicate 4096 zw)], 0))) r → Ev (fun k => vJ.f k (mE E) n) r := by
    intro r hr; refine Ev.congr (fun k => ?_) hr; unfold vJ.f; rw [bn (by omega), bn (by omega)]; refine bN _ (funext fun r3 => ?_); by_cases h3 : r3 ≥ 0
    · rw [bd h3, bd h3]
    · rw [bn h3, bn h3, b2 (by omega) (by omega), b2 (by omega) (by omega), bd (by omega)]; unfold enc; rw [show mI (at_ (⟨n, [], []⟩ : Sp).l) = List.replicate 4096 S6 from AreaRef.blank.symm]; rfl
   rcases split h n with hn | ⟨A, e, B, rfl, rfl, hA, hB⟩
   · rw [get_none hn] at hw; refine ⟨E ++ [((⟨n, [], []⟩ : Sp), List.replicate 4096 zw)], none, h.app (My n c) hn, by rw [aI]; exact aM _, .inl rfl, ?_, hM _ (Ev.bind (nU hl hn) ?_)⟩
     · rw [Mx]; exact hw
     · rw [Fu]; exact Ev.now _
   · rw [ou hA] at hw; refine ⟨_, some 4, h, by omega, .inr ⟨4, rfl, by omega, by omega⟩, hw, hM _ (Ev.bind (by rw [kP]; exact nY hl hA) ?_)⟩; simp only [bd (show ((mE A).length : Int) ≥ 0 by omega)]; exact Ev.now _
 · rw [ag c] at hw; refine ⟨E, some 1, h, by omega, .inr ⟨1, rfl, by omega, by omega⟩, hw, Ev.congr (f := fun _ => some (mE E, 1)) (fun k => ?_) (Ev.now _)⟩; unfold vJ.f; by_cases c1 : n < 1
   · rw [bd c1]
   · rw [bn c1, bd (by omega)]
theorem O3 (x : Ms) (h1 : x.p.length ≤ 1000000) (h2 : x.w.length ≤ 1000000) (k : Nat) (d : Int) : sy.f k x d = some ⟨d, x.p, x.w⟩ := by
 unfold sy.f; rw [bd h1, bd h2]
theorem copy_eq {e : En} (he : Ge e) (k : Nat) (d : Int) : sy.f k (enc e) d = some (enc ((⟨d, e.1.l, e.1.ps⟩ : Sp), e.2)) :=
  O3 (enc e) (bR (cp (lT (at_ e.1.l))) (by omega)) (bR (cp he.w) (by omega)) k d
theorem JJ {E : List En} (h : St E) (hl : E.length ≤ 1000) (n d : Int) : ∃ E' c, St E' ∧ E'.length ≤ E.length + 1 ∧ Jz c ∧ Ev (fun k => V.wT.f k (wE E) n d) (wE E', c) ∧ Ev (fun k => vK.f k (mE E) n d) (mE E', c.getD 0) := by
 have hm : (mE E).length = E.length := ak ..; have hw := He h.gw n d; unfold G9 at hw; by_cases c : 1 ≤ d ∧ d ≤ 255
 · rw [aj c] at hw
   have hM : ∀ r, Ev (fun k => (kj.f k (mE E) n).bind fun (r3 : Int) => (bif decide (r3 < 0) then some (mE E, 3) else (kj.f k (mE E) d).bind fun (r4 : Int) => (bif decide (r4 ≥ 0) then some (mE E, 4) else (bif decide (0 ≤ r3) && decide (r3 < ((mE E).length : Int)) then (sy.f k ((mE E).getD (r3).toNat ir) d).bind fun (r7 : Ms) => (bif decide ((mE E).length ≤ 100000) then some (((mE E) ++ [r7]), 0) else none) else none)))) r → Ev (fun k => vK.f k (mE E) n d) r := by
    intro r hr; refine Ev.congr (fun k => ?_) hr; unfold vK.f; rw [bn (by omega), bn (by omega)]
   rcases split h n with hn | ⟨A, e, B, rfl, rfl, hA, hB⟩
   · rw [get_none hn] at hw; exact ⟨E, some 3, h, by omega, .inr ⟨3, rfl, by omega, by omega⟩, hw, hM _ (Ev.bind (nU hl hn) (Ev.now _))⟩
   · rw [ou hA] at hw; simp only [Option.elim] at hw; have he := h.g e (by simp); have f1 : Ev (fun k => kj.f k (mE (A ++ e :: B)) e.1.n) ((mE A).length : Int) := by rw [kP]; exact nY hl hA
     rcases split h d with hd | ⟨A2, e2, B2, hE2, rfl, hA2, hB2⟩
     · rw [get_none hd] at hw; refine ⟨(A ++ e :: B) ++ [((⟨d, e.1.l, e.1.ps⟩ : Sp), e.2)], none, h.app ⟨he.v, he.w, he.s, c⟩ hd, by rw [aI]; exact aM _, .inl rfl, ?_, hM _ (Ev.bind f1 ?_)⟩
       · rw [Mx]; exact hw
       · simp only [bn (show ¬ ((mE A).length : Int) < 0 by omega)]; refine Ev.bind (nU hl hd) ?_; simp only [bn (show ¬ (-1 : Int) ≥ 0 by omega)]; refine Ev.congr (f := fun _ => some (mE ((A ++ e :: B) ++ [((⟨d, e.1.l, e.1.ps⟩ : Sp), e.2)]), 0)) (fun k => ?_) (Ev.now _); rw [b2 (p := (0 : Int) ≤ ((mE A).length : Int)) (by omega) (by rw [kP, aI, bC]; omega), kP, getM]; rw [copy_eq he, aq, bd (by rw [← kP, hm]; omega), Fu, kP]
     · have hg : jQ (wE (A ++ e :: B)) e2.1.n = some e2.1 := by rw [hE2]; exact ou hA2
       rw [hg] at hw; refine ⟨_, some 4, h, by omega, .inr ⟨4, rfl, by omega, by omega⟩, hw, hM _ (Ev.bind f1 ?_)⟩; simp only [bn (show ¬ ((mE A).length : Int) < 0 by omega)]; refine Ev.bind (a := ((mE A2).length : Int)) (by rw [hE2, kP]; exact nY (by rw [← hE2]; exact hl) hA2) ?_; simp only [bd (show ((mE A2).length : Int) ≥ 0 by omega)]; exact Ev.now _
 · rw [ag c] at hw; refine ⟨E, some 1, h, by omega, .inr ⟨1, rfl, by omega, by omega⟩, hw, Ev.congr (f := fun _ => some (mE E, 1)) (fun k => ?_) (Ev.now _)⟩; unfold vK.f; by_cases c1 : d < 1
   · rw [bd c1]
   · rw [bn c1, bd (by omega)]
theorem Mw {E : List En} (h : St E) (hl : E.length ≤ 1000) (n : Int) : ∃ E' c, St E' ∧ E'.length ≤ E.length + 1 ∧ Jz c ∧ Ev (fun k => V.End.f k (wE E) n) (wE E', c) ∧ Ev (fun k => Iz.f k (mE E) n) (mE E', c.getD 0) := by
 have hw := SD (wE E) n; unfold SE at hw; rcases split h n with hn | ⟨A, e, B, rfl, rfl, hA, hB⟩
 · rw [get_none hn] at hw; exact ⟨E, some 3, h, by omega, .inr ⟨3, rfl, by omega, by omega⟩, hw, Ev.bind (nU hl hn) (Ev.now _)⟩
 · rw [ou hA] at hw
   have hf : (wE (A ++ e :: B)).filter (fun s => s.n != e.1.n) = wE (A ++ B) := by
    rw [wE, wE, bk, aK, List.filter_append, eA (by simp), bk]; congr 1
    · refine di.mpr fun s hs => ?_; obtain ⟨x, hx, rfl⟩ := aX.mp hs; simpa using hA x hx
    · refine di.mpr fun s hs => ?_; obtain ⟨x, hx, rfl⟩ := aX.mp hs; simpa using hB x hx
   simp only [Option.elim] at hw; rw [hf] at hw; refine ⟨A ++ B, none, h.cut, by simp only [aI, bC]; omega, .inl rfl, hw, ?_⟩; have hma : (mE A).length = A.length := ak ..; have hmb : (mE B).length = B.length := ak ..; rw [aI, bC] at hl; have hlen : (mE A ++ enc e :: mE B).length = A.length + (B.length + 1) := by rw [aI, bC, hma, hmb]
   rw [kP]; refine Ev.bind (nY (by rw [aI, bC]; omega) hA) (Ev.congr (f := fun _ => some (mE (A ++ B), 0)) (fun k => ?_) (Ev.now _)); rw [Ce (by omega) (by omega), show ((mE A).length : Int).toNat = (mE A).length by omega, show (((mE A).length : Int) + 1).toNat = (mE A).length + 1 by omega]; rw [bn (by omega), b2 (by omega) (by omega), bd (by omega), b2 (by omega) (by omega), bd (by omega), bd (by omega), show mE (A ++ B) = mE A ++ mE B from bk]; congr 2; congr 1
   · rw [Nat.sub_zero, aG, cl, List.take_left' rfl]
   · rw [aG, show mE A ++ enc e :: mE B = (mE A ++ [enc e]) ++ mE B by simp, List.drop_left' (by simp)]; refine cP ?_; rw [aI, aI, cx]; omega
end Go.Proofs.Ytmjnenjeckeklaa.FlatP
namespace Go.Proofs.Ytmjnenjeckeklaa.FlatP
open Go Go.RowKit Go.Proofs.Ytmjnenjeckeklaa.Q Go.Proofs.YtmjnenjeckeklaaW.PrintWords Go.Proofs.Ytmjnenjeckeklaa.Bits Go.Proofs.Ytmjnenjeckeklaa.AreaLib Go.Proofs.Ytmjnenjeckeklaa.AreaEv Go.Proofs.Ytmjnenjeckeklaa.AreaRef Go.Proofs.Ytmjnenjeckeklaa.AreaFind Go.Proofs.Ytmjnenjeckeklaa.AreaEach
open Go.Proofs.Ytmjnenjeckeklaa.V hiding at_ jN
attribute [local irreducible] mI
theorem wB (q f t : Int) : ∀ ps : List (Int × W8), jw zw (ps.filter fun p => !qR f t p.1) q = if f ≤ q ∧ q < t then zw else jw zw ps q
  | [] => by simp [jw]
  | p :: ps => by
    have ih := wB q f t ps
    by_cases c : f ≤ p.1 ∧ p.1 < t
    · rw [eA (by simp [qR, c.1, c.2]), ih]
      by_cases d : p.1 = q
      · rw [aj (by omega), aj (by omega)]
      · rw [show jw zw (p :: ps) q = jw zw ps q by unfold jw; rw [dR (by simpa using d)]]
    · rw [fC (by simp only [qR, cH, fK, fD]; omega)]
      by_cases d : p.1 = q
      · unfold jw
        rw [dQ (by simpa using d), dQ (by simpa using d), ag (by omega)]
      · rw [show ∀ l, jw zw (p :: l) q = jw zw l q from fun l => by unfold jw; rw [dR (by simpa using d)], ih]
        rw [show jw zw (p :: ps) q = jw zw ps q by unfold jw; rw [dR (by simpa using d)]]
theorem filter_all (ps : List (Int × W8)) : (ps.filter fun p => !qR 0 0 p.1) = ps := by
 refine di.mpr fun p _ => ?_; simp only [qR, cH, fK, fD]; omega
theorem qg (p : Int × W8) (ps : List (Int × W8)) (q : Int) : jw zw (p :: ps) q = if p.1 = q then p.2 else jw zw ps q := by
 unfold jw; by_cases c : p.1 = q
 · rw [aj c, dQ (by simpa using c)]; rfl
 · rw [ag c, dR (by simpa using c)]
theorem GN (n : Int) (b : W8) (ps : List (Int × W8)) (q : Int) : jw zw (uo n b ps) q = if q = n then b else jw zw ps q := by
 have hm : ∀ ps : List (Int × W8), jw zw (ps.map fun p => if p.1 = n then (n, b) else p) q = if q = n ∧ ps.any (fun p => p.1 == n) = true then b else jw zw ps q := by
  intro ps
  induction ps with
  | nil => simp [jw]
  | cons p ps ih =>
   rw [aK, qg, qg, ih, fP]; by_cases c : p.1 = n
   · rw [aj c]; by_cases d : q = n
     · rw [aj d.symm, aj ⟨d, by simp [c]⟩]
     · rw [ag (fun e => d e.symm), ag (fun e => d e.1), ag (fun e => d e.1), ag (fun e => d (by omega))]
   · rw [ag c]; by_cases d : p.1 = q
     · rw [aj d, aj d, ag (fun e => c (by omega))]
     · rw [ag d, ag d, show (p.1 == n) = false by simpa using c, ff]
 have ha : ∀ ps : List (Int × W8), ps.any (fun p => p.1 == n) = false → jw zw (ps ++ [(n, b)]) q = if q = n then b else jw zw ps q := by
  intro ps
  induction ps with
  | nil =>
   intro _; rw [cn, qg]; by_cases d : q = n
   · rw [aj d.symm, aj d]
   · rw [ag (fun e => d e.symm), ag d]
  | cons p ps ih =>
   intro h; rw [fP, Bool.or_eq_false_iff] at h; have h1 : ¬ p.1 = n := by simpa using h.1
   rw [bS, qg, qg, ih h.2]; by_cases d : q = n
   · rw [aj d, aj d, ag (by omega)]
   · rw [ag d, ag d]
 unfold uo; by_cases c : ps.any (fun p => p.1 == n) = true
 · rw [aj c, hm]; simp [c]
 · rw [ag c, ha ps (cw.mpr c)]
def zr : List W8 → Int → Nat → List W8
  | w, _, 0 => w
  | w, i, d + 1 => zr (w.set i.toNat zw) (i + 1) d
theorem Mh : ∀ (d : Nat) (w : List W8) (i : Int), (zr w i d).length = w.length
  | 0, _, _ => rfl
  | d + 1, w, i => by rw [zr, Mh d, bV]
theorem EK (w : List W8) (i p : Nat) (v : W8) (hp : p < w.length) : (w.set i v).getD p zw = if i = p then v else w.getD p zw := by
 rw [aH, aH, List.getElem?_set]; by_cases c : i = p
 · rw [aj c, aj (by omega), aj c]; rfl
 · rw [ag c, ag c]
theorem Mi : ∀ (d : Nat) (w : List W8) (i : Int) (p : Nat), 0 ≤ i → p < w.length → (zr w i d).getD p zw = if i ≤ (p : Int) ∧ (p : Int) < i + d then zw else w.getD p zw
  | 0, w, i, p, _, _ => by rw [zr, ag (by omega)]
  | d + 1, w, i, p, h0, hp => by
    rw [zr, Mi d _ _ _ (by omega) (by rw [bV]; exact hp), EK _ _ _ _ hp]
    by_cases c : i ≤ (p : Int) ∧ (p : Int) < i + (d + 1 : Nat)
    · rw [aj c]
      by_cases c2 : i.toNat = p
      · rw [aj c2]; split <;> rfl
      · rw [aj (by omega)]
    · rw [ag c, ag (by omega), ag (by omega)]
theorem Ik {A B : List Ms} {x : Ms} {z : List gu} (hz : canon z) : Ev (fun k => fits.f k (A ++ x :: B) (A.length : Int) (mI (at_ z))) (if z.length ≤ 64 then (A ++ { x with p := mI (at_ z) } :: B, 0) else (A ++ x :: B, 5)) := by
 obtain ⟨y, h1, h2, h3⟩ := Lr (at_ z); obtain rfl : y = z := zG h1 hz h2; unfold fits.f; refine Ev.bind h3 ?_; by_cases c : y.length ≤ 64
 · rw [aj c, ay c]; simp only [IG, getM, Se]; exact Ev.now _
 · rw [ag c, aY c]; exact Ev.now _
def Au (g : Int → Option At) (v : Option At) (f t : Int) : Int → Option At := fun q => if f ≤ q ∧ q < t then v else g q
theorem Sf (K : Nat) (M M2 : List Ms) (n f t : Int) (v : Option At) (r1 : Int) (r2 : Bool) (ht : t ≤ 4096) : ∀ (d : Nat) (i : Int) (g : Int → Option At), 0 ≤ i → i + d = t → ∀ k, d < k →
    mJ.l1 K M n f t (oc v) r1 r2 k M2 (mI g) i = (fits.f K M2 r1 (mI (Au g v i t))).bind fun r9 => mJ.l2 K M n f t (oc v) r1 r2 M2 (mI (Au g v i t)) t r9 K r9.1 f := by
 intro d
 induction d with
 | zero =>
  intro i g hi hd k hk; obtain ⟨k, rfl⟩ : ∃ m, k = m + 1 := ⟨k - 1, by omega⟩; obtain rfl : i = t := by omega
  rw [mJ.l1, bn (by omega), show mI (Au g v i i) = mI g from pV (fun p _ _ => ag (by omega))]
 | succ d ih =>
  intro i g hi hd k hk; obtain ⟨k, rfl⟩ : ∃ m, k = m + 1 := ⟨k - 1, by omega⟩; rw [mJ.l1, bd (by omega), b2 hi (by rw [lT]; omega), CT g i v hi, Ce (by omega) (by omega), ih (i + 1) _ (by omega) (by omega) k (by omega)]
  rw [show mI (Au (AreaRef.jN g i v) v (i + 1) t) = mI (Au g v i t) from pV (fun p _ _ => by
   unfold Au AreaRef.jN; by_cases c : p = i
   · rw [ag (by omega), aj c, aj (by omega)]
   · rw [ag c]; by_cases c2 : i + 1 ≤ p ∧ p < t
     · rw [aj c2, aj (by omega)]
     · rw [ag c2, ag (by omega)])]
theorem Sg (K : Nat) (M M2 : List Ms) (n f t : Int) (a4 : j5) (r2 : Bool) (v6 : List j5) (v7 : Int) (r9 : List Ms × Int) (h9 : r9.2 = 0) (A B : List Ms) (ht : t ≤ 4096) : ∀ (d : Nat) (i : Int) (x : Ms), x.w.length = 4096 → 0 ≤ i → i + d = t → ∀ k, d < k →
    mJ.l2 K M n f t a4 (A.length : Int) r2 M2 v6 v7 r9 k (A ++ x :: B) i = some (A ++ { x with w := zr x.w i d } :: B, 0) := by
 intro d
 induction d with
 | zero =>
  intro i x hx hi hd k hk; obtain ⟨k, rfl⟩ : ∃ m, k = m + 1 := ⟨k - 1, by omega⟩; rw [mJ.l2, bn (by omega), h9]; rfl
 | succ d ih =>
  intro i x hx hi hd k hk; obtain ⟨k, rfl⟩ : ∃ m, k = m + 1 := ⟨k - 1, by omega⟩; have h1 := ih (i + 1) { x with w := x.w.set i.toNat zw } (by rw [bV]; exact hx) (by omega) (by omega) k (by omega); rw [mJ.l2, bd (by omega), bt (by rw [h9]; rfl), bt (IG _ _ _), getM, b2 hi (by omega), Se, Ce (by omega) (by omega), h1]; rfl
theorem Mj {e : En} (he : Ge e) {p i : Int} (p0 : 0 ≤ p) (p1 : p < 4096) (i0 : 0 ≤ i) (i1 : i < 8) : (e.2.getD p.toNat zw) i.toNat = jw zw e.1.ps p i.toNat := by
 have := he.s p.toNat i.toNat (by omega) (by omega); rw [this, show ((p.toNat : Nat) : Int) = p by omega]
theorem EL {E : List En} (h : St E) (hl : E.length ≤ 1000) (n f t : Int) (v : Option At) (zl : List gu → List gu)
    (hz : ∀ l, canon l → jV f t → canon (zl l) ∧ ∀ p, at_ (zl l) p = if f ≤ p ∧ p < t then v else at_ l p) :
    ∃ E' c, St E' ∧ E'.length ≤ E.length ∧ Jz c ∧ qv (wE E) n (fun l => if jV f t then fin (zl l) else ([], some 1)) f t = (wE E', c) ∧ Ev (fun k => mJ.f k (mE E) n f t (oc v)) (mE E', c.getD 0) := by
 unfold qv mJ.f; rcases split h n with hn | ⟨A, e, B, rfl, rfl, hA, hB⟩
 · rw [get_none hn]; exact ⟨E, some 3, h, by omega, .inr ⟨3, rfl, by omega, by omega⟩, rfl, Ev.bind (nU hl hn) (Ev.now _)⟩
 · rw [ou hA]; have he := h.g e (by simp); simp only [Option.elim]
   have hb : ∀ r, Ev (fun k => (bif !(decide (jV f t)) then some (mE A ++ enc e :: mE B, 1) else mJ.l1 k (mE A ++ enc e :: mE B) e.1.n f t (oc v) ((mE A).length : Int) (decide (jV f t)) k (mE A ++ enc e :: mE B) (mI (at_ e.1.l)) f)) r →
       Ev (fun k => (kj.f k (mE (A ++ e :: B)) e.1.n).bind fun (r1 : Int) => (bif decide (r1 < 0) then some (mE (A ++ e :: B), 3) else (jf.f f t).bind fun (r2 : Bool) => (bif !r2 then some (mE (A ++ e :: B), 1) else (bif decide (0 ≤ r1) && decide (r1 < ((mE (A ++ e :: B)).length : Int)) then (bif decide (([] : List j5).length + (((mE (A ++ e :: B)).getD (r1).toNat ir).p).length ≤ 1000000) then mJ.l1 k (mE (A ++ e :: B)) e.1.n f t (oc v) r1 r2 k (mE (A ++ e :: B)) (([] : List j5) ++ (((mE (A ++ e :: B)).getD (r1).toNat ir).p)) f else none) else none)))) r := by
     intro r hr
     rw [kP]
     refine Ev.bind (nY hl hA) (Ev.congr (fun k => ?_) hr)
     have h1 := lT (at_ e.1.l)
     rw [bn (by omega), DS, aq]
     cases decide (jV f t) with
     | false => rfl
     | true =>
       rw [bt (IG _ _ _), getM, bd (by show 0 + (mI (at_ e.1.l)).length ≤ 1000000; omega)]
       rfl
   by_cases hs : jV f t
   · obtain ⟨z1, z2⟩ := hz e.1.l he.v.1 hs; obtain ⟨s0, s1, s2⟩ := hs; have hs : jV f t := ⟨s0, s1, s2⟩; simp only [aj hs]; obtain ⟨K, hK⟩ := Ik (A := mE A) (B := mE B) (x := enc e) z1; have hg : mI (Au (at_ e.1.l) v f t) = mI (at_ (zl e.1.l)) := pV fun p _ _ => (z2 p).symm
     have run : ∀ k, K ≤ k → 4097 ≤ k → mJ.l1 k (mE A ++ enc e :: mE B) e.1.n f t (oc v) ((mE A).length : Int) (decide (jV f t)) k (mE A ++ enc e :: mE B) (mI (at_ e.1.l)) f = (if (zl e.1.l).length ≤ 64 then some (mE A ++ { enc e with p := mI (at_ (zl e.1.l)), w := zr e.2 f (t - f).toNat } :: mE B, 0) else some (mE A ++ enc e :: mE B, 5)) := by
      intro k h1 h2; have h3 := hK k h1; dsimp only at h3; rw [Sf k _ _ _ f t v _ _ s2 (t - f).toNat f (at_ e.1.l) s0 (by omega) k (by omega), hg, h3, aq]; by_cases c : (zl e.1.l).length ≤ 64
      · rw [aj c, aj c]; rw [Sg k _ _ _ f t _ _ _ _ _ rfl (mE A) (mE B) s2 (t - f).toNat f { enc e with p := mI (at_ (zl e.1.l)) } he.w s0 (by omega) k (by omega)]; rfl
      · rw [ag c, ag c]; obtain ⟨k, rfl⟩ : ∃ m, k = m + 1 := ⟨k - 1, by omega⟩; rw [mJ.l2, bd s1, bf (show ((mE A ++ enc e :: mE B, (5 : Int)).2 == 0) = false from rfl)]
     unfold EM fin; by_cases c : (zl e.1.l).length ≤ 64
     · rw [aj c, aj rfl]; refine ⟨A ++ (({ e.1 with l := zl e.1.l, ps := e.1.ps.filter fun p => !qR f t p.1 } : Sp), zr e.2 f (t - f).toNat) :: B, none, h.put (e' := (({ e.1 with l := zl e.1.l, ps := e.1.ps.filter fun p => !qR f t p.1 } : Sp), zr e.2 f (t - f).toNat)) ⟨⟨z1, c⟩, ?_, fun p i hp hi => ?_, he.r⟩ rfl, ?_, .inl rfl, ?_, hb _ ⟨K + 4097, fun k hk => ?_⟩⟩
       · show (zr e.2 f (t - f).toNat).length = 4096; rw [Mh, he.w]
       · show (zr e.2 f (t - f).toNat).getD p zw i = jw zw (e.1.ps.filter fun p => !qR f t p.1) p i; rw [Mi _ _ _ _ s0 (by rw [he.w]; exact hp), wB, show f + ((t - f).toNat : Nat) = t by omega]; by_cases c2 : f ≤ (p : Int) ∧ (p : Int) < t
         · rw [aj c2, aj c2]
         · rw [ag c2, ag c2]; exact he.s p i hp hi
       · simp
       · rw [Dd (g := fun s => { s with l := zl e.1.l, ps := s.ps.filter fun p => !qR f t p.1 }) (w := zr e.2 f (t - f).toNat) hA hB]
       · rw [ay hs]; rw [ay hs] at run; refine (run k (by omega) (by omega)).trans ?_; rw [aj c, kP]; rfl
     · rw [ag c, ag (by simp)]; refine ⟨_, some 5, h, by omega, .inr ⟨5, rfl, by omega, by omega⟩, rfl, hb _ ⟨K + 4097, fun k hk => ?_⟩⟩; rw [ay hs]; rw [ay hs] at run; refine (run k (by omega) (by omega)).trans ?_; rw [ag c, kP]; rfl
   · simp only [ag hs]; refine ⟨_, some 1, h, by omega, .inr ⟨1, rfl, by omega, by omega⟩, rfl, hb _ ?_⟩; rw [aY hs, kP]; exact Ev.now _
theorem EN {E : List En} (h : St E) (hl : E.length ≤ 1000) (n f t : Int) (m : Bool) (a : l6) (b : Bool) (φ : gu → gu) (ψ : At → At) (kp : keeps φ ψ) (hψ : ψ = if m = true then BE a.f0 a.f1 else BF b) :
    ∃ E' c, St E' ∧ E'.length ≤ E.length ∧ Jz c ∧ qv (wE E) n (OT φ f t) 0 0 = (wE E', c) ∧ Ev (fun k => pK.f k (mE E) n f t m a b) (mE E', c.getD 0) := by
 unfold qv pK.f OT; rcases split h n with hn | ⟨A, e, B, rfl, rfl, hA, hB⟩
 · rw [get_none hn]; exact ⟨E, some 3, h, by omega, .inr ⟨3, rfl, by omega, by omega⟩, rfl, Ev.bind (nU hl hn) (Ev.now _)⟩
 · rw [ou hA]; have he := h.g e (by simp); simp only [Option.elim]
   have hb : ∀ r, Ev (fun k => (bif !(decide (jV f t)) then some (mE A ++ enc e :: mE B, 1) else (jo.f k (mI (at_ e.1.l)) f t m a b).bind fun (r5 : (List j5) × Bool) => (bif !r5.2 then some (mE A ++ enc e :: mE B, 3) else (fits.f k (mE A ++ enc e :: mE B) ((mE A).length : Int) r5.1).bind fun (r6 : (List Ms) × Int) => some (r6.1, r6.2)))) r →
       Ev (fun k => (kj.f k (mE (A ++ e :: B)) e.1.n).bind fun (r1 : Int) => (bif decide (r1 < 0) then some (mE (A ++ e :: B), 3) else (jf.f f t).bind fun (r2 : Bool) => (bif !r2 then some (mE (A ++ e :: B), 1) else (bif decide (0 ≤ r1) && decide (r1 < ((mE (A ++ e :: B)).length : Int)) then (bif decide (([] : List j5).length + (((mE (A ++ e :: B)).getD (r1).toNat ir).p).length ≤ 1000000) then (jo.f k (([] : List j5) ++ (((mE (A ++ e :: B)).getD (r1).toNat ir).p)) f t m a b).bind fun (r5 : (List j5) × Bool) => (bif !r5.2 then some (mE (A ++ e :: B), 3) else (fits.f k (mE (A ++ e :: B)) r1 r5.1).bind fun (r6 : (List Ms) × Int) => some (r6.1, r6.2)) else none) else none)))) r := by
     intro r hr
     rw [kP]
     refine Ev.bind (nY hl hA) (Ev.congr (fun k => ?_) hr)
     have h1 := lT (at_ e.1.l)
     rw [bn (by omega), DS, aq]
     cases decide (jV f t) with
     | false => rfl
     | true =>
       rw [bt (IG _ _ _), getM, bd (by show 0 + (mI (at_ e.1.l)).length ≤ 1000000; omega)]
       rfl
   by_cases hs : jV f t
   · simp only [aj hs]; rw [ay hs] at hb; by_cases cs : mB (cut f t e.1.l) < t - f
     · rw [aj cs]; have hno := (Dv he.v.1 hs).mp cs; rcases PZ hs m a b (at_ e.1.l) ψ hψ with ⟨h1, _⟩ | ⟨_, h2⟩
       · obtain ⟨p, p1, p2, p3⟩ := hno; exact absurd p3 (h1 p p1 p2)
       · refine ⟨_, some 3, h, by omega, .inr ⟨3, rfl, by omega, by omega⟩, rfl, hb _ ?_⟩; rw [kP]; exact Ev.bind h2 (Ev.now _)
     · rw [ag cs]; have hno : ¬ _ := fun x => cs ((Dv he.v.1 hs).mpr x); have z1 := Fq kp he.v.1 hs; have z2 := Na kp he.v.1 hs; have hg : mI (sd (at_ e.1.l) ψ f t) = mI (at_ (qw φ e.1.l f t)) := pV fun p _ _ => (z2 p).symm; rcases PZ hs m a b (at_ e.1.l) ψ hψ with ⟨_, h2⟩ | ⟨h1, _⟩
       · rw [hg] at h2; unfold EM fin; have fe := Ik (A := mE A) (B := mE B) (x := enc e) z1; by_cases c : (qw φ e.1.l f t).length ≤ 64
         · rw [aj c, aj rfl]; rw [aj c] at fe; refine ⟨A ++ (({ e.1 with l := qw φ e.1.l f t, ps := e.1.ps.filter fun p => !qR 0 0 p.1 } : Sp), e.2) :: B, none, h.put (e' := (({ e.1 with l := qw φ e.1.l f t, ps := e.1.ps.filter fun p => !qR 0 0 p.1 } : Sp), e.2)) ⟨⟨z1, c⟩, he.w, ?_, he.r⟩ rfl, ?_, .inl rfl, ?_, hb _ (Ev.bind h2 (Ev.bind fe ?_))⟩
           · show ∀ p i : Nat, p < 4096 → i < 8 → (e.2.getD p zw) i = jw zw (e.1.ps.filter fun p => !qR 0 0 p.1) p i; rw [filter_all]; exact he.s
           · simp
           · rw [Dd (g := fun s => { s with l := qw φ e.1.l f t, ps := s.ps.filter fun p => !qR 0 0 p.1 }) (w := e.2) hA hB]
           · rw [kP]; exact Ev.now _
         · rw [ag c, ag (by simp)]; rw [ag c] at fe; refine ⟨_, some 5, h, by omega, .inr ⟨5, rfl, by omega, by omega⟩, rfl, hb _ (Ev.bind h2 (Ev.bind fe ?_))⟩; rw [kP]; exact Ev.now _
       · exact absurd h1 hno
   · simp only [ag hs]; refine ⟨_, some 1, h, by omega, .inr ⟨1, rfl, by omega, by omega⟩, rfl, hb _ ?_⟩; rw [aY hs, kP]; exact Ev.now _
end Go.Proofs.Ytmjnenjeckeklaa.FlatP
namespace Go.Proofs.Ytmjnenjeckeklaa.FlatP
open Go Go.RowKit Go.Proofs.Ytmjnenjeckeklaa.Q Go.Proofs.YtmjnenjeckeklaaW.PrintWords Go.Proofs.Ytmjnenjeckeklaa.Bits Go.Proofs.Ytmjnenjeckeklaa.AreaLib Go.Proofs.Ytmjnenjeckeklaa.AreaEv Go.Proofs.Ytmjnenjeckeklaa.AreaRef Go.Proofs.Ytmjnenjeckeklaa.AreaFind Go.Proofs.Ytmjnenjeckeklaa.AreaEach
open Go.Proofs.Ytmjnenjeckeklaa.V hiding at_ jN
attribute [local irreducible] mI
theorem uW (c n : Int) (h0 : -9223372036854775808 ≤ c) (h1 : c ≤ 9223372036854775807) (hn : 0 < n) (hn2 : n ≤ 1000000) : ∃ r, iS.f c n = some r ∧ 0 ≤ r ∧ r < n := by
 unfold iS.f; have hz : ¬ n = 0 := by omega
 by_cases hc : c < 0
 · rw [aj hc, ag hz]; refine ⟨_, rfl, ?_⟩; rw [Bits.j8 (n := c + 1) (by omega) (by omega), Bits.j8 (n := -(c + 1)) (by omega) (by omega)]; rw [fh (by omega)]; exact ⟨Int.emod_nonneg _ (by omega), Int.emod_lt_of_pos _ hn⟩
 · rw [ag hc, ag hz]; refine ⟨_, rfl, ?_⟩; rw [fh (by omega)]; exact ⟨Int.emod_nonneg _ (by omega), Int.emod_lt_of_pos _ hn⟩
theorem Mu {l : List gu} (h : valid l) {p : Int} {a : At} (ha : at_ l p = some a) : 0 ≤ p ∧ p < 4096 := by
 by_cases c : p < 0
 · rw [p7 h.1.1 c] at ha; cases ha
 · by_cases d : 4096 ≤ p
   · rw [sX h.1.1 d] at ha; cases ha
   · omega
theorem GR (g : Int → Option At) {p : Int} (p0 : 0 ≤ p) (p1 : p < 4096) : (mI g).getD p.toNat iV = oc (g p) := by rw [wg, pN g p p0 p1]
theorem ER {E : List En} (hl : E.length ≤ 1000) {n : Int} (h : ∀ e ∈ E, e.1.n ≠ n) (p i : Int) : Ev (fun k => At.f k (mE E) n p i) (0, 3) := by
 unfold At.f; exact Ev.bind (nU hl h) (Ev.now _)
theorem Dh {A B : List En} {e : En} (he : Ge e) (hl : (A ++ e :: B).length ≤ 1000) (h : ∀ x ∈ A, x.1.n ≠ e.1.n) (p i : Int) : Ev (fun k => At.f k (mE A ++ enc e :: mE B) e.1.n p i) (if 0 ≤ i ∧ i < 8 then (if at_ e.1.l p = none then (0, 3) else (((mE A).length : Int), 0)) else (0, 1)) := by
 unfold At.f; refine Ev.bind (nY hl h) ?_; have hp := lT (at_ e.1.l); simp only [bn (show ¬ ((mE A).length : Int) < 0 by omega), IG, getM, dF]; by_cases c : 0 ≤ i ∧ i < 8
 · simp only [bn (show ¬ i < 0 by omega), bn (show ¬ i > 7 by omega), aj c]; by_cases p0 : p < 0
   · simp only [bd p0, aj (p7 he.v.1.1 p0)]; exact Ev.now _
   · by_cases p1 : p > 4095
     · simp only [bn p0, bd p1, aj (sX he.v.1.1 (show (4096 : Int) ≤ p by omega))]; exact Ev.now _
     · have hq : (0 ≤ p ∧ p < ((enc e).p.length : Int)) := ⟨by omega, by show p < ((mI (at_ e.1.l)).length : Int); omega⟩; have hg : (enc e).p.getD p.toNat iV = oc (at_ e.1.l p) := GR _ (by omega) (by omega); simp only [bn p0, bn p1, b2 hq.1 hq.2, hg]
       cases at_ e.1.l p with
       | none => exact Ev.now _
       | some a => rw [ag (by simp)]; exact Ev.now _
 · rw [ag c]; by_cases c1 : i < 0
   · simp only [bd c1]; exact Ev.now _
   · simp only [bn c1, bd (show i > 7 by omega)]; exact Ev.now _
theorem two {wf : Nat → Option (FW × Option Int)} {mf : Nat → Option (List Ms × Int)} {W : FW} {M : List Ms} {c : Option Int} (hc : Jz c) (hw : Ev wf (W, c)) (hm : Ev mf (M, c.getD 0)) :
    Ev (fun k => (wf k).bind fun (r2 : FW × (Option Int)) => (mf k).bind fun (r3 : (List Ms) × Int) => (Code.f k r2.2).bind fun (r4 : Int) => some (r2.1, r3.1, r4 == r3.2)) (W, M, true) := by
     refine Ev.bind hw (Ev.bind hm (Ev.bind (nF hc) ?_)); simp only [O2]; exact Ev.now _
theorem Vt : Jz (some 3) := .inr ⟨3, rfl, by omega, by omega⟩
theorem Tc : Jz (some 1) := .inr ⟨1, rfl, by omega, by omega⟩
theorem ok6 : Jz (some 6) := .inr ⟨6, rfl, by omega, by omega⟩
theorem ok0 : Jz none := .inl rfl
theorem Sy {E : List En} (h : St E) (hl : E.length ≤ 1000) (n p : Int) :
    Ev (fun k => (V.lC.f k (wE E) n p).bind fun (Qw : (Option Int)) => (At.f k (mE E) n p 0).bind fun (Sz : Int × Int) => (bif Sz.2 == 0 then (bif decide (0 ≤ Sz.1) && decide (Sz.1 < ((mE E).length : Int)) then (bif decide (0 ≤ p) && decide (p < ((((mE E).getD ((Sz.1).toNat) ir).p).length : Int)) then (bif !(((((mE E).getD ((Sz.1).toNat) ir).p).getD ((p).toNat) iV).f2) then (Code.f k Qw).bind fun (S3 : Int) => some (wE E, mE E, S3 == 6) else (Code.f k Qw).bind fun (To : Int) => some (wE E, mE E, To == Sz.2)) else none) else none) else (Code.f k Qw).bind fun (Tp : Int) => some (wE E, mE E, Tp == Sz.2))) (wE E, mE E, true) := by
     refine Ev.bind (SA h.gw n p) ?_; unfold SB; rcases split h n with hn | ⟨A, e, B, rfl, rfl, hA, hB⟩
     · rw [get_none hn]; refine Ev.bind (ER hl hn p 0) ?_; exact Ev.bind (nF Vt) (Ev.now _)
     · rw [ou hA]; have he := h.g e (by simp); simp only [Option.elim]; refine Ev.bind (by rw [kP]; exact Dh he hl hA p 0) ?_; rw [aj (by omega)]
       cases ha : at_ e.1.l p with
       | none => exact Ev.bind (nF Vt) (Ev.now _)
       | some a =>
        rw [ag (by simp)]; obtain ⟨p0, p1⟩ := Mu he.v ha; have hp := lT (at_ e.1.l); have hq : p < ((enc e).p.length : Int) := by show p < ((mI (at_ e.1.l)).length : Int); omega
        have hg : (enc e).p.getD p.toNat iV = oc (some a) := by rw [← ha]; exact GR _ p0 p1
        simp only [kP, dm, dF, IG, getM, b2 p0 hq, hg, oc]
        cases a.2.1 with
        | true => simp only [cB, de, eS]; exact Ev.bind (nF ok0) (Ev.now _)
        | false => simp only [bO, cQ, e7, dF]; exact Ev.bind (nF ok6) (Ev.now _)
theorem ES {E : List En} (h : St E) (hl : E.length ≤ 1000) (n p i v : Int) : ∃ E', St E' ∧ E'.length ≤ E.length ∧
    Ev (fun k => (V.pZ.f k (wE E) n p i v).bind fun (MJ : FW × (Option Int)) => (At.f k (mE E) n p i).bind fun (rq : Int × Int) => (bif rq.2 == 0 then (bif decide (0 ≤ rq.1) && decide (rq.1 < ((mE E).length : Int)) then (bif decide (0 ≤ p) && decide (p < ((((mE E).getD ((rq.1).toNat) ir).p).length : Int)) then (bif !(((((mE E).getD ((rq.1).toNat) ir).p).getD ((p).toNat) iV).f1) then (Code.f k MJ.2).bind fun (Tq : Int) => some (MJ.1, (mE E), Tq == 6) else (bif rq.2 == 0 then (bif decide (0 ≤ rq.1) && decide (rq.1 < ((mE E).length : Int)) then (bif decide (0 ≤ p) && decide (p < ((((mE E).getD ((rq.1).toNat) ir).w).length : Int)) then (bif decide (0 ≤ i) && decide (i < 8) then (Code.f k MJ.2).bind fun (r79 : Int) => some (MJ.1, ((mE E).set ((rq.1).toNat) ({ ((mE E).getD ((rq.1).toNat) ir) with w := ((((mE E).getD ((rq.1).toNat) ir).w).set ((p).toNat) (mY ((((mE E).getD ((rq.1).toNat) ir).w).getD ((p).toNat) zw) i.toNat v)) })), r79 == rq.2) else none) else none) else none) else (Code.f k MJ.2).bind fun (r80 : Int) => some (MJ.1, (mE E), r80 == rq.2))) else none) else none) else (bif rq.2 == 0 then (bif decide (0 ≤ rq.1) && decide (rq.1 < ((mE E).length : Int)) then (bif decide (0 ≤ p) && decide (p < ((((mE E).getD ((rq.1).toNat) ir).w).length : Int)) then (bif decide (0 ≤ i) && decide (i < 8) then (Code.f k MJ.2).bind fun (r85 : Int) => some (MJ.1, ((mE E).set ((rq.1).toNat) ({ ((mE E).getD ((rq.1).toNat) ir) with w := ((((mE E).getD ((rq.1).toNat) ir).w).set ((p).toNat) (mY ((((mE E).getD ((rq.1).toNat) ir).w).getD ((p).toNat) zw) i.toNat v)) })), r85 == rq.2) else none) else none) else none) else (Code.f k MJ.2).bind fun (r86 : Int) => some (MJ.1, (mE E), r86 == rq.2)))) (wE E', mE E', true) := by
     have hs := zn h.gw n p i v; unfold zm at hs; rcases split h n with hn | ⟨A, e, B, rfl, rfl, hA, hB⟩
     · rw [get_none hn] at hs; refine ⟨E, h, by omega, Ev.bind hs (Ev.bind (ER hl hn p i) ?_)⟩; exact Ev.bind (nF Vt) (Ev.now _)
     · rw [ou hA] at hs; have he := h.g e (by simp); simp only [Option.elim] at hs; have hat := Dh he hl hA p i; rw [← kP] at hat; by_cases c : 0 ≤ i ∧ i < 8
       · rw [aj c] at hs hat
         cases ha : at_ e.1.l p with
         | none =>
          rw [ha] at hs hat; exact ⟨_, h, by omega, Ev.bind hs (Ev.bind hat (Ev.bind (nF Vt) (Ev.now _)))⟩
         | some a =>
          rw [ha] at hs hat; rw [ag (by simp)] at hat; simp only at hs; obtain ⟨p0, p1⟩ := Mu he.v ha; have hp := lT (at_ e.1.l); have hw := he.w; have hq : p < ((enc e).p.length : Int) := by show p < ((mI (at_ e.1.l)).length : Int); omega
          have oL : p < ((enc e).w.length : Int) := by show p < (e.2.length : Int); omega
          have hg : (enc e).p.getD p.toNat iV = oc (some a) := by rw [← ha]; exact GR _ p0 p1
          by_cases hb : a.1 = true
          · rw [aj hb] at hs; refine ⟨A ++ (({ e.1 with ps := uo p (mY (jw zw e.1.ps p) i.toNat v) e.1.ps } : Sp), e.2.set p.toNat (mY (e.2.getD p.toNat zw) i.toNat v)) :: B, h.put (e' := (({ e.1 with ps := uo p (mY (jw zw e.1.ps p) i.toNat v) e.1.ps } : Sp), e.2.set p.toNat (mY (e.2.getD p.toNat zw) i.toNat v))) ⟨he.v, ?_, fun q j hq hj => ?_, he.r⟩ rfl, by simp, Ev.bind hs (Ev.bind hat ?_)⟩
            · show (e.2.set _ _).length = 4096; rw [bV, hw]
            · show ((e.2.set p.toNat (mY (e.2.getD p.toNat zw) i.toNat v)).getD q zw) j = jw zw (uo p (mY (jw zw e.1.ps p) i.toNat v) e.1.ps) q j; rw [EK _ _ _ _ (by omega), GN]; by_cases d : p.toNat = q
              · rw [aj d, aj (by omega)]; unfold mY; by_cases dj : j = i.toNat
                · rw [aj dj, aj dj]
                · rw [ag dj, ag dj, he.s p.toNat j (by omega) hj, show ((p.toNat : Nat) : Int) = p by omega]
              · rw [ag d, ag (by omega)]; exact he.s q j hq hj
            · simp only [kP, dm, dF, IG, getM, Se, b2 p0 hq, b2 p0 oL, b2 c.1 c.2, hg, oc, hb, de, eS]; refine Ev.bind (nF ok0) ?_; rw [Dd (w := e.2.set p.toNat (mY (e.2.getD p.toNat zw) i.toNat v)) hA hB]; exact Ev.now _
          · rw [ag hb] at hs; refine ⟨_, h, by omega, Ev.bind hs (Ev.bind hat ?_)⟩; simp only [kP, dm, dF, IG, getM, b2 p0 hq, hg, oc, cw.mpr hb, e7]; exact Ev.bind (nF ok6) (Ev.now _)
       · rw [ag c] at hs hat; exact ⟨_, h, by omega, Ev.bind hs (Ev.bind hat (Ev.bind (nF Tc) (Ev.now _)))⟩
theorem Pq {E : List En} (h : St E) (hl : E.length ≤ 1000) (d : qW) (d0 : -9223372036854775808 ≤ d.f0) (d1 : d.f0 ≤ 9223372036854775807) : ∃ E', St E' ∧ E'.length ≤ E.length + 1 ∧ Ev (fun k => JN.f k (wE E) (mE E) d) (wE E', mE E', true) := by
 obtain ⟨r, hr, r0, r1⟩ := uW d.f0 11 d0 d1 (by omega) (by omega); simp only [JN.f, hr, aq]
 have hmap : ∃ E' c, St E' ∧ E'.length ≤ E.length ∧ Jz c ∧ Ev (fun k => V.Map.f k (wE E) d.f1 d.f3 d.f4 d.r) (wE E', c) ∧ Ev (fun k => mJ.f k (mE E) d.f1 d.f3 d.f4 (⟨true, d.r.f0, d.r.f1, false⟩ : j5)) (mE E', c.getD 0) := by
  obtain ⟨E', c, h1, h2, h3, h4, h5⟩ := EL h hl d.f1 d.f3 d.f4 (some (d.r.f0, d.r.f1, false)) (fun l => DO l ⟨d.f3, d.f4, ⟨d.r.f0, d.r.f1⟩, false⟩) (fun l hc hs => ⟨IV hc hs, fun p => Q2 hc hs p⟩); exact ⟨E', c, h1, h2, h3, by rw [← h4]; exact Kh h.gw _ _ _ _, h5⟩
 have hun : ∃ E' c, St E' ∧ E'.length ≤ E.length ∧ Jz c ∧ Ev (fun k => sS.f k (wE E) d.f1 d.f3 d.f4) (wE E', c) ∧ Ev (fun k => mJ.f k (mE E) d.f1 d.f3 d.f4 (⟨false, false, false, false⟩ : j5)) (mE E', c.getD 0) := by
  obtain ⟨E', c, h1, h2, h3, h4, h5⟩ := EL h hl d.f1 d.f3 d.f4 none (fun l => DP l d.f3 d.f4) (fun l hc hs => ⟨IW hc hs, fun p => NS hc hs p⟩); exact ⟨E', c, h1, h2, h3, by rw [← h4]; exact Mv h.gw _ _ _, h5⟩
 have hc : r = 0 ∨ r = 1 ∨ r = 2 ∨ r = 3 ∨ r = 4 ∨ r = 5 ∨ r = 6 ∨ r = 7 ∨ r = 8 ∨ r = 9 ∨ r = 10 := by omega
 rcases hc with rfl | rfl | rfl | rfl | rfl | rfl | rfl | rfl | rfl | rfl | rfl <;> simp only [Int.reduceBEq, dF, eS]
 · obtain ⟨E', c, h1, h2, h3, h4, h5⟩ := JI h hl d.f1; exact ⟨E', h1, h2, two h3 h4 h5⟩
 · obtain ⟨E', c, h1, h2, h3, h4, h5⟩ := JJ h hl d.f1 d.f2; exact ⟨E', h1, h2, two h3 h4 h5⟩
 · obtain ⟨E', c, h1, h2, h3, h4, h5⟩ := Mw h hl d.f1; exact ⟨E', h1, h2, two h3 h4 h5⟩
 · obtain ⟨E', c, h1, h2, h3, h4, h5⟩ := hmap; exact ⟨E', h1, by omega, two h3 h4 h5⟩
 · obtain ⟨E', c, h1, h2, h3, h4, h5⟩ := hmap; exact ⟨E', h1, by omega, two h3 h4 h5⟩
 · obtain ⟨E', c, h1, h2, h3, h4, h5⟩ := hun; exact ⟨E', h1, by omega, two h3 h4 h5⟩
 · obtain ⟨E', c, h1, h2, h3, h4, h5⟩ := EN h hl d.f1 d.f3 d.f4 true d.r false (jB.of d.r.f0 d.r.f1) (BE d.r.f0 d.r.f1) (Lp _ _) (aj rfl).symm; exact ⟨E', h1, by omega, two h3 (by rw [← h4]; exact GS h.gw _ _ _ _) h5⟩
 · obtain ⟨E', c, h1, h2, h3, h4, h5⟩ := EN h hl d.f1 d.f3 d.f4 false d.r d.h (jC.of d.h) (BF d.h) (Lq _) (ag cA).symm; exact ⟨E', h1, by omega, two h3 (by rw [← h4]; exact JK h.gw _ _ _ _) h5⟩
 · exact ⟨E, h, by omega, Sy h hl d.f1 d.f3⟩
 · obtain ⟨E', h1, h2, h3⟩ := ES h hl d.f1 d.f3 d.i d.v; exact ⟨E', h1, by omega, h3⟩
 · obtain ⟨E', h1, h2, h3⟩ := ES h hl d.f1 d.f3 d.i d.v; exact ⟨E', h1, by omega, h3⟩
end Go.Proofs.Ytmjnenjeckeklaa.FlatP
namespace Go.Proofs.Ytmjnenjeckeklaa.FlatP
open Go Go.RowKit Go.Proofs.Ytmjnenjeckeklaa.Q Go.Proofs.YtmjnenjeckeklaaW.PrintWords Go.Proofs.Ytmjnenjeckeklaa.Bits Go.Proofs.Ytmjnenjeckeklaa.AreaLib Go.Proofs.Ytmjnenjeckeklaa.AreaEv Go.Proofs.Ytmjnenjeckeklaa.AreaRef Go.Proofs.Ytmjnenjeckeklaa.AreaFind Go.Proofs.Ytmjnenjeckeklaa.AreaEach
open Go.Proofs.Ytmjnenjeckeklaa.V hiding at_ jN
attribute [local irreducible] mI
theorem AH {α : Type} {f : Nat → Option α} {x y : α} (h : Ev f x) (e : x = y) : Ev f y := e ▸ h
abbrev Dt : gu := ⟨0, 2, ⟨true, false⟩, false⟩
theorem VO : valid [Dt] := ⟨⟨⟨by decide, by decide, by decide⟩, trivial⟩, by decide⟩
theorem exS : jV 0 2 := ⟨by omega, by omega, by omega⟩
abbrev ID (v : Int) (ps : List (Int × W8)) : List (Int × W8) := uo 0 (mY (jw zw ps 0) 3 v) ps
theorem Tv : Ev (fun k => up.f k) true := by
 simp only [up.f]; refine Ev.bind QF ?_; have m0 : G7 [] 1 = ([(⟨1, [], []⟩ : Sp)], none) := rfl; refine Ev.bind (AH (G8 [] 1) m0) ?_; have g1 : GW [(⟨1, [], []⟩ : Sp)] := fun s hs => by rw [aE.mp hs]; exact ⟨⟨show (0 : Int) ≤ 4096 by omega, trivial⟩, by simp⟩
 have m1 : qv [(⟨1, [], []⟩ : Sp)] 1 (QG 0 2 ⟨true, false⟩) 0 2 = ([⟨1, [Dt], []⟩], none) := by
  simp only [qv, QG, aj exS]; rfl
 refine Ev.bind (AH (Kh g1 _ _ _ _) m1) ?_; have g2 : GW [(⟨1, [Dt], []⟩ : Sp)] := fun s hs => by rw [aE.mp hs]; exact VO
 have m2 : zm [(⟨1, [Dt], []⟩ : Sp)] 1 0 3 9 = ([⟨1, [Dt], ID 9 []⟩], none) := rfl; refine Ev.bind (AH (zn g2 _ _ _ _) m2) ?_; have g3 : GW [(⟨1, [Dt], ID 9 []⟩ : Sp)] := fun s hs => by rw [aE.mp hs]; exact VO
 have m3 : G9 [(⟨1, [Dt], ID 9 []⟩ : Sp)] 1 2 = ([⟨1, [Dt], ID 9 []⟩, ⟨2, [Dt], ID 9 []⟩], none) := rfl; refine Ev.bind (AH (He g3 _ _) m3) ?_
 have g4 : ∀ q r, GW [(⟨1, [Dt], q⟩ : Sp), ⟨2, [Dt], r⟩] := fun q r s hs => by
  rcases bx.mp hs with rfl | hs
  · exact VO
  · rw [aE.mp hs]; exact VO
 have m4 : zm [(⟨1, [Dt], ID 9 []⟩ : Sp), ⟨2, [Dt], ID 9 []⟩] 2 0 3 4 = ([⟨1, [Dt], ID 9 []⟩, ⟨2, [Dt], ID 4 (ID 9 [])⟩], none) := rfl; refine Ev.bind (AH (zn (g4 _ _) _ _ _ _) m4) ?_; have m5 : vM [(⟨1, [Dt], ID 9 []⟩ : Sp), ⟨2, [Dt], ID 4 (ID 9 [])⟩] 1 0 3 = (9, none) := rfl; refine Ev.bind (AH (yp (g4 _ _) _ _ _) m5) ?_; exact Ev.now _
end Go.Proofs.Ytmjnenjeckeklaa.FlatP
