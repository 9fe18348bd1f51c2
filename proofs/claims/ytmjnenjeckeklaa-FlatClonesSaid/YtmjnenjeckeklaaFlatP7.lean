import Derived.Test.YtmjnenjeckeklaaFlatP6
import Derived.Test.YtmjnenjeckeklaaB6
namespace Go.Proofs.Ytmjnenjeckeklaa.FlatP
open Go Go.RowKit Go.Proofs.Ytmjnenjeckeklaa.Q Go.Proofs.YtmjnenjeckeklaaW.PrintWords Go.Proofs.Ytmjnenjeckeklaa.Bits Go.Proofs.Ytmjnenjeckeklaa.AreaLib Go.Proofs.Ytmjnenjeckeklaa.AreaEv Go.Proofs.Ytmjnenjeckeklaa.AreaRef Go.Proofs.Ytmjnenjeckeklaa.AreaFind Go.Proofs.Ytmjnenjeckeklaa.AreaEach
open Go.Proofs.Ytmjnenjeckeklaa.V hiding at_ jN
set_option linter.unusedVariables false
set_option linter.unusedSimpArgs false
attribute [local irreducible] mI
theorem JH (l : List gu) (hl : l.length ≤ 4000) : ∀ (d i : Nat), i + d = l.length → Ev (fun k => iF.l0 k l l (i : Int)) true := by
 intro d
 induction d with
 | zero =>
  intro i hi; refine lS (mC (fun k => ?_)); simp only [iF.l0]; rw [ag (by omega)]
 | succ d ih =>
  intro i hi; refine Ev.step (fun k => ?_) (ih (i + 1) (by omega)); simp only [iF.l0]; rw [aj (by omega), aj (by omega), aj (by omega), ag (by simp), j8 (by omega) (by omega)]; rfl
theorem Mr {l : List gu} (h : valid l) : Ev (fun k => xF.f k l l) true := by
 have h2 := h.2; have := JH l (by omega) l.length 0 (by omega); refine Ev.congr (fun k => ?_) (f := fun k => iF.l0 k l l ((0 : Nat) : Int)) this; unfold xF.f iF.f; rw [aj ⟨by omega, by omega⟩]; simp only [cB]; rfl
theorem Ls {l : List gu} (h : valid l) : Ev (fun k => K7.f k (mI (at_ l))) (l, true) := by
 obtain ⟨y, h1, h2, h3⟩ := Lr (at_ l); obtain rfl : y = l := zG h1 h.1 h2; rw [ay h.2] at h3; exact h3
theorem Mt {A B : List En} {e : En} (h : ∀ x ∈ A, x.1.n ≠ e.1.n) (p w : Int) : vM (wE (A ++ e :: B)) e.1.n p w = if 0 ≤ w ∧ w < 8 then (if at_ e.1.l p = none then (0, some 3) else (jw zw e.1.ps p w.toNat, none)) else (0, some 1) := by
 unfold vM; rw [ou h]; rfl
section
variable {A B : List En} {e : En} {a2 r1 : List Int} {v4 r7 : Int} {y8 : Bool} {nL : List gu × Option Int} {kZ : List gu × Bool} {qG : Bool} {v26 p : Int}
theorem Vs (he : Ge e) (a0 : FW) (h1 : 0 ≤ v26) (h2 : v26 < (a2.length : Int)) (hp : a2.getD v26.toNat 0 = p) {w : Int} {x : Int × Option Int} {z : Int × Int}
    (hx : x = if 0 ≤ w ∧ w < 8 then (if at_ e.1.l p = none then (0, some 3) else (jw zw e.1.ps p w.toNat, none)) else (0, some 1))
    (hz : z = if 0 ≤ w ∧ w < 8 then (if at_ e.1.l p = none then (0, 3) else (((mE A).length : Int), 0)) else (0, 1)) :
    Ev (fun k => same.j2 k a0 (mE A ++ enc e :: mE B) a2 r1 v4 r7 y8 nL kZ qG v26 w x z) false := by
     simp only [same.j2]; by_cases c : 0 ≤ w ∧ w < 8
     · rw [aj c] at hx hz
       cases ha : at_ e.1.l p with
       | none =>
        rw [aj ha] at hx hz; subst hx hz; exact Ev.bind (nF Vt) (Ev.now _)
       | some a =>
        rw [ag (by rw [ha]; simp)] at hx hz; subst hx hz; obtain ⟨p0, p1⟩ := Mu he.v ha; have hw := he.w; have hq : p < ((enc e).w.length : Int) := by show p < (e.2.length : Int); omega
        have hv : (((enc e).w).getD p.toNat zw) w.toNat = jw zw e.1.ps p w.toNat := Mj he p0 p1 c.1 c.2; refine Ev.bind (nF ok0) ?_; simp only [dI, bne_self_eq_false, eS, dm, dF, IG, getM, hp, b2 h1 h2, b2 p0 hq, b2 c.1 c.2, hv]; exact Ev.now _
     · rw [ag c] at hx hz; subst hx hz; exact Ev.bind (nF Tc) (Ev.now _)
theorem Vu (h : St (A ++ e :: B)) (hl : (A ++ e :: B).length ≤ 1000) (hA : ∀ x ∈ A, x.1.n ≠ e.1.n) (h3 : 0 ≤ v4) (h4 : v4 < (r1.length : Int)) (hn : r1.getD v4.toNat 0 = e.1.n) (h1 : 0 ≤ v26) (h2 : v26 < (a2.length : Int)) (hp : a2.getD v26.toNat 0 = p) :
    ∀ (d : Nat) (w : Int), w + d = 9 → -1 ≤ w → ∃ K0, ∀ K, K0 ≤ K → ∀ k, d < k → same.l3 K (wE (A ++ e :: B)) (mE A ++ enc e :: mE B) a2 r1 v4 r7 y8 nL kZ qG v26 k w = some (Sum.inl 9) := by
 intro d
 induction d with
 | zero =>
  intro w hw _; refine ⟨0, fun K _ k hk => ?_⟩; obtain ⟨k, rfl⟩ : ∃ m, k = m + 1 := ⟨k - 1, by omega⟩; rw [same.l3, bn (by omega), show w = 9 by omega]
 | succ d ih =>
  intro w hw hw0; have he := h.g e (by simp); obtain ⟨K0, h0⟩ := ih (w + 1) (by omega) (by omega); obtain ⟨K1, k1⟩ := yp h.gw e.1.n p w; obtain ⟨K2, k2⟩ := Dh he hl hA p w; obtain ⟨K3, k3⟩ := Vs (A := A) (B := B) (r1 := r1) (v4 := v4) (r7 := r7) (y8 := y8) (nL := nL) (kZ := kZ) (qG := qG) he (wE (A ++ e :: B)) h1 h2 hp (Mt (B := B) hA p w) rfl; refine ⟨K0 + K1 + K2 + K3, fun K hK k hk => ?_⟩; obtain ⟨k, rfl⟩ : ∃ m, k = m + 1 := ⟨k - 1, by omega⟩; have q1 := k1 K (by omega); have q2 := k2 K (by omega); have q3 := k3 K (by omega); dsimp only at q1 q2 q3; rw [same.l3, bd (by omega), b2 h3 h4, b2 h1 h2, hn, hp, q1, aq, b2 h3 h4, b2 h1 h2, q2, aq, q3, aq, bf rfl, Ce (by omega) (by omega)]; exact h0 K (by omega) k (by omega)
theorem Vv (h : St (A ++ e :: B)) (hl : (A ++ e :: B).length ≤ 1000) (hA : ∀ x ∈ A, x.1.n ≠ e.1.n) (h3 : 0 ≤ v4) (h4 : v4 < (r1.length : Int)) (hn : r1.getD v4.toNat 0 = e.1.n) (h5 : a2.length ≤ 1000) :
    ∀ (d i : Nat), i + d = a2.length → ∃ K0, ∀ K, K0 ≤ K → ∀ k, d < k → same.l2 K (wE (A ++ e :: B)) (mE A ++ enc e :: mE B) a2 r1 v4 r7 y8 nL kZ qG k (i : Int) = some (Sum.inl (a2.length : Int)) := by
 intro d
 induction d with
 | zero =>
  intro i hi; refine ⟨0, fun K _ k hk => ?_⟩; obtain ⟨k, rfl⟩ : ∃ m, k = m + 1 := ⟨k - 1, by omega⟩; rw [same.l2, bn (by omega), show i = a2.length by omega]
 | succ d ih =>
  intro i hi; obtain ⟨K0, h0⟩ := ih (i + 1) (by omega); obtain ⟨K1, k1⟩ := Vu (r7 := r7) (y8 := y8) (nL := nL) (kZ := kZ) (qG := qG) h hl hA h3 h4 hn (v26 := (i : Int)) (a2 := a2) (by omega) (by omega) rfl 10 (-1) (by omega) (by omega); refine ⟨K0 + K1 + 11, fun K hK k hk => ?_⟩; obtain ⟨k, rfl⟩ : ∃ m, k = m + 1 := ⟨k - 1, by omega⟩; rw [same.l2, bd (by omega), k1 K (by omega) K (by omega), aq, fS, Ce (by omega) (by omega)]; exact h0 K (by omega) k (by omega)
end
theorem Im {E : List En} (h : St E) : jQ (wE E) 0 = none := get_none fun e he => by have := (h.g e he).r; omega
theorem Vw {E : List En} (h : St E) (hl : E.length ≤ 1000) {a2 r1 : List Int} (h5 : a2.length ≤ 1000) (h6 : r1.length ≤ 1000) (hr : ∀ x ∈ r1, ∃ e ∈ E, e.1.n = x) (hs : r1.Pairwise (· < ·)) :
    ∀ (d i : Nat), i + d = r1.length → ∃ K0, ∀ K, K0 ≤ K → ∀ k, d < k → same.l1 K (wE E) (mE E) a2 r1 k (i : Int) = some true := by
 intro d
 induction d with
 | zero =>
  intro i hi; have ar : sZ (wE E) 0 = ([], some 3) := by unfold sZ; rw [Im h]; rfl
  have ld : vM (wE E) 0 0 0 = (0, some 3) := by unfold vM; rw [Im h]; rfl
  obtain ⟨K1, k1⟩ := AH (zu h.gw 0) ar; obtain ⟨K2, k2⟩ := AH (yp h.gw 0 0 0) ld; refine ⟨K1 + K2, fun K hK k hk => ?_⟩; obtain ⟨k, rfl⟩ : ∃ m, k = m + 1 := ⟨k - 1, by omega⟩; have q1 := k1 K (by omega); have q2 := k2 K (by omega); dsimp only at q1 q2; rw [same.l1, bn (by omega), q1, aq, q2, aq]; rfl
 | succ d ih =>
  intro i hi; obtain ⟨K0, h0⟩ := ih (i + 1) (by omega)
  have hx : r1.getD ((i : Int)).toNat 0 ∈ r1 := by
   rw [show (i : Int).toNat = i by omega, aH, aA (by omega)]; exact fq _
  obtain ⟨x, hxe⟩ : ∃ x, x = r1.getD ((i : Int)).toNat 0 := ⟨_, rfl⟩; rw [← hxe] at hx; obtain ⟨e0, Yo, hn0⟩ := hr x hx; rcases split h x with hno | ⟨A, e, B, rfl, rfl, hA, hB⟩
  · exact absurd hn0 (hno e0 Yo)
  have he := h.g e (by simp); have ar : sZ (wE (A ++ e :: B)) e.1.n = (e.1.l, none) := by unfold sZ; rw [ou hA]; rfl
  obtain ⟨K1, k1⟩ := nY hl hA; obtain ⟨K2, k2⟩ := AH (zu h.gw e.1.n) ar; obtain ⟨K3, k3⟩ := Ls he.v; obtain ⟨K4, k4⟩ := Mr he.v; obtain ⟨K5, k5⟩ := Vv (r7 := ((mE A).length : Int)) (y8 := false) (nL := (e.1.l, none)) (kZ := (e.1.l, true)) (qG := true) h hl hA (v4 := (i : Int)) (r1 := r1) (by omega) (by omega) hxe.symm h5 a2.length 0 (by omega)
  have hj : ∀ K, same.j1 K (wE (A ++ e :: B)) (mE A ++ enc e :: mE B) a2 r1 (i : Int) ((mE A).length : Int) = some (Sum.inl false) := fun K => by
   unfold same.j1; rw [bn (by omega)]; by_cases c : (i : Int) > 0
   · have hlt : r1.getD ((i : Int) - 1).toNat 0 < r1.getD (i : Int).toNat 0 := by
      rw [show ((i : Int) - 1).toNat = i - 1 by omega, show (i : Int).toNat = i by omega, aH, aH, aA (by omega), aA (by omega)]; exact List.pairwise_iff_getElem.mp hs (i - 1) i (by omega) (by omega) (by omega)
     rw [bd c, Ce (by omega) (by omega), b2 (by omega) (by omega), b2 (by omega) (by omega), aY (by omega)]; rfl
   · rw [bn c]
  refine ⟨K0 + K1 + K2 + K3 + K4 + K5 + a2.length + 1, fun K hK k hk => ?_⟩; obtain ⟨k, rfl⟩ : ∃ m, k = m + 1 := ⟨k - 1, by omega⟩; have q1 := k1 K (by omega); have q2 := k2 K (by omega); have q3 := k3 K (by omega); have q4 := k4 K (by omega); have q5 := k5 K (by omega) K (by omega); have q6 := h0 K (by omega) k (by omega); dsimp only at q1 q2 q3 q4 q5; rw [kP] at q6 ⊢; rw [same.l1, bd (by omega), b2 (by omega) (by omega), ← hxe, q1, aq, hj, aq, fS, b2 (by omega) (by omega), q2, aq, bt (IG _ _ _), getM]; show (K7.f K (mI (at_ e.1.l))).bind _ = _; rw [q3, aq]; show (xF.f K e.1.l e.1.l).bind _ = _; rw [q4, aq]; refine (bN (fun z => Option.bind z _) q5).trans ?_; rw [aq, fS, Ce (by omega) (by omega)]; exact q6
theorem GP (E : List En) : (oT ((wE E).map nj.n)).Perm (E.map fun e => e.1.n) := by
 have hnn : (wE E).map nj.n = E.map fun e => e.1.n := by rw [bW]; rfl
 rw [← hnn]; exact List.mergeSort_perm _ _
theorem Ks (E : List En) : (oT ((wE E).map nj.n)).length = E.length := by rw [(GP E).length_eq, ak]
theorem Kt (E : List En) (x : Int) (hx : x ∈ oT ((wE E).map nj.n)) : ∃ e ∈ E, e.1.n = x := by
 obtain ⟨e, he, e2⟩ := aX.mp ((GP E).mem_iff.mp hx); exact ⟨e, he, e2⟩
theorem Tz {E : List En} (h : St E) (hl : E.length ≤ 1000) (k : Nat) : oh.f k (wE E) = some (oT ((wE E).map nj.n)) := by
 unfold oh.f; rw [b3 (ay (by rw [ak]; exact hl)) (aV.mpr fun s hs => ?_)]; obtain ⟨e, he, rfl⟩ := aX.mp hs; have := (h.g e he).r; exact Bits.wf_i64.mpr ⟨by omega, by omega⟩
theorem yu {E : List En} (h : St E) (hl : E.length ≤ 1000) {a2 : List Int} (h5 : a2.length ≤ 1000) : Ev (fun k => same.f k (wE E) (mE E) a2) true := by
 have hm : (mE E).length = E.length := ak ..; have hlen := Ks E
 have hsor : (oT ((wE E).map nj.n)).Pairwise (· < ·) := by
  have h1 : (oT ((wE E).map nj.n)).Pairwise fun x y => decide (x ≤ y) = true := List.pairwise_mergeSort (fun a b c h1 h2 => by simp only [au] at *; omega) (fun a b => by simp only [bI, au]; omega) _; have h2 : (oT ((wE E).map nj.n)).Nodup := (GP E).nodup_iff.mpr h.nd; refine (List.Pairwise.and h1 h2).imp fun hab => ?_; have := aD hab.1; have := hab.2; omega
 obtain ⟨K0, h0⟩ := Vw h hl h5 (r1 := oT ((wE E).map nj.n)) (by omega) (Kt E) hsor E.length 0 (by omega); refine ⟨K0 + E.length + 1, fun K hK => ?_⟩; show same.f K (wE E) (mE E) a2 = some true; unfold same.f; rw [Tz h hl, aq, hlen, hm, bf (by simp)]; exact h0 K (by omega) K (by omega)
end Go.Proofs.Ytmjnenjeckeklaa.FlatP
