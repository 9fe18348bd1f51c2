import Derived.Test.YtmjnenjeckeklaaFlatP6
import Derived.Test.YtmjnenjeckeklaaB6
namespace Go.Proofs.Ytmjnenjeckeklaa.FlatP
open Go Go.RowKit Go.Proofs.Ytmjnenjeckeklaa.Q Go.Proofs.YtmjnenjeckeklaaW.PrintWords Go.Proofs.Ytmjnenjeckeklaa.Bits Go.Proofs.Ytmjnenjeckeklaa.AreaLib Go.Proofs.Ytmjnenjeckeklaa.AreaEv Go.Proofs.Ytmjnenjeckeklaa.AreaRef Go.Proofs.Ytmjnenjeckeklaa.AreaFind Go.Proofs.Ytmjnenjeckeklaa.AreaEach
open Go.Proofs.Ytmjnenjeckeklaa.V hiding at_ dn
set_option linter.unusedVariables false
set_option linter.unusedSimpArgs false
attribute [local irreducible] fW
theorem D5 (l : List aG) (hl : l.length ≤ 4000) : ∀ (d i : Nat), i + d = l.length → Ev (fun k => bS.l0 k l l (i : Int)) true := by
 intro d
 induction d with
 | zero =>
  intro i hi; refine fm (fR (fun k => ?_)); simp only [bS.l0]; rw [if_neg (by omega)]
 | succ d ih =>
  intro i hi; refine Ev.step (fun k => ?_) (ih (i + 1) (by omega)); simp only [bS.l0]; rw [if_pos (by omega), if_pos (by omega), if_pos (by omega), if_neg (by simp), dN (by omega) (by omega)]; rfl
theorem GZ {l : List aG} (h : valid l) : Ev (fun k => qO.f k l l) true := by
 have h2 := h.2; have := D5 l (by omega) l.length 0 (by omega); refine Ev.congr (fun k => ?_) (f := fun k => bS.l0 k l l ((0 : Nat) : Int)) this; unfold qO.f bS.f; rw [if_pos ⟨by omega, by omega⟩]; simp only [if_true]; rfl
theorem FY {l : List aG} (h : valid l) : Ev (fun k => Fz.f k (fW (at_ l))) (l, true) := by
 obtain ⟨y, h1, h2, h3⟩ := FX (at_ l); obtain rfl : y = l := th h1 h.1 h2; rw [decide_eq_true h.2] at h3; exact h3
theorem G4 {A B : List En} {e : En} (h : ∀ x ∈ A, x.1.n ≠ e.1.n) (p w : Int) : pe (wE (A ++ e :: B)) e.1.n p w = if 0 ≤ w ∧ w < 8 then (if at_ e.1.l p = none then (0, some 3) else (cN zw e.1.ps p w.toNat, none)) else (0, some 1) := by
 unfold pe; rw [iV h]; rfl
section
variable {A B : List En} {e : En} {a2 r1 : List Int} {v4 r7 : Int} {y8 : Bool} {jA : List aG × Option Int} {iq : List aG × Bool} {lB : Bool} {v26 p : Int}
theorem Qm (he : Ge e) (a0 : FW) (h1 : 0 ≤ v26) (h2 : v26 < (a2.length : Int)) (hp : a2.getD v26.toNat 0 = p) {w : Int} {x : Int × Option Int} {z : Int × Int}
    (hx : x = if 0 ≤ w ∧ w < 8 then (if at_ e.1.l p = none then (0, some 3) else (cN zw e.1.ps p w.toNat, none)) else (0, some 1))
    (hz : z = if 0 ≤ w ∧ w < 8 then (if at_ e.1.l p = none then (0, 3) else (((mE A).length : Int), 0)) else (0, 1)) :
    Ev (fun k => same.j2 k a0 (mE A ++ enc e :: mE B) a2 r1 v4 r7 y8 jA iq lB v26 w x z) false := by
     simp only [same.j2]; by_cases c : 0 ≤ w ∧ w < 8
     · rw [if_pos c] at hx hz
       cases ha : at_ e.1.l p with
       | none =>
        rw [if_pos ha] at hx hz; subst hx hz; exact Ev.bind (gP Qn) (Ev.now _)
       | some a =>
        rw [if_neg (by rw [ha]; simp)] at hx hz; subst hx hz; obtain ⟨p0, p1⟩ := G5 he.v ha; have hw := he.w; have hq : p < ((enc e).w.length : Int) := by show p < (e.2.length : Int); omega
        have hv : (((enc e).w).getD p.toNat zw) w.toNat = cN zw e.1.ps p w.toNat := GN he p0 p1 c.1 c.2; refine Ev.bind (gP VI) ?_; simp only [Option.getD_none, bne_self_eq_false, cond_false, beq_self_eq_true, cond_true, GM, getM, hp, b2 h1 h2, b2 p0 hq, b2 c.1 c.2, hv]; exact Ev.now _
     · rw [if_neg c] at hx hz; subst hx hz; exact Ev.bind (gP N9) (Ev.now _)
theorem Qo (h : St (A ++ e :: B)) (hl : (A ++ e :: B).length ≤ 1000) (hA : ∀ x ∈ A, x.1.n ≠ e.1.n) (h3 : 0 ≤ v4) (h4 : v4 < (r1.length : Int)) (hn : r1.getD v4.toNat 0 = e.1.n) (h1 : 0 ≤ v26) (h2 : v26 < (a2.length : Int)) (hp : a2.getD v26.toNat 0 = p) :
    ∀ (d : Nat) (w : Int), w + d = 9 → -1 ≤ w → ∃ K0, ∀ K, K0 ≤ K → ∀ k, d < k → same.l3 K (wE (A ++ e :: B)) (mE A ++ enc e :: mE B) a2 r1 v4 r7 y8 jA iq lB v26 k w = some (Sum.inl 9) := by
 intro d
 induction d with
 | zero =>
  intro w hw _; refine ⟨0, fun K _ k hk => ?_⟩; obtain ⟨k, rfl⟩ : ∃ m, k = m + 1 := ⟨k - 1, by omega⟩; rw [same.l3, bn (by omega), show w = 9 by omega]
 | succ d ih =>
  intro w hw hw0; have he := h.g e (by simp); obtain ⟨K0, h0⟩ := ih (w + 1) (by omega) (by omega); obtain ⟨K1, k1⟩ := rG h.gw e.1.n p w; obtain ⟨K2, k2⟩ := yd he hl hA p w; obtain ⟨K3, k3⟩ := Qm (A := A) (B := B) (r1 := r1) (v4 := v4) (r7 := r7) (y8 := y8) (jA := jA) (iq := iq) (lB := lB) he (wE (A ++ e :: B)) h1 h2 hp (G4 (B := B) hA p w) rfl; refine ⟨K0 + K1 + K2 + K3, fun K hK k hk => ?_⟩; obtain ⟨k, rfl⟩ : ∃ m, k = m + 1 := ⟨k - 1, by omega⟩; have q1 := k1 K (by omega); have q2 := k2 K (by omega); have q3 := k3 K (by omega); dsimp only at q1 q2 q3; rw [same.l3, bd (by omega), b2 h3 h4, b2 h1 h2, hn, hp, q1, Option.bind_some, b2 h3 h4, b2 h1 h2, q2, Option.bind_some, q3, Option.bind_some, bf rfl, DG (by omega) (by omega)]; exact h0 K (by omega) k (by omega)
theorem Qp (h : St (A ++ e :: B)) (hl : (A ++ e :: B).length ≤ 1000) (hA : ∀ x ∈ A, x.1.n ≠ e.1.n) (h3 : 0 ≤ v4) (h4 : v4 < (r1.length : Int)) (hn : r1.getD v4.toNat 0 = e.1.n) (h5 : a2.length ≤ 1000) :
    ∀ (d i : Nat), i + d = a2.length → ∃ K0, ∀ K, K0 ≤ K → ∀ k, d < k → same.l2 K (wE (A ++ e :: B)) (mE A ++ enc e :: mE B) a2 r1 v4 r7 y8 jA iq lB k (i : Int) = some (Sum.inl (a2.length : Int)) := by
 intro d
 induction d with
 | zero =>
  intro i hi; refine ⟨0, fun K _ k hk => ?_⟩; obtain ⟨k, rfl⟩ : ∃ m, k = m + 1 := ⟨k - 1, by omega⟩; rw [same.l2, bn (by omega), show i = a2.length by omega]
 | succ d ih =>
  intro i hi; obtain ⟨K0, h0⟩ := ih (i + 1) (by omega); obtain ⟨K1, k1⟩ := Qo (r7 := r7) (y8 := y8) (jA := jA) (iq := iq) (lB := lB) h hl hA h3 h4 hn (v26 := (i : Int)) (a2 := a2) (by omega) (by omega) rfl 10 (-1) (by omega) (by omega); refine ⟨K0 + K1 + 11, fun K hK k hk => ?_⟩; obtain ⟨k, rfl⟩ : ∃ m, k = m + 1 := ⟨k - 1, by omega⟩; rw [same.l2, bd (by omega), k1 K (by omega) K (by omega), Option.bind_some, Sum.elim_inl, DG (by omega) (by omega)]; exact h0 K (by omega) k (by omega)
end
theorem CQ {E : List En} (h : St E) : dJ (wE E) 0 = none := get_none fun e he => by have := (h.g e he).r; omega
theorem Qq {E : List En} (h : St E) (hl : E.length ≤ 1000) {a2 r1 : List Int} (h5 : a2.length ≤ 1000) (h6 : r1.length ≤ 1000) (hr : ∀ x ∈ r1, ∃ e ∈ E, e.1.n = x) (hs : r1.Pairwise (· < ·)) :
    ∀ (d i : Nat), i + d = r1.length → ∃ K0, ∀ K, K0 ≤ K → ∀ k, d < k → same.l1 K (wE E) (mE E) a2 r1 k (i : Int) = some true := by
 intro d
 induction d with
 | zero =>
  intro i hi; have ar : qF (wE E) 0 = ([], some 3) := by unfold qF; rw [CQ h]; rfl
  have ld : pe (wE E) 0 0 0 = (0, some 3) := by unfold pe; rw [CQ h]; rfl
  obtain ⟨K1, k1⟩ := wA (Aa h.gw 0) ar; obtain ⟨K2, k2⟩ := wA (rG h.gw 0 0 0) ld; refine ⟨K1 + K2, fun K hK k hk => ?_⟩; obtain ⟨k, rfl⟩ : ∃ m, k = m + 1 := ⟨k - 1, by omega⟩; have q1 := k1 K (by omega); have q2 := k2 K (by omega); dsimp only at q1 q2; rw [same.l1, bn (by omega), q1, Option.bind_some, q2, Option.bind_some]; rfl
 | succ d ih =>
  intro i hi; obtain ⟨K0, h0⟩ := ih (i + 1) (by omega)
  have hx : r1.getD ((i : Int)).toNat 0 ∈ r1 := by
   rw [show (i : Int).toNat = i by omega, List.getD_eq_getElem?_getD, List.getElem?_eq_getElem (by omega)]; exact List.getElem_mem _
  obtain ⟨x, hxe⟩ : ∃ x, x = r1.getD ((i : Int)).toNat 0 := ⟨_, rfl⟩; rw [← hxe] at hx; obtain ⟨e0, he0, hn0⟩ := hr x hx; rcases split h x with hno | ⟨A, e, B, rfl, rfl, hA, hB⟩
  · exact absurd hn0 (hno e0 he0)
  have he := h.g e (by simp); have ar : qF (wE (A ++ e :: B)) e.1.n = (e.1.l, none) := by unfold qF; rw [iV hA]; rfl
  obtain ⟨K1, k1⟩ := ig hl hA; obtain ⟨K2, k2⟩ := wA (Aa h.gw e.1.n) ar; obtain ⟨K3, k3⟩ := FY he.v; obtain ⟨K4, k4⟩ := GZ he.v; obtain ⟨K5, k5⟩ := Qp (r7 := ((mE A).length : Int)) (y8 := false) (jA := (e.1.l, none)) (iq := (e.1.l, true)) (lB := true) h hl hA (v4 := (i : Int)) (r1 := r1) (by omega) (by omega) hxe.symm h5 a2.length 0 (by omega)
  have hj : ∀ K, same.j1 K (wE (A ++ e :: B)) (mE A ++ enc e :: mE B) a2 r1 (i : Int) ((mE A).length : Int) = some (Sum.inl false) := fun K => by
   unfold same.j1; rw [bn (by omega)]; by_cases c : (i : Int) > 0
   · have hlt : r1.getD ((i : Int) - 1).toNat 0 < r1.getD (i : Int).toNat 0 := by
      rw [show ((i : Int) - 1).toNat = i - 1 by omega, show (i : Int).toNat = i by omega, List.getD_eq_getElem?_getD, List.getD_eq_getElem?_getD, List.getElem?_eq_getElem (by omega), List.getElem?_eq_getElem (by omega)]; exact List.pairwise_iff_getElem.mp hs (i - 1) i (by omega) (by omega) (by omega)
     rw [bd c, DG (by omega) (by omega), b2 (by omega) (by omega), b2 (by omega) (by omega), decide_eq_false (by omega)]; rfl
   · rw [bn c]
  refine ⟨K0 + K1 + K2 + K3 + K4 + K5 + a2.length + 1, fun K hK k hk => ?_⟩; obtain ⟨k, rfl⟩ : ∃ m, k = m + 1 := ⟨k - 1, by omega⟩; have q1 := k1 K (by omega); have q2 := k2 K (by omega); have q3 := k3 K (by omega); have q4 := k4 K (by omega); have q5 := k5 K (by omega) K (by omega); have q6 := h0 K (by omega) k (by omega); dsimp only at q1 q2 q3 q4 q5; rw [eR] at q6 ⊢; rw [same.l1, bd (by omega), b2 (by omega) (by omega), ← hxe, q1, Option.bind_some, hj, Option.bind_some, Sum.elim_inl, b2 (by omega) (by omega), q2, Option.bind_some, bt (GM _ _ _), getM]; show (Fz.f K (fW (at_ e.1.l))).bind _ = _; rw [q3, Option.bind_some]; show (qO.f K e.1.l e.1.l).bind _ = _; rw [q4, Option.bind_some]; refine (congrArg (fun z => Option.bind z _) q5).trans ?_; rw [Option.bind_some, Sum.elim_inl, DG (by omega) (by omega)]; exact q6
theorem JS {E : List En} (h : St E) (hl : E.length ≤ 1000) {a2 : List Int} (h5 : a2.length ≤ 1000) : Ev (fun k => same.f k (wE E) (mE E) a2) true := by
 have hm : (mE E).length = E.length := List.length_map ..; have hnn : (wE E).map ji.n = E.map fun e => e.1.n := by rw [List.map_map]; rfl
 have hper : (kP ((wE E).map ji.n)).Perm (E.map fun e => e.1.n) := by rw [← hnn]; exact List.mergeSort_perm _ _
 have hlen : (kP ((wE E).map ji.n)).length = E.length := by rw [hper.length_eq, List.length_map]
 have hsp : ∀ k, mC.f k (wE E) = some (kP ((wE E).map ji.n)) := fun k => by
  unfold mC.f; rw [b3 (decide_eq_true (by rw [List.length_map]; exact hl)) (List.all_eq_true.mpr fun s hs => ?_)]; obtain ⟨e, he, rfl⟩ := List.mem_map.mp hs; have := (h.g e he).r; exact Bits.wf_i64.mpr ⟨by omega, by omega⟩
 have hsor : (kP ((wE E).map ji.n)).Pairwise (· < ·) := by
  have h1 : (kP ((wE E).map ji.n)).Pairwise fun x y => decide (x ≤ y) = true := List.pairwise_mergeSort (fun a b c h1 h2 => by simp only [decide_eq_true_eq] at *; omega) (fun a b => by simp only [Bool.or_eq_true, decide_eq_true_eq]; omega) _; have h2 : (kP ((wE E).map ji.n)).Nodup := hper.nodup_iff.mpr h.nd; refine (List.Pairwise.and h1 h2).imp fun hab => ?_; have := of_decide_eq_true hab.1; have := hab.2; omega
 obtain ⟨K0, h0⟩ := Qq h hl h5 (r1 := kP ((wE E).map ji.n)) (by omega) (fun x hx => by
  obtain ⟨e, he, e2⟩ := List.mem_map.mp (hper.mem_iff.mp hx)
  exact ⟨e, he, e2⟩) hsor E.length 0 (by omega)
 refine ⟨K0 + E.length + 1, fun K hK => ?_⟩; show same.f K (wE E) (mE E) a2 = some true; unfold same.f; rw [hsp, Option.bind_some, hlen, hm, bf (by simp)]; exact h0 K (by omega) K (by omega)
end Go.Proofs.Ytmjnenjeckeklaa.FlatP
