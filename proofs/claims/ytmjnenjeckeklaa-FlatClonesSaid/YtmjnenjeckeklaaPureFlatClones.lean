import Derived.Test.YtmjnenjeckeklaaFlatP7
import Derived.Test.YtmjnenjeckeklaaB9
namespace Go.Proofs.Ytmjnenjeckeklaa.FlatP
open Go Go.RowKit Go.Proofs.Ytmjnenjeckeklaa.Q Go.Proofs.YtmjnenjeckeklaaW.PrintWords Go.Proofs.Ytmjnenjeckeklaa.Bits Go.Proofs.Ytmjnenjeckeklaa.AreaLib Go.Proofs.Ytmjnenjeckeklaa.AreaEv Go.Proofs.Ytmjnenjeckeklaa.AreaRef Go.Proofs.Ytmjnenjeckeklaa.AreaFind Go.Proofs.Ytmjnenjeckeklaa.AreaEach
open Go.Proofs.Ytmjnenjeckeklaa.V hiding at_ jN
set_option linter.unusedVariables false
set_option linter.unusedSimpArgs false
attribute [local irreducible] mI
theorem Hh {a : List qW} (hw : ∀ x ∈ a, -9223372036854775808 ≤ x.f0 ∧ x.f0 ≤ 9223372036854775807) {i : Nat} (c : (i : Int) < (a.length : Int)) : -9223372036854775808 ≤ (a.getD (i : Int).toNat zD).f0 ∧ (a.getD (i : Int).toNat zD).f0 ≤ 9223372036854775807 :=
  hw _ (by
    rw [show (i : Int).toNat = i by omega, aH, aA (by omega)]
    exact fq _)
section
variable {a0 a1 : List qW} {r2 v3 : FW} {v4 : List Ms} {v5 : Int} {y6 : Bool} {kZ : FW} {mh : List Int} {v22 : FW} {v23 : List Ms} {v24 : FW} {v25 : Int} {v41 : FW} {qn : List Ms} {uw : FW} {v44 : List Ms} {nB : Int} {uu : List gu × Option Int}
theorem c5 (hw : ∀ x ∈ a1, -9223372036854775808 ≤ x.f0 ∧ x.f0 ≤ 9223372036854775807) {E0 : List En} (h0 : St E0) (hl0 : E0.length ≤ 1000) : ∀ (d i : Nat) (E : List En), St E → E.length ≤ 20 + i → i + d = 10 →
    ∃ K0, ∀ K, K0 ≤ K → ∀ k, d < k → FlatClones.l5 K a0 a1 true r2 v3 v4 v5 y6 kZ mh v22 v23 v24 v25 v41 qn uw v44 nB k (wE E0) (mE E0) (wE E) (mE E) (i : Int) = some true := by
 intro d
 induction d with
 | zero =>
  intro i E h hl hd; obtain ⟨K0, q⟩ := yu h0 hl0 (a2 := [0, 1, 2, 3]) (by decide); obtain ⟨K1, q1⟩ := yu h (by omega) (a2 := [0, 1, 2, 3]) (by decide); refine ⟨K0 + K1, fun K hK k hk => ?_⟩; obtain ⟨k, rfl⟩ : ∃ m, k = m + 1 := ⟨k - 1, by omega⟩; have s0 := q K (by omega); have s1 := q1 K (by omega); dsimp only at s0 s1
  have hj : FlatClones.j3 K a0 a1 true r2 v3 v4 v5 y6 kZ mh v22 v23 v24 v25 v41 qn uw v44 nB (wE E0) (mE E0) (wE E) (mE E) (i : Int) = some false := by
   unfold FlatClones.j3; by_cases c : (i : Int) < (a1.length : Int)
   · rw [bd c, aY (by omega)]
   · rw [bn c]
  rw [FlatClones.l5, hj, aq, bf rfl, bt rfl, s0, aq, bt rfl, s1]; rfl
 | succ d ih =>
  intro i E h hl hd; by_cases c : (i : Int) < (a1.length : Int)
  · obtain ⟨w0, w1⟩ := Hh hw c; obtain ⟨x, hx⟩ : ∃ x, x = a1.getD (i : Int).toNat zD := ⟨_, rfl⟩; rw [← hx] at w0 w1
    have hj3 : ∀ K, FlatClones.j3 K a0 a1 true r2 v3 v4 v5 y6 kZ mh v22 v23 v24 v25 v41 qn uw v44 nB (wE E0) (mE E0) (wE E) (mE E) (i : Int) = some true := fun K => by
     unfold FlatClones.j3; rw [bd c, ay (by omega)]
    obtain ⟨r, hr, _⟩ := uW x.f0 11 w0 w1 (by omega) (by omega)
    obtain ⟨b, hj4⟩ : ∃ b, ∀ K, FlatClones.j4 K a0 a1 true r2 v3 v4 v5 y6 kZ mh v22 v23 v24 v25 v41 qn uw v44 nB (wE E0) (mE E0) (wE E) (mE E) (i : Int) true = some b := by
     unfold FlatClones.j4; by_cases c2 : ((mE E).length : Int) > 5
     · refine ⟨decide (r < 2), fun K => ?_⟩; rw [bd c2, b2 (by omega) c, ← hx, hr]; rfl
     · exact ⟨false, fun K => by rw [bn c2]⟩
    cases b with
    | true =>
     obtain ⟨K0, q⟩ := ih (i + 1) E h (by omega) (by omega); refine ⟨K0, fun K hK k hk => ?_⟩; obtain ⟨k, rfl⟩ : ∃ m, k = m + 1 := ⟨k - 1, by omega⟩; rw [FlatClones.l5, hj3, aq, bt rfl, hj4, aq, bt rfl, Ce (by omega) (by omega)]; exact q K hK k (by omega)
    | false =>
     obtain ⟨E', h1, h2, K1, h3⟩ := Pq h (by omega) x w0 w1; obtain ⟨K0, q⟩ := ih (i + 1) E' h1 (by omega) (by omega); refine ⟨K0 + K1, fun K hK k hk => ?_⟩; obtain ⟨k, rfl⟩ : ∃ m, k = m + 1 := ⟨k - 1, by omega⟩; have h4 := h3 K (by omega); dsimp only at h4; rw [FlatClones.l5, hj3, aq, bt rfl, hj4, aq, bf rfl, b2 (by omega) c, ← hx, h4, aq, Ce (by omega) (by omega)]; exact q K (by omega) k (by omega)
  · obtain ⟨K0, q⟩ := yu h0 hl0 (a2 := [0, 1, 2, 3]) (by decide); obtain ⟨K1, q1⟩ := yu h (by omega) (a2 := [0, 1, 2, 3]) (by decide); refine ⟨K0 + K1, fun K hK k hk => ?_⟩; obtain ⟨k, rfl⟩ : ∃ m, k = m + 1 := ⟨k - 1, by omega⟩; have s0 := q K (by omega); have s1 := q1 K (by omega); dsimp only at s0 s1
    have hj : FlatClones.j3 K a0 a1 true r2 v3 v4 v5 y6 kZ mh v22 v23 v24 v25 v41 qn uw v44 nB (wE E0) (mE E0) (wE E) (mE E) (i : Int) = some false := by
     unfold FlatClones.j3; rw [bn c]
    rw [FlatClones.l5, hj, aq, bf rfl, bt rfl, s0, aq, bt rfl, s1]; rfl
theorem c4 (hw : ∀ x ∈ a1, -9223372036854775808 ≤ x.f0 ∧ x.f0 ≤ 9223372036854775807) {E : List En} (h : St E) (hl : E.length ≤ 20) : ∀ (B A : List En), E = A ++ B →
    ∃ K0, ∀ K, K0 ≤ K → ∀ k, B.length < k → FlatClones.l4 K a0 a1 true r2 v3 v4 v5 y6 kZ mh v22 v23 v24 v25 k (wE E) (mE E) (wE E) (mE A) ((mE A).length : Int) = some true := by
 intro B
 induction B with
 | nil =>
  intro A e; rw [bA] at e; subst e; obtain ⟨K0, q⟩ := c5 (a0 := a0) (r2 := r2) (v3 := v3) (v4 := v4) (v5 := v5) (y6 := y6) (kZ := kZ) (mh := mh) (v22 := v22) (v23 := v23) (v24 := v24) (v25 := v25) (v41 := wE E) (qn := mE E) (uw := wE E) (v44 := mE E) (nB := ((mE E).length : Int)) hw h (by omega) 10 0 E h (by omega) (by omega); refine ⟨K0 + 11, fun K hK k hk => ?_⟩; obtain ⟨k, rfl⟩ : ∃ m, k = m + 1 := ⟨k - 1, by omega⟩; rw [FlatClones.l4, bn (by omega)]; exact q K (by omega) K (by omega)
 | cons x B ih =>
  intro A e; obtain ⟨K0, q⟩ := ih (A ++ [x]) (by rw [e]; simp); refine ⟨K0, fun K hK k hk => ?_⟩; obtain ⟨k, rfl⟩ : ∃ m, k = m + 1 := ⟨k - 1, by omega⟩; have hx := h.g x (by rw [e]; simp); have hm : mE E = mE A ++ enc x :: mE B := by rw [e]; exact kP A B x
  have hlm : (mE A).length = A.length := ak ..; have hle : E.length = A.length + (B.length + 1) := by rw [e]; simp
  have hc : sy.f K (enc x) (enc x).n = some (enc x) := copy_eq hx K _; have q1 := q K hK k (by simp at hk; omega); rw [Fu, aI, cx] at q1; rw [FlatClones.l4]; rw [hm] at q1 ⊢; rw [bd (by rw [aI, bC]; omega), bt (IG _ _ _), bt (IG _ _ _), getM, hc, aq, bd (by omega), Ce (by omega) (by omega)]; exact q1
theorem c3 (K : Nat) (x1 : FW) (x2 : List Ms) (x3 : FW) : ∀ (d i : Nat) (l : List gu), i + d = l.length → l.length ≤ 1000 → ∀ k, d < k → ∃ q, FlatClones.l3 K a0 a1 true r2 v3 v4 v5 y6 kZ mh v22 v23 v24 v25 uu k x1 x2 x3 l (i : Int) = some (x1, x2, x3, q) := by
 intro d
 induction d with
 | zero =>
  intro i l hi hl k hk; obtain ⟨k, rfl⟩ : ∃ m, k = m + 1 := ⟨k - 1, by omega⟩; exact ⟨_, by rw [FlatClones.l3, bn (by omega)]⟩
 | succ d ih =>
  intro i l hi hl k hk; obtain ⟨k, rfl⟩ : ∃ m, k = m + 1 := ⟨k - 1, by omega⟩; obtain ⟨q, hq⟩ := ih (i + 1) (l.set (i : Int).toNat ⟨9, 0, ⟨false, false⟩, false⟩) (by rw [bV]; omega) (by rw [bV]; exact hl) k (by omega); exact ⟨q, by rw [FlatClones.l3, bd (by omega), b2 (by omega) (by omega), Ce (by omega) (by omega)]; exact hq⟩
theorem c2 (hw : ∀ x ∈ a1, -9223372036854775808 ≤ x.f0 ∧ x.f0 ≤ 9223372036854775807) {E : List En} (h : St E) (hl : E.length ≤ 20) (hr : ∀ x ∈ mh, ∃ e ∈ E, e.1.n = x) (yl : mh.length ≤ 1000) : ∀ (d i : Nat), i + d = mh.length →
    ∃ K0, ∀ K, K0 ≤ K → ∀ k, d < k → FlatClones.l2 K a0 a1 true r2 v3 v4 v5 y6 kZ mh k (wE E) (mE E) (wE E) (i : Int) = some true := by
 intro d
 induction d with
 | zero =>
  intro i hi; obtain ⟨K0, q⟩ := c4 (a0 := a0) (r2 := r2) (v3 := v3) (v4 := v4) (v5 := v5) (y6 := y6) (kZ := kZ) (mh := mh) (v22 := wE E) (v23 := mE E) (v24 := wE E) (v25 := (i : Int)) hw h hl E [] rfl; refine ⟨K0 + 21, fun K hK k hk => ?_⟩; obtain ⟨k, rfl⟩ : ∃ m, k = m + 1 := ⟨k - 1, by omega⟩; rw [FlatClones.l2, bn (by omega)]; exact q K (by omega) K (by omega)
 | succ d ih =>
  intro i hi; obtain ⟨K0, q⟩ := ih (i + 1) (by omega)
  have hx : mh.getD ((i : Int)).toNat 0 ∈ mh := by
   rw [show (i : Int).toNat = i by omega, aH, aA (by omega)]; exact fq _
  obtain ⟨e0, Yo, hn0⟩ := hr _ hx
  obtain ⟨s, hs, hv⟩ : ∃ s, jQ (wE E) (mh.getD ((i : Int)).toNat 0) = some s ∧ valid s.l := by
   rcases split h (mh.getD ((i : Int)).toNat 0) with hno | ⟨A, e, B, rfl, e2, hA, hB⟩
   · exact absurd hn0 (hno e0 Yo)
   · rw [← e2]; exact ⟨e.1, ou hA, (h.g e (by simp)).v⟩
  have ar : sZ (wE E) (mh.getD ((i : Int)).toNat 0) = (s.l, none) := by unfold sZ; rw [hs]; rfl
  obtain ⟨K1, k1⟩ := AH (zu h.gw _) ar; have hvl := hv.2; refine ⟨K0 + K1 + 65, fun K hK k hk => ?_⟩; obtain ⟨k, rfl⟩ : ∃ m, k = m + 1 := ⟨k - 1, by omega⟩; have q1 := k1 K (by omega); dsimp only at q1; obtain ⟨z, hz⟩ := c3 (a0 := a0) (a1 := a1) (r2 := r2) (v3 := v3) (v4 := v4) (v5 := v5) (y6 := y6) (kZ := kZ) (mh := mh) (v22 := wE E) (v23 := mE E) (v24 := wE E) (v25 := (i : Int)) (uu := (s.l, none)) K (wE E) (mE E) (wE E) s.l.length 0 s.l (by omega) (by omega) K (by omega); rw [FlatClones.l2, bd (by omega), b2 (by omega) (by omega), q1, aq]; refine (bN (fun z => Option.bind z _) hz).trans ?_; rw [aq, Ce (by omega) (by omega)]; exact q K (by omega) k (by omega)
theorem Kr {E : List En} (h : St E) (K : Nat) : pz.f K (wE E) = some (wE E) := by
 have hk : pz.ok K (wE E) = true := aV.mpr fun s hs => by
  have h2 := (h.gw s hs).2; unfold nK.f; rw [bd (by simp only [cW, aG]; omega)]; rfl
 unfold pz.f Ix.f; rw [aq, hk]; rfl
theorem c1 (hw0 : ∀ x ∈ a0, -9223372036854775808 ≤ x.f0 ∧ x.f0 ≤ 9223372036854775807) (hw : ∀ x ∈ a1, -9223372036854775808 ≤ x.f0 ∧ x.f0 ≤ 9223372036854775807) :
    ∀ (d i : Nat) (E : List En), St E → E.length ≤ i → i + d = 20 → ∃ K0, ∀ K, K0 ≤ K → ∀ k, d < k → FlatClones.l1 K a0 a1 true r2 k (wE E) (mE E) (i : Int) = some true := by
 have hend : ∀ (i : Nat) (E : List En), St E → E.length ≤ 20 → ¬ ((i : Int) < (a0.length : Int) ∧ (i : Int) < 20) → ∃ K0, ∀ K, K0 ≤ K → ∀ k, FlatClones.l1 K a0 a1 true r2 (k + 1) (wE E) (mE E) (i : Int) = some true := by
  intro i E h hl hi; have hlen := Ks E; obtain ⟨K0, q⟩ := c2 (a0 := a0) (r2 := r2) (v3 := wE E) (v4 := mE E) (v5 := (i : Int)) (y6 := false) (kZ := wE E) (mh := oT ((wE E).map nj.n)) hw h hl (Kt E) (by omega) (oT ((wE E).map nj.n)).length 0 (by omega); refine ⟨K0 + 21, fun K hK k => ?_⟩
  have hj : FlatClones.j1 K a0 a1 true r2 (wE E) (mE E) (i : Int) = some false := by
   unfold FlatClones.j1; by_cases c : (i : Int) < (a0.length : Int)
   · rw [bd c, aY (fun d => hi ⟨c, d⟩)]
   · rw [bn c]
  rw [FlatClones.l1, hj, aq, bf rfl, Kr h, aq, Tz h (by omega), aq]; exact q K (by omega) K (by omega)
 intro d
 induction d with
 | zero =>
  intro i E h hl hd; obtain ⟨K0, q⟩ := hend i E h (by omega) (by omega); refine ⟨K0, fun K hK k hk => ?_⟩; obtain ⟨k, rfl⟩ : ∃ m, k = m + 1 := ⟨k - 1, by omega⟩; exact q K hK k
 | succ d ih =>
  intro i E h hl hd; by_cases c : (i : Int) < (a0.length : Int)
  · obtain ⟨w0, w1⟩ := Hh hw0 c; obtain ⟨x, hx⟩ : ∃ x, x = a0.getD (i : Int).toNat zD := ⟨_, rfl⟩; rw [← hx] at w0 w1
    have J6 : ∀ K, FlatClones.j1 K a0 a1 true r2 (wE E) (mE E) (i : Int) = some true := fun K => by
     unfold FlatClones.j1; rw [bd c, ay (by omega)]
    obtain ⟨r, hr, _⟩ := uW x.f0 11 w0 w1 (by omega) (by omega)
    obtain ⟨b, hj2⟩ : ∃ b, ∀ K, FlatClones.j2 K a0 a1 true r2 (wE E) (mE E) (i : Int) true = some b := by
     unfold FlatClones.j2; by_cases c2 : ((mE E).length : Int) > 5
     · refine ⟨decide (r < 2), fun K => ?_⟩; rw [bd c2, b2 (by omega) c, ← hx, hr]; rfl
     · exact ⟨false, fun K => by rw [bn c2]⟩
    cases b with
    | true =>
     obtain ⟨K0, q⟩ := ih (i + 1) E h (by omega) (by omega); refine ⟨K0, fun K hK k hk => ?_⟩; obtain ⟨k, rfl⟩ : ∃ m, k = m + 1 := ⟨k - 1, by omega⟩; rw [FlatClones.l1, J6, aq, bt rfl, hj2, aq, bt rfl, Ce (by omega) (by omega)]; exact q K hK k (by omega)
    | false =>
     obtain ⟨E', h1, h2, K1, h3⟩ := Pq h (by omega) x w0 w1; obtain ⟨K0, q⟩ := ih (i + 1) E' h1 (by omega) (by omega); refine ⟨K0 + K1, fun K hK k hk => ?_⟩; obtain ⟨k, rfl⟩ : ∃ m, k = m + 1 := ⟨k - 1, by omega⟩; have h4 := h3 K (by omega); dsimp only at h4; rw [FlatClones.l1, J6, aq, bt rfl, hj2, aq, bf rfl, b2 (by omega) c, ← hx, h4, aq, Ce (by omega) (by omega)]; exact q K (by omega) k (by omega)
  · obtain ⟨K0, q⟩ := hend i E h (by omega) (fun x => c x.1); refine ⟨K0, fun K hK k hk => ?_⟩; obtain ⟨k, rfl⟩ : ∃ m, k = m + 1 := ⟨k - 1, by omega⟩; exact q K hK k
end
theorem FlatClones.plain (a0 a1 : List qW) (hw0 : ∀ x ∈ a0, -9223372036854775808 ≤ x.f0 ∧ x.f0 ≤ 9223372036854775807) (hw : ∀ x ∈ a1, -9223372036854775808 ≤ x.f0 ∧ x.f0 ≤ 9223372036854775807) : ∃ K, FlatClones.f K a0 a1 = some true := by
 have he : St ([] : List En) := ⟨by simp, fun e he => by cases he⟩; obtain ⟨K0, h0⟩ := c1 (r2 := []) hw0 hw 20 0 [] he (by simp) rfl; obtain ⟨K1, h1⟩ := Tv; refine ⟨K0 + K1 + 21, ?_⟩; unfold FlatClones.f Ix.f; have h2 := h1 (K0 + K1 + 21) (by omega); dsimp only at h2; rw [h2, aq, aq]; exact h0 _ (by omega) _ (by omega)
end Go.Proofs.Ytmjnenjeckeklaa.FlatP
