import Derived.Test.YtmjnenjeckeklaaFlatP7
import Derived.Test.YtmjnenjeckeklaaB7
namespace Go.Proofs.Ytmjnenjeckeklaa.FlatP
open Go Go.RowKit Go.Proofs.Ytmjnenjeckeklaa.Q Go.Proofs.YtmjnenjeckeklaaW.PrintWords Go.Proofs.Ytmjnenjeckeklaa.Bits Go.Proofs.Ytmjnenjeckeklaa.AreaLib Go.Proofs.Ytmjnenjeckeklaa.AreaEv Go.Proofs.Ytmjnenjeckeklaa.AreaRef Go.Proofs.Ytmjnenjeckeklaa.AreaFind Go.Proofs.Ytmjnenjeckeklaa.AreaEach
open Go.Proofs.Ytmjnenjeckeklaa.V hiding at_ dn
set_option linter.unusedVariables false
set_option linter.unusedSimpArgs false
attribute [local irreducible] fW
def KX (K : Nat) (v3 : FW) (v4 : List Ms) (x : ye) (f : FW → List Ms → Option Bool) : Option Bool :=
  (Hr.f K v3 v4 x).bind fun (jz : FW × (List Ms) × Bool) => (bif !jz.2.2 then some false else (same.f K jz.1 jz.2.1 [x.f3, IntKind.i64.wrap (x.f3 + 1), x.f4]).bind fun (NH : Bool) => (bif !NH then some false else f jz.1 jz.2.1))
theorem G6 (a0 : List ye) (r2 : FW) (hw : ∀ x ∈ a0, -9223372036854775808 ≤ x.f0 ∧ x.f0 ≤ 9223372036854775807) :
    ∀ (d i : Nat) (E : List En), St E → E.length ≤ i → i + d = 40 → ∃ K0, ∀ K, K0 ≤ K → ∀ k, d < k → FlatPlays.l1 K a0 true r2 k (wE E) (mE E) (i : Int) = some true := by
 intro d
 induction d with
 | zero =>
  intro i E h hl hd; refine ⟨0, fun K _ k hk => ?_⟩; obtain ⟨k, rfl⟩ : ∃ m, k = m + 1 := ⟨k - 1, by omega⟩; rw [FlatPlays.l1]; by_cases c : (i : Int) < (a0.length : Int)
  · rw [bd c, bn (by omega)]
  · rw [bn c]
 | succ d ih =>
  intro i E h hl hd; by_cases c : (i : Int) < (a0.length : Int)
  · have hx : a0.getD (i : Int).toNat zD ∈ a0 := by
     rw [show (i : Int).toNat = i by omega, List.getD_eq_getElem?_getD, List.getElem?_eq_getElem (by omega)]; exact List.getElem_mem _
    obtain ⟨x, hxe⟩ : ∃ x, x = a0.getD (i : Int).toNat zD := ⟨_, rfl⟩; rw [← hxe] at hx; obtain ⟨w0, w1⟩ := hw _ hx; obtain ⟨r, hr, _⟩ := uv x.f0 11 w0 w1 (by omega) (by omega)
    have hstep : ∀ K k, FlatPlays.l1 K a0 true r2 (k + 1) (wE E) (mE E) (i : Int) = (bif decide (((mE E).length : Int) > 5) && decide (r < 2) then FlatPlays.l1 K a0 true r2 k (wE E) (mE E) ((i + 1 : Nat) : Int) else KX K (wE E) (mE E) x fun v3 v4 => FlatPlays.l1 K a0 true r2 k v3 v4 ((i + 1 : Nat) : Int)) := by
     intro K k; rw [FlatPlays.l1, bd c, bd (by omega), b2 (by omega) c, ← hxe, hr, Option.bind_some, DG (by omega) (by omega)]; by_cases c2 : ((mE E).length : Int) > 5
     · rw [bd c2, decide_eq_true c2]; by_cases c3 : r < 2
       · rw [bd c3, decide_eq_true c3]; rfl
       · rw [bn c3, decide_eq_false c3]; rfl
     · rw [bn c2, decide_eq_false c2]; rfl
    cases hb : decide (((mE E).length : Int) > 5) && decide (r < 2) with
    | true =>
     obtain ⟨K0, h0⟩ := ih (i + 1) E h (by omega) (by omega); refine ⟨K0, fun K hK k hk => ?_⟩; obtain ⟨k, rfl⟩ : ∃ m, k = m + 1 := ⟨k - 1, by omega⟩; rw [hstep, hb, bt rfl]; exact h0 K hK k (by omega)
    | false =>
     obtain ⟨E', h1, h2, K1, h3⟩ := Qr h (by omega) x w0 w1; obtain ⟨K0, h0⟩ := ih (i + 1) E' h1 (by omega) (by omega); obtain ⟨K2, h5⟩ := JS h1 (by omega) (a2 := [x.f3, IntKind.i64.wrap (x.f3 + 1), x.f4]) (by simp); refine ⟨K0 + K1 + K2, fun K hK k hk => ?_⟩; obtain ⟨k, rfl⟩ : ∃ m, k = m + 1 := ⟨k - 1, by omega⟩; have h4 := h3 K (by omega); have h6 := h5 K (by omega); dsimp only at h4 h6; rw [hstep, hb, bf rfl]; unfold KX; rw [h4, Option.bind_some]; show (same.f K (wE E') (mE E') _).bind _ = _; rw [h6, Option.bind_some]; exact h0 K (by omega) k (by omega)
  · refine ⟨0, fun K _ k hk => ?_⟩; obtain ⟨k, rfl⟩ : ∃ m, k = m + 1 := ⟨k - 1, by omega⟩; rw [FlatPlays.l1, bn c]
theorem FlatPlays.plain (a0 : List ye) (hw : ∀ x ∈ a0, -9223372036854775808 ≤ x.f0 ∧ x.f0 ≤ 9223372036854775807) : ∃ K, FlatPlays.f K a0 = some true := by
 have he : St ([] : List En) := ⟨by simp, fun e he => by cases he⟩; obtain ⟨K0, h0⟩ := G6 a0 [] hw 40 0 [] he (by simp) rfl; obtain ⟨K1, h1⟩ := Ox; refine ⟨K0 + K1 + 41, ?_⟩; unfold FlatPlays.f HE.f; have h2 := h1 (K0 + K1 + 41) (by omega); dsimp only at h2; rw [h2, Option.bind_some, Option.bind_some]; exact h0 _ (by omega) _ (by omega)
end Go.Proofs.Ytmjnenjeckeklaa.FlatP
