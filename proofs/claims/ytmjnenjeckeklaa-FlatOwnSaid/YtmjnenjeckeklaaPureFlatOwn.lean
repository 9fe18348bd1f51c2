import Derived.Test.YtmjnenjeckeklaaFlatP6
import Derived.Test.YtmjnenjeckeklaaB4
namespace Go.Proofs.Ytmjnenjeckeklaa.FlatP
open Go Go.RowKit Go.Proofs.Ytmjnenjeckeklaa.Q Go.Proofs.YtmjnenjeckeklaaW.PrintWords Go.Proofs.Ytmjnenjeckeklaa.Bits Go.Proofs.Ytmjnenjeckeklaa.AreaLib Go.Proofs.Ytmjnenjeckeklaa.AreaEv Go.Proofs.Ytmjnenjeckeklaa.AreaRef Go.Proofs.Ytmjnenjeckeklaa.AreaFind Go.Proofs.Ytmjnenjeckeklaa.AreaEach
open Go.Proofs.Ytmjnenjeckeklaa.V hiding at_ upd
set_option linter.unusedVariables false
set_option linter.unusedSimpArgs false
attribute [local irreducible] pgs
def ownTail (k : Nat) (v3 : FW) (a1 a2 a3 a4 : Int) (a5 : S25) : Option Bool :=
  (V.Store.f k v3 a1 a2 a3 a4).bind fun (r16 : FW × (Option Int)) => (bif !(r16.2 == none) then some true else (Protect.f k r16.1 a1 a2 (IntKind.i64.wrap (a2 + 1)) a5).bind fun (r17 : FW × (Option Int)) => (Fork.f k r17.1 a1 255).bind fun (r18 : FW × (Option Int)) => (bif r18.2 == none then (V.Store.f k r18.1 255 a2 a3 (IntKind.u64.wrap (a4 + 1))).bind fun (r20 : FW × (Option Int)) => (V.End.f k r20.1 255).bind fun (r21 : FW × (Option Int)) => some r21.1 else some r18.1).bind fun (y19 : FW) => (Load.f k y19 a1 a2 a3).bind fun (r22 : Int × (Option Int)) => (V.Map.f k y19 a1 a2 (IntKind.i64.wrap (a2 + 1)) a5).bind fun (r23 : FW × (Option Int)) => (Load.f k r23.1 a1 a2 a3).bind fun (r24 : Int × (Option Int)) =>
    (bif r17.2 == none || r17.2 == some 5 then (bif r22.2 == none && r22.1 == a4 then (bif (r23.2 == none && (r24.2 == none && r24.1 == 0)) || (r23.2 == some 5 && (r24.2 == none && r24.1 == a4)) then some true else some false) else some false) else some false))
theorem own_end (K k : Nat) (a0 : List D10) (a1 a2 a3 a4 : Int) (a5 : S25) (r2 v3 : FW) (v4 : List Ms) (v5 : Int) (h : ¬ (v5 < (a0.length : Int) ∧ v5 < 20)) : FlatOwn.l1 K a0 a1 a2 a3 a4 a5 true r2 (k + 1) v3 v4 v5 = ownTail K v3 a1 a2 a3 a4 a5 := by
 have hj : FlatOwn.j1 K a0 a1 a2 a3 a4 a5 true r2 v3 v4 v5 = some false := by
  unfold FlatOwn.j1; by_cases c : v5 < (a0.length : Int)
  · rw [bd c, decide_eq_false (fun d => h ⟨c, d⟩)]
  · rw [bn c]
 unfold FlatOwn.l1 ownTail FlatOwn.j3; rw [hj]; simp only [Option.bind_some, cond_false, cond_true]; refine congrArg _ (funext fun r16 => congrArg _ (congrArg _ (funext fun r17 => congrArg _ (funext fun r18 => congrArg _ (funext fun y19 => congrArg _ (funext fun r22 => congrArg _ (funext fun r23 => congrArg _ (funext fun r24 => ?_)))))))); cases (r17.2 == none) <;> cases (r17.2 == some 5) <;> cases (r22.2 == none) <;> cases (r22.1 == a4) <;> cases (r23.2 == none) <;> cases (r23.2 == some 5) <;> cases (r24.2 == none) <;> cases (r24.1 == 0) <;> cases (r24.1 == a4) <;> rfl
theorem pick_wf {c : Int} (h0 : -9223372036854775808 ≤ c) (h1 : c ≤ 9223372036854775807) : ∃ r, paviorlaw10_pick.f c 11 = some r := by
 obtain ⟨r, hr, _⟩ := pick_range c 11 h0 h1 (by omega) (by omega); exact ⟨r, hr⟩
theorem own_go (a0 : List D10) (a1 a2 a3 a4 : Int) (a5 : S25) (r2 : FW) (hw : ∀ x ∈ a0, -9223372036854775808 ≤ x.f0 ∧ x.f0 ≤ 9223372036854775807) (ht : ∀ E, St E → Ev (fun K => ownTail K (wE E) a1 a2 a3 a4 a5) true) :
    ∀ (d i : Nat) (E : List En), St E → E.length ≤ i → i + d = 20 → ∃ K0, ∀ K, K0 ≤ K → ∀ k, d < k → FlatOwn.l1 K a0 a1 a2 a3 a4 a5 true r2 k (wE E) (mE E) (i : Int) = some true := by
 intro d
 induction d with
 | zero =>
  intro i E h hl hd; obtain ⟨K0, h0⟩ := ht E h; refine ⟨K0, fun K hK k hk => ?_⟩; obtain ⟨k, rfl⟩ : ∃ m, k = m + 1 := ⟨k - 1, by omega⟩; rw [own_end K k a0 a1 a2 a3 a4 a5 r2 _ _ _ (by omega)]; exact h0 K hK
 | succ d ih =>
  intro i E h hl hd; by_cases c : (i : Int) < (a0.length : Int)
  · have hx : a0.getD (i : Int).toNat zD ∈ a0 := by
     rw [show (i : Int).toNat = i by omega, List.getD_eq_getElem?_getD, List.getElem?_eq_getElem (by omega)]; exact List.getElem_mem _
    obtain ⟨w0, w1⟩ := hw _ hx
    have hj1 : ∀ K v3 v4, FlatOwn.j1 K a0 a1 a2 a3 a4 a5 true r2 v3 v4 (i : Int) = some true := fun K v3 v4 => by
     unfold FlatOwn.j1; rw [bd c, decide_eq_true (by omega)]
    obtain ⟨r, hr⟩ := pick_wf w0 w1
    obtain ⟨b, hj2⟩ : ∃ b, ∀ K, FlatOwn.j2 K a0 a1 a2 a3 a4 a5 true r2 (wE E) (mE E) (i : Int) true = some b := by
     unfold FlatOwn.j2; by_cases c2 : ((mE E).length : Int) > 5
     · refine ⟨decide (r < 2), fun K => ?_⟩; rw [bd c2, b2 (by omega) c, hr]; rfl
     · exact ⟨false, fun K => by rw [bn c2]⟩
    have hstep : ∀ K k, FlatOwn.l1 K a0 a1 a2 a3 a4 a5 true r2 (k + 1) (wE E) (mE E) (i : Int) = (bif b then FlatOwn.l1 K a0 a1 a2 a3 a4 a5 true r2 k (wE E) (mE E) ((i + 1 : Nat) : Int) else (do_.f K (wE E) (mE E) (a0.getD (i : Int).toNat zD)).bind fun (r15 : FW × (List Ms) × Bool) => FlatOwn.l1 K a0 a1 a2 a3 a4 a5 true r2 k r15.1 r15.2.1 ((i + 1 : Nat) : Int)) := by
     intro K k; rw [FlatOwn.l1, hj1, Option.bind_some, bt rfl, hj2, Option.bind_some, b2 (by omega) c, w64 (by omega) (by omega)]; rfl
    cases b with
    | true =>
     obtain ⟨K0, h0⟩ := ih (i + 1) E h (by omega) (by omega); refine ⟨K0, fun K hK k hk => ?_⟩; obtain ⟨k, rfl⟩ : ∃ m, k = m + 1 := ⟨k - 1, by omega⟩; rw [hstep, bt rfl]; exact h0 K hK k (by omega)
    | false =>
     obtain ⟨E', h1, h2, K1, h3⟩ := do_ev h (by omega) (a0.getD (i : Int).toNat zD) w0 w1; obtain ⟨K0, h0⟩ := ih (i + 1) E' h1 (by omega) (by omega); refine ⟨K0 + K1, fun K hK k hk => ?_⟩; obtain ⟨k, rfl⟩ : ∃ m, k = m + 1 := ⟨k - 1, by omega⟩; have h4 := h3 K (by omega); dsimp only at h4; rw [hstep, bf rfl, h4, Option.bind_some]; exact h0 K (by omega) k (by omega)
  · obtain ⟨K0, h0⟩ := ht E h; refine ⟨K0, fun K hK k hk => ?_⟩; obtain ⟨k, rfl⟩ : ∃ m, k = m + 1 := ⟨k - 1, by omega⟩; rw [own_end K k a0 a1 a2 a3 a4 a5 r2 _ _ _ (by omega)]; exact h0 K hK
theorem own_tail {W : FW} (hW : GW W) (n p i v : Int) (r : S25) : Ev (fun K => ownTail K W n p i v r) true := by
 unfold ownTail; refine Ev.bind (store_ev hW n p i v) ?_
 cases hs : getW W n with
 | none => simp only [storeV, hs, Option.elim]; exact Ev.now _
 | some s =>
  by_cases c : 0 ≤ i ∧ i < 8
  case neg => simp only [storeV, hs, Option.elim, if_neg c]; exact Ev.now _
  cases ha : at_ s.l p with
  | none => simp only [storeV, hs, Option.elim, if_pos c, ha]; exact Ev.now _
  | some a =>
   by_cases hb : a.1 = true
   case neg => simp only [storeV, hs, Option.elim, if_pos c, ha, if_neg hb]; exact Ev.now _
   obtain ⟨W1, e1⟩ : ∃ W1, W1 = setW n (fun t : Sp => { t with ps := putP p (upd8 (getPD zw s.ps p) i.toNat v) t.ps }) W := ⟨_, rfl⟩; have hst : storeV W n p i v = (W1, none) := by rw [e1]; simp only [storeV, hs, Option.elim, if_pos c, ha, if_pos hb]
   have g1 : GW W1 := by have := hW.store n p i v; rw [hst] at this; exact this
   have q1 : getW W1 n = some { s with ps := putP p (upd8 (getPD zw s.ps p) i.toNat v) s.ps } := by
    rw [e1]; exact getW_put hs
   rw [hst]; clear e1 hst; have hv : valid s.l := hW s (getW_mem hs); obtain ⟨p0, p1⟩ := at_in hv ha; have hsp : spanP p (p + 1) := ⟨p0, by omega, by omega⟩; rw [w64 (n := p + 1) (by omega) (by omega)]; simp only [show (!((none : Option Int) == none)) = false from rfl, cond_false]; refine Ev.bind (protect_ev g1 n p (p + 1) r) ?_
   obtain ⟨W2, g, hp2, hg, g2, s2, q2, hps, ha2⟩ : ∃ W2 g, overV W1 n (chgL (area_Change.of r.f0 r.f1) p (p + 1)) 0 0 = (W2, g) ∧ (g = none ∨ g = some 5) ∧ GW W2 ∧ ∃ s2, getW W2 n = some s2 ∧ s2.ps = putP p (upd8 (getPD zw s.ps p) i.toNat v) s.ps ∧ ∃ a2, at_ s2.l p = some a2 := by
    have g2 := g1.over n 0 0 (chg_valid (keepsR r.f0 r.f1) p (p + 1))
    have hno : ¬ sumL (cut p (p + 1) s.l) < p + 1 - p := fun x => by
     obtain ⟨q, x1, x2, x3⟩ := (sum_none hv.1 hsp).mp x; obtain rfl : q = p := by omega
     rw [ha] at x3; cases x3
    unfold overV at g2 ⊢; rw [q1] at g2 ⊢; simp only [Option.elim, chgL, if_pos hsp, if_neg hno, withV, fin] at g2 ⊢; by_cases cl : (eachL (area_Change.of r.f0 r.f1) s.l p (p + 1)).length ≤ 64
    · simp only [if_pos cl, if_true] at g2 ⊢; refine ⟨_, _, rfl, .inl rfl, g2, _, getW_put q1, filter_all _, withR r.f0 r.f1 a, ?_⟩; show at_ (eachL (area_Change.of r.f0 r.f1) s.l p (p + 1)) p = _; rw [each_at (keepsR r.f0 r.f1) hv.1 hsp, if_pos (by omega), ha]; rfl
    · simp only [if_neg cl] at g2 ⊢; exact ⟨W1, some 5, by simp, .inr rfl, g1, _, q1, rfl, a, ha⟩
   rw [hp2]; clear hp2; refine Ev.bind (fork_ev g2 n 255) ?_
   obtain ⟨W5, g5, q5, h5⟩ : ∃ W5, GW W5 ∧ getW W5 n = some s2 ∧ Ev (fun k => (bif (forkV W2 n 255).2 == none then (V.Store.f k (forkV W2 n 255).1 255 p i (IntKind.u64.wrap (v + 1))).bind fun (r20 : FW × (Option Int)) => (V.End.f k r20.1 255).bind fun (r21 : FW × (Option Int)) => some r21.1 else some (forkV W2 n 255).1)) W5 := by
    have g3 := g2.fork n 255; by_cases cf : getW W2 255 = none
    · have hf : forkV W2 n 255 = (W2 ++ [⟨255, s2.l, s2.ps⟩], none) := by
       unfold forkV; rw [if_pos (by omega), q2, cf]; rfl
      rw [hf] at g3 ⊢; have hn : n ≠ 255 := fun e => by rw [← e, q2] at cf; cases cf
      obtain ⟨X, hX⟩ : ∃ X, X = W2 ++ [(⟨255, s2.l, s2.ps⟩ : Sp)] := ⟨_, rfl⟩; have qX : getW X n = some s2 := by rw [hX, getW_app, q2]; rfl
      have qX2 : ∃ s, getW X 255 = some s := by rw [hX, getW_app, cf, if_pos rfl]; exact ⟨_, rfl⟩
      simp only [← hX] at g3 ⊢; have g4 := g3.store 255 p i (IntKind.u64.wrap (v + 1))
      have sx : getW (storeV X 255 p i (IntKind.u64.wrap (v + 1))).1 n = some s2 ∧ ∃ s, getW (storeV X 255 p i (IntKind.u64.wrap (v + 1))).1 255 = some s := by
       obtain ⟨y, hy⟩ := qX2; unfold storeV; rw [hy]; simp only [Option.elim, if_pos c]
       cases at_ y.l p with
       | none => exact ⟨qX, y, hy⟩
       | some b =>
        simp only; by_cases hb : b.1 = true
        · rw [if_pos hb]; refine ⟨?_, ?_⟩
          · exact (getW_other hn).trans qX
          · exact ⟨_, getW_put hy⟩
        · rw [if_neg hb]; exact ⟨qX, y, hy⟩
      obtain ⟨sx1, y, sx2⟩ := sx; refine ⟨(endV (storeV X 255 p i (IntKind.u64.wrap (v + 1))).1 255).1, g4.end_ 255, ?_, ?_⟩
      · unfold endV; rw [sx2]; show getW (List.filter _ _) n = _; rw [getW_end, if_neg hn, sx1]
      · show Ev (fun k => (V.Store.f k X 255 p i (IntKind.u64.wrap (v + 1))).bind _) _; exact Ev.bind (store_ev g3 _ _ _ _) (Ev.bind (end_ev _ _) (Ev.now _))
    · obtain ⟨y, hy⟩ : ∃ y, getW W2 255 = some y := by
       cases hz : getW W2 255 with
       | none => exact absurd hz cf
       | some y => exact ⟨y, rfl⟩
      have hf : forkV W2 n 255 = (W2, some 4) := by
       unfold forkV; rw [if_pos (by omega), q2, hy]; rfl
      rw [hf]; exact ⟨W2, g2, q2, Ev.now _⟩
   refine Ev.bind h5 ?_; clear h5; obtain ⟨a2, ha2⟩ := ha2
   have hw : getPD zw s2.ps p i.toNat = v := by
    rw [hps, getPD_putP, if_pos rfl]; unfold upd8; rw [if_pos rfl]
   have hl : loadV W5 n p i = (v, none) := by
    unfold loadV; rw [q5]; simp only [Option.elim, if_pos c]; rw [if_neg (by rw [ha2]; simp), hw]
   refine Ev.bind (evTo (load_ev g5 n p i) hl) ?_; refine Ev.bind (map_ev g5 n p (p + 1) r) ?_; have hv5 : valid s2.l := g5 s2 (getW_mem q5); have g6 := g5.over n p (p + 1) (map_valid p (p + 1) r); have hgb : (g == none || g == some 5) = true := by rcases hg with rfl | rfl <;> rfl
   rw [hgb]; refine Ev.bind (load_ev g6 n p i) ?_; simp only [cond_true, beq_self_eq_true, Bool.and_self, Bool.true_and]; unfold overV; rw [q5]; simp only [Option.elim, mapL, if_pos hsp, withV, fin]; by_cases cl : (layL s2.l ⟨p, p + 1, ⟨r.f0, r.f1⟩, false⟩).length ≤ 64
   · simp only [if_pos cl, if_true]
     have q6 : getW (setW n (fun s => { s with l := layL s2.l ⟨p, p + 1, ⟨r.f0, r.f1⟩, false⟩, ps := s.ps.filter fun q => !inR p (p + 1) q.1 }) W5) n = some { s2 with l := layL s2.l ⟨p, p + 1, ⟨r.f0, r.f1⟩, false⟩, ps := s2.ps.filter fun q => !inR p (p + 1) q.1 } := by
      exact getW_put q5
     have hl6 : loadV (setW n (fun s => { s with l := layL s2.l ⟨p, p + 1, ⟨r.f0, r.f1⟩, false⟩, ps := s.ps.filter fun q => !inR p (p + 1) q.1 }) W5) n p i = (0, none) := by
      unfold loadV; rw [q6]; simp only [Option.elim, if_pos c]
      have hat : at_ (layL s2.l ⟨p, p + 1, ⟨r.f0, r.f1⟩, false⟩) p ≠ none := by
       rw [lay_at hv5.1 hsp]; show (if p ≤ p ∧ p < p + 1 then _ else _) ≠ none; rw [if_pos (by omega)]; exact fun e => by cases e
      rw [if_neg hat, getPD_filter, if_pos (by omega)]
     rw [hl6]; exact Ev.now _
   · simp only [if_neg cl]; simp only [reduceCtorEq, if_false]; rw [hl]; simp only [beq_self_eq_true]; rw [show ((some (5 : Int) : Option Int) == none) = false from rfl]; simp only [Bool.false_and, Bool.false_or, Bool.true_and, cond_true]; exact Ev.now _
theorem FlatOwn.plain (a0 : List D10) (a1 a2 a3 a4 : Int) (a5 : S25) (hw : ∀ x ∈ a0, -9223372036854775808 ≤ x.f0 ∧ x.f0 ≤ 9223372036854775807) : ∃ K, FlatOwn.f K a0 a1 a2 a3 a4 a5 = some true := by
 have he : St ([] : List En) := ⟨by simp, fun e he => by cases he⟩; obtain ⟨K0, h0⟩ := own_go a0 a1 a2 a3 a4 a5 [] hw (fun E h => own_tail h.gw a1 a2 a3 a4 a5) 20 0 [] he (by simp) rfl; obtain ⟨K1, h1⟩ := up_ev; refine ⟨K0 + K1 + 21, ?_⟩; unfold FlatOwn.f New.f; have h2 := h1 (K0 + K1 + 21) (by omega); dsimp only at h2; rw [h2, Option.bind_some, Option.bind_some]; exact h0 _ (by omega) _ (by omega)
end Go.Proofs.Ytmjnenjeckeklaa.FlatP
