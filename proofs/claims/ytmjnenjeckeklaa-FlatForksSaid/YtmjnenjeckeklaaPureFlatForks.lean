import Derived.Test.YtmjnenjeckeklaaFlatP6
import Derived.Test.YtmjnenjeckeklaaB5
namespace Go.Proofs.Ytmjnenjeckeklaa.FlatP
open Go Go.RowKit Go.Proofs.Ytmjnenjeckeklaa.Q Go.Proofs.YtmjnenjeckeklaaW.PrintWords Go.Proofs.Ytmjnenjeckeklaa.Bits Go.Proofs.Ytmjnenjeckeklaa.AreaLib Go.Proofs.Ytmjnenjeckeklaa.AreaEv Go.Proofs.Ytmjnenjeckeklaa.AreaRef Go.Proofs.Ytmjnenjeckeklaa.AreaFind Go.Proofs.Ytmjnenjeckeklaa.AreaEach
open Go.Proofs.Ytmjnenjeckeklaa.V hiding at_ upd
set_option linter.unusedVariables false
set_option linter.unusedSimpArgs false
attribute [local irreducible] pgs
theorem same_loop (l : List S59) (hl : l.length ≤ 4000) : ∀ (d i : Nat), i + d = l.length → Ev (fun k => paviorref09_Same.l0 k l l (i : Int)) true := by
 intro d
 induction d with
 | zero =>
  intro i hi; refine ev_succ (ev_now (fun k => ?_)); simp only [paviorref09_Same.l0]; rw [if_neg (by omega)]
 | succ d ih =>
  intro i hi; refine Ev.step (fun k => ?_) (ih (i + 1) (by omega)); simp only [paviorref09_Same.l0]; rw [if_pos (by omega), if_pos (by omega), if_pos (by omega), if_neg (by simp), wrap64_of (by omega) (by omega)]; rfl
theorem same_ev (l : List S59) (hl : l.length ≤ 4000) : Ev (fun k => paviorref09_Same.f k l l) true := by
 have := same_loop l hl l.length 0 (by omega); unfold paviorref09_Same.f; simp only [if_true]; exact this
theorem fSame_ev {l : List S59} (h : valid l) : Ev (fun k => fSame.f k l l) true := by
 have h2 := h.2; refine Ev.congr (fun k => ?_) (same_ev l (by omega)); unfold fSame.f; rw [if_pos ⟨by omega, by omega⟩]
def forkJ (k : Nat) (r17 r18 : List S59 × Option Int) (r19 r20 : Int × Option Int) : Option (Sum Bool Bool) :=
  (bif !(r17.2 == none) then some (Sum.inr false) else (bif !(r18.2 == none) then some (Sum.inr false) else (fSame.f k r17.1 r18.1).bind fun (r26 : Bool) => (bif !r26 then some (Sum.inr false) else (bif r19.1 != r20.1 then some (Sum.inr false) else (Code.f k r19.2).bind fun (r31 : Int) => (Code.f k r20.2).bind fun (r32 : Int) => (bif r31 != r32 then some (Sum.inr false) else some (Sum.inl (r31 != r32)))))))
def forkTail (k : Nat) (v3 : FW) (a1 a2 a3 a4 : Int) : Option Bool :=
  (Fork.f k v3 a1 a2).bind fun (r16 : FW × (Option Int)) => (bif !(r16.2 == none) then some true else (Areas.f k r16.1 a1).bind fun (r17 : (List S59) × (Option Int)) => (Areas.f k r16.1 a2).bind fun (r18 : (List S59) × (Option Int)) => (Load.f k r16.1 a1 a3 a4).bind fun (r19 : Int × (Option Int)) => (Load.f k r16.1 a2 a3 a4).bind fun (r20 : Int × (Option Int)) => (forkJ k r17 r18 r19 r20).bind fun (y21 : Sum (Bool) (Bool)) => Sum.elim (fun (y21v : Bool) => (Unmap.f k r16.1 a2 0 4096).bind fun (r33 : FW × (Option Int)) => (V.End.f k r33.1 a2).bind fun (r34 : FW × (Option Int)) => (Areas.f k r34.1 a1).bind fun (r35 : (List S59) × (Option Int)) => (Load.f k r34.1 a1 a3 a4).bind fun (r36 : Int × (Option Int)) => (Areas.f k r34.1 a2).bind fun (r37 : (List S59) × (Option Int)) => (bif r34.2 == none then (bif r35.2 == none then (fSame.f k r17.1 r35.1).bind fun (r41 : Bool) => (bif r41 then (bif r36.1 == r19.1 then (Code.f k r36.2).bind fun (r44 : Int) => (Code.f k r19.2).bind fun (r45 : Int) => (bif r44 == r45 then some (r37.2 == (some 3)) else some false) else some false) else some false) else some false) else some false)) some y21)
theorem forks_end (K k : Nat) (a0 : List D10) (a1 a2 a3 a4 : Int) (r2 v3 : FW) (v4 : List Ms) (v5 : Int) (h : ¬ (v5 < (a0.length : Int) ∧ v5 < 20)) : FlatForks.l1 K a0 a1 a2 a3 a4 true r2 (k + 1) v3 v4 v5 = forkTail K v3 a1 a2 a3 a4 := by
 have hj : FlatForks.j1 K a0 a1 a2 a3 a4 true r2 v3 v4 v5 = some false := by
  unfold FlatForks.j1; by_cases c : v5 < (a0.length : Int)
  · rw [bd c, decide_eq_false (fun d => h ⟨c, d⟩)]
  · rw [bn c]
 unfold FlatForks.l1 forkTail; rw [hj]; simp only [Option.bind_some, cond_false, cond_true]; rfl
theorem pick_wf {c : Int} (h0 : -9223372036854775808 ≤ c) (h1 : c ≤ 9223372036854775807) : ∃ r, paviorlaw10_pick.f c 11 = some r := by
 obtain ⟨r, hr, _⟩ := pick_range c 11 h0 h1 (by omega) (by omega); exact ⟨r, hr⟩
theorem forks_go (a0 : List D10) (a1 a2 a3 a4 : Int) (r2 : FW) (hw : ∀ x ∈ a0, -9223372036854775808 ≤ x.f0 ∧ x.f0 ≤ 9223372036854775807) (ht : ∀ E, St E → Ev (fun K => forkTail K (wE E) a1 a2 a3 a4) true) :
    ∀ (d i : Nat) (E : List En), St E → E.length ≤ i → i + d = 20 → ∃ K0, ∀ K, K0 ≤ K → ∀ k, d < k → FlatForks.l1 K a0 a1 a2 a3 a4 true r2 k (wE E) (mE E) (i : Int) = some true := by
 intro d
 induction d with
 | zero =>
  intro i E h hl hd; obtain ⟨K0, h0⟩ := ht E h; refine ⟨K0, fun K hK k hk => ?_⟩; obtain ⟨k, rfl⟩ : ∃ m, k = m + 1 := ⟨k - 1, by omega⟩; rw [forks_end K k a0 a1 a2 a3 a4 r2 _ _ _ (by omega)]; exact h0 K hK
 | succ d ih =>
  intro i E h hl hd; by_cases c : (i : Int) < (a0.length : Int)
  · have hx : a0.getD (i : Int).toNat zD ∈ a0 := by
     rw [show (i : Int).toNat = i by omega, List.getD_eq_getElem?_getD, List.getElem?_eq_getElem (by omega)]; exact List.getElem_mem _
    obtain ⟨w0, w1⟩ := hw _ hx
    have hj1 : ∀ K v3 v4, FlatForks.j1 K a0 a1 a2 a3 a4 true r2 v3 v4 (i : Int) = some true := fun K v3 v4 => by
     unfold FlatForks.j1; rw [bd c, decide_eq_true (by omega)]
    obtain ⟨r, hr⟩ := pick_wf w0 w1
    obtain ⟨b, hj2⟩ : ∃ b, ∀ K, FlatForks.j2 K a0 a1 a2 a3 a4 true r2 (wE E) (mE E) (i : Int) true = some b := by
     unfold FlatForks.j2; by_cases c2 : ((mE E).length : Int) > 5
     · refine ⟨decide (r < 2), fun K => ?_⟩; rw [bd c2, b2 (by omega) c, hr]; rfl
     · exact ⟨false, fun K => by rw [bn c2]⟩
    have hstep : ∀ K k, FlatForks.l1 K a0 a1 a2 a3 a4 true r2 (k + 1) (wE E) (mE E) (i : Int) = (bif b then FlatForks.l1 K a0 a1 a2 a3 a4 true r2 k (wE E) (mE E) ((i + 1 : Nat) : Int) else (do_.f K (wE E) (mE E) (a0.getD (i : Int).toNat zD)).bind fun (r15 : FW × (List Ms) × Bool) => FlatForks.l1 K a0 a1 a2 a3 a4 true r2 k r15.1 r15.2.1 ((i + 1 : Nat) : Int)) := by
     intro K k; rw [FlatForks.l1, hj1, Option.bind_some, bt rfl, hj2, Option.bind_some, b2 (by omega) c, w64 (by omega) (by omega)]; rfl
    cases b with
    | true =>
     obtain ⟨K0, h0⟩ := ih (i + 1) E h (by omega) (by omega); refine ⟨K0, fun K hK k hk => ?_⟩; obtain ⟨k, rfl⟩ : ∃ m, k = m + 1 := ⟨k - 1, by omega⟩; rw [hstep, bt rfl]; exact h0 K hK k (by omega)
    | false =>
     obtain ⟨E', h1, h2, K1, h3⟩ := do_ev h (by omega) (a0.getD (i : Int).toNat zD) w0 w1; obtain ⟨K0, h0⟩ := ih (i + 1) E' h1 (by omega) (by omega); refine ⟨K0 + K1, fun K hK k hk => ?_⟩; obtain ⟨k, rfl⟩ : ∃ m, k = m + 1 := ⟨k - 1, by omega⟩; have h4 := h3 K (by omega); dsimp only at h4; rw [hstep, bf rfl, h4, Option.bind_some]; exact h0 K (by omega) k (by omega)
  · obtain ⟨K0, h0⟩ := ht E h; refine ⟨K0, fun K hK k hk => ?_⟩; obtain ⟨k, rfl⟩ : ∃ m, k = m + 1 := ⟨k - 1, by omega⟩; rw [forks_end K k a0 a1 a2 a3 a4 r2 _ _ _ (by omega)]; exact h0 K hK
theorem load_ok (W : FW) (n p i : Int) : okc (loadV W n p i).2 := by
 unfold loadV
 cases getW W n with
 | none => exact ok3
 | some s =>
  simp only [Option.elim]; split
  · split
    · exact ok3
    · exact ok0
  · exact ok1
theorem fork_tail {W : FW} (hW : GW W) (n c p i : Int) : Ev (fun K => forkTail K W n c p i) true := by
 unfold forkTail; refine Ev.bind (fork_ev hW n c) ?_; by_cases hc : 1 ≤ c ∧ c ≤ 255
 case neg => simp only [forkV, if_neg hc]; exact Ev.now _
 cases hs : getW W n with
 | none => simp only [forkV, if_pos hc, hs, Option.elim]; exact Ev.now _
 | some s =>
  cases hd : getW W c with
  | some _ => simp only [forkV, if_pos hc, hs, hd, Option.elim]; exact Ev.now _
  | none =>
   have hv : valid s.l := hW s (getW_mem hs); have hn : n ≠ c := fun e => by rw [← e, hs] at hd; cases hd
   obtain ⟨X, hX⟩ : ∃ X, X = W ++ [(⟨c, s.l, s.ps⟩ : Sp)] := ⟨_, rfl⟩; have hf : forkV W n c = (X, none) := by rw [hX]; simp only [forkV, if_pos hc, hs, hd, Option.elim]
   have gX : GW X := by have := hW.fork n c; rw [hf] at this; exact this
   have x1 : getW X n = some s := by rw [hX, getW_app, hs]; rfl
   have x2 : getW X c = some ⟨c, s.l, s.ps⟩ := by rw [hX, getW_app, hd, if_pos rfl]; rfl
   rw [hf]; clear hX hf; have ar1 : areasV X n = (s.l, none) := by unfold areasV; rw [x1]; rfl
   have ar2 : areasV X c = (s.l, none) := by unfold areasV; rw [x2]; rfl
   have ld : loadV X c p i = loadV X n p i := by unfold loadV; rw [x1, x2]; rfl
   simp only [show (!((none : Option Int) == none)) = false from rfl, cond_false]; refine Ev.bind (evTo (areas_ev gX n) ar1) (Ev.bind (evTo (areas_ev gX c) ar2) (Ev.bind (load_ev gX n p i) (Ev.bind (evTo (load_ev gX c p i) ld) ?_))); have lok := load_ok X n p i; obtain ⟨L, hL⟩ : ∃ L, L = loadV X n p i := ⟨_, rfl⟩; rw [← hL] at lok ⊢; refine Ev.bind (a := Sum.inl false) ?_ ?_
   · unfold forkJ; refine Ev.bind (fSame_ev hv) ?_; simp only [Bool.not_true, cond_false, bne_self_eq_false]; refine Ev.bind (code_ev lok) (Ev.bind (code_ev lok) ?_); simp only [bne_self_eq_false, cond_false]; exact Ev.now _
   · simp only [Sum.elim_inl]
     have key : GW (overV X c (unmapL 0 4096) 0 4096).1 ∧ getW (overV X c (unmapL 0 4096) 0 4096).1 n = some s ∧ ∃ t, getW (overV X c (unmapL 0 4096) 0 4096).1 c = some t := by
      refine ⟨gX.over c 0 4096 (unmap_valid 0 4096), ?_, ?_⟩
      · unfold overV withV; rw [x2]; simp only [Option.elim]; split
        · exact (getW_other hn).trans x1
        · exact x1
      · unfold overV withV; rw [x2]; simp only [Option.elim]; split
        · exact ⟨_, getW_put x2⟩
        · exact ⟨_, x2⟩
     obtain ⟨Y, e, hY⟩ : ∃ Y e, overV X c (unmapL 0 4096) 0 4096 = (Y, e) := ⟨_, _, rfl⟩; rw [hY] at key; obtain ⟨gY, y1, y2⟩ := key; refine Ev.bind (evTo (unmap_ev gX c 0 4096) hY) ?_; obtain ⟨t, y2⟩ := y2; obtain ⟨Z, hZ⟩ : ∃ Z, Z = Y.filter (fun s => s.n != c) := ⟨_, rfl⟩; have he : endV Y c = (Z, none) := by rw [hZ]; unfold endV; rw [y2]; rfl
     have gZ : GW Z := by have := gY.end_ c; rw [he] at this; exact this
     have z1 : getW Z n = some s := by rw [hZ, getW_end, if_neg hn, y1]
     have z2 : getW Z c = none := by rw [hZ, getW_end, if_pos rfl]
     have ar3 : areasV Z n = (s.l, none) := by unfold areasV; rw [z1]; rfl
     have ar4 : areasV Z c = ([], some 3) := by unfold areasV; rw [z2]; rfl
     have ld2 : loadV Z n p i = L := by rw [hL]; unfold loadV; rw [x1, z1]
     refine Ev.bind (evTo (end_ev Y c) he) (Ev.bind (evTo (areas_ev gZ n) ar3) (Ev.bind (evTo (load_ev gZ n p i) ld2) (Ev.bind (evTo (areas_ev gZ c) ar4) ?_))); simp only [show ((none : Option Int) == none) = true from rfl, cond_true, beq_self_eq_true]; refine Ev.bind (fSame_ev hv) ?_; simp only [cond_true]; refine Ev.bind (code_ev lok) (Ev.bind (code_ev lok) ?_); simp only [beq_self_eq_true, cond_true]; exact Ev.now _
theorem FlatForks.plain (a0 : List D10) (a1 a2 a3 a4 : Int) (hw : ∀ x ∈ a0, -9223372036854775808 ≤ x.f0 ∧ x.f0 ≤ 9223372036854775807) : ∃ K, FlatForks.f K a0 a1 a2 a3 a4 = some true := by
 have he : St ([] : List En) := ⟨by simp, fun e he => by cases he⟩; obtain ⟨K0, h0⟩ := forks_go a0 a1 a2 a3 a4 [] hw (fun E h => fork_tail h.gw a1 a2 a3 a4) 20 0 [] he (by simp) rfl; obtain ⟨K1, h1⟩ := up_ev; refine ⟨K0 + K1 + 21, ?_⟩; unfold FlatForks.f New.f; have h2 := h1 (K0 + K1 + 21) (by omega); dsimp only at h2; rw [h2, Option.bind_some, Option.bind_some]; exact h0 _ (by omega) _ (by omega)
end Go.Proofs.Ytmjnenjeckeklaa.FlatP
