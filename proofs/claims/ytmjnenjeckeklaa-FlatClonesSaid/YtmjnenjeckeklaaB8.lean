import Derived.Test.YtmjnenjeckeklaaB6
import Derived.Test.YtmjnenjeckeklaaVZh
import Derived.Lib.SlKeysI
namespace Go.Proofs.Ytmjnenjeckeklaa.V
open Go Go.RowKit Go.Proofs Go.Proofs.Ytmjnenjeckeklaa.Q
open Go.IntKind (i64)
open Go.IntKind (i64)
set_option linter.unusedVariables false
set_option linter.unusedSimpArgs false
set_option maxRecDepth 100000
abbrev gP (W : FW) : Az := Zf.gP 45 W
def Pm {β : Type} (x y : Option (FW × β)) : Prop := ∀ r, y = some r → ∃ W1, x = some (W1, r.2) ∧ W1.Perm r.1
theorem Pm.now {β : Type} {W W' : FW} (h : W'.Perm W) (c : β) : Pm (some (W', c)) (some (W, c)) := fun r e => by cases e; exact ⟨W', rfl, h⟩
theorem Pm.none {β : Type} {x : Option (FW × β)} : Pm x none := fun r e => by cases e
theorem Pm.bif {β : Type} {x y x' y' : Option (FW × β)} (c : Bool) (h : Pm x y) (h' : Pm x' y') : Pm (bif c then x else x') (bif c then y else y') := by cases c <;> assumption
theorem Pm.elim {β γ : Type} {z : Option γ} {x y : Option (FW × β)} {f g : γ → Option (FW × β)} (h : Pm x y) (h' : ∀ s, Pm (f s) (g s)) : Pm (z.elim x f) (z.elim y g) := by
 cases z with
 | none => exact h
 | some s => exact h' s
theorem Pm.pure {β γ : Type} {z : Option γ} {f g : γ → Option (FW × β)} (h : ∀ s, Pm (f s) (g s)) : Pm (z.bind f) (z.bind g) := by
 cases z with
 | none => exact Pm.none
 | some s => exact h s
theorem Pm.bind {β γ : Type} {x y : Option (FW × γ)} {f g : FW × γ → Option (FW × β)} (h : Pm x y) (h' : ∀ W' W c, W'.Perm W → Pm (f (W', c)) (g (W, c))) : Pm (x.bind f) (y.bind g) := by
 intro r e
 cases y with
 | none => cases e
 | some q =>
  obtain ⟨W1, rfl, h2⟩ := h q rfl; exact h' W1 q.1 q.2 h2 r e
theorem xC {W W' : FW} (hp : W'.Perm W) (k : Nat) : oh.f k W' = oh.f k W := by
 unfold oh.f oT; rw [hp.length_eq, hp.all_eq, mergeSort_of_perm_i (hp.map nj.n)]
theorem Dy {W W' : FW} (hp : W'.Perm W) (hn : (W'.map nj.n).Nodup) (k : Nat) (n : Int) : may.f k W' n = may.f k W n := by unfold may.f; rw [kJ hp hn]
theorem Be {W W' : FW} (hp : W'.Perm W) (hn : (W'.map nj.n).Nodup) (k : Nat) (n p i : Int) : ur.f k W' n p i = ur.f k W n p i := by unfold ur.f; rw [kJ hp hn]
theorem Bf {W W' : FW} (hp : W'.Perm W) (hn : (W'.map nj.n).Nodup) (k : Nat) (n p : Int) : ku.f k W' n p = ku.f k W n p := by unfold ku.f; rw [kJ hp hn]
theorem Ku {W W' : FW} (hp : W'.Perm W) (hn : (W'.map nj.n).Nodup) (k : Nat) (n p : Int) : lC.f k W' n p = lC.f k W n p := by unfold lC.f; rw [Bf hp hn]
theorem zv {W W' : FW} (hp : W'.Perm W) (hn : (W'.map nj.n).Nodup) (k : Nat) (n : Int) : p8.f k W' n = p8.f k W n := by unfold p8.f; rw [kJ hp hn]
theorem II {W W' : FW} (hp : W'.Perm W) (hn : (W'.map nj.n).Nodup) (k : Nat) (n : Int) : Pm (Make.f k W' n) (Make.f k W n) := by
 unfold Make.f; rw [Dy hp hn, kJ hp hn]; exact Pm.pure fun s => Pm.bif _ (Pm.now hp _) (Pm.elim (Pm.now (hp.append_right _) _) fun _ => Pm.none)
theorem Kv {W W' : FW} (hp : W'.Perm W) (hn : (W'.map nj.n).Nodup) (k : Nat) (n : Int) : Pm (End.f k W' n) (End.f k W n) := by
 unfold End.f; rw [kJ hp hn]; exact Pm.elim (Pm.now hp _) fun _ => Pm.now (hp.filter _) _
theorem IJ {W W' : FW} (hp : W'.Perm W) (hn : (W'.map nj.n).Nodup) (k : Nat) (n c : Int) : Pm (wT.f k W' n c) (wT.f k W n c) := by
 unfold wT.f; rw [Dy hp hn, kJ hp hn, kJ hp hn]; exact Pm.elim (Pm.bif _ (Pm.now hp _) (Pm.bif _ (Pm.now hp _) (Pm.now hp _))) fun _ => Pm.bif _ (Pm.now hp _) (Pm.bif _ (Pm.now hp _) (Pm.pure fun _ => Pm.bif _ (Pm.now hp _) (Pm.elim (Pm.pure fun _ => Pm.now (hp.append_right _) _) fun _ => Pm.none)))
theorem tU {W W' : FW} (hp : W'.Perm W) (hn : (W'.map nj.n).Nodup) (k : Nat) (n : Int) (l : List gu) (e : Option Int) (f t : Int) : Pm (pF.f k W' n l e f t) (pF.f k W n l e f t) := by
 unfold pF.f; rw [kJ hp hn]; exact Pm.bif _ (Pm.now hp _) (Pm.elim Pm.none fun _ => Pm.now ((hp.map _).map _) _)
theorem Dz {W W' : FW} (hp : W'.Perm W) (hn : (W'.map nj.n).Nodup) (k : Nat) (n f t : Int) (r : l6) : Pm (Map.f k W' n f t r) (Map.f k W n f t r) := by
 unfold Map.f; rw [kJ hp hn]; exact Pm.elim (Pm.now hp _) fun _ => Pm.pure fun _ => Pm.bind (tU hp hn _ _ _ _ _ _) fun _ _ _ h => Pm.now h _
theorem Fv {W W' : FW} (hp : W'.Perm W) (hn : (W'.map nj.n).Nodup) (k : Nat) (n f t : Int) : Pm (sS.f k W' n f t) (sS.f k W n f t) := by
 unfold sS.f; rw [kJ hp hn]; exact Pm.elim (Pm.now hp _) fun _ => Pm.pure fun _ => Pm.bind (tU hp hn _ _ _ _ _ _) fun _ _ _ h => Pm.now h _
theorem Cf {W W' : FW} (hp : W'.Perm W) (hn : (W'.map nj.n).Nodup) (k : Nat) (n f t : Int) (r : l6) : Pm (oN.f k W' n f t r) (oN.f k W n f t r) := by
 unfold oN.f; rw [kJ hp hn]; exact Pm.elim (Pm.now hp _) fun _ => Pm.pure fun _ => Pm.bind (tU hp hn _ _ _ _ _ _) fun _ _ _ h => Pm.now h _
theorem DA {W W' : FW} (hp : W'.Perm W) (hn : (W'.map nj.n).Nodup) (k : Nat) (n f t : Int) (b : Bool) : Pm (qH.f k W' n f t b) (qH.f k W n f t b) := by
 unfold qH.f; rw [kJ hp hn]; exact Pm.elim (Pm.now hp _) fun _ => Pm.pure fun _ => Pm.bind (tU hp hn _ _ _ _ _ _) fun _ _ _ h => Pm.now h _
theorem Fw {W W' : FW} (hp : W'.Perm W) (hn : (W'.map nj.n).Nodup) (k : Nat) (n p i v : Int) : Pm (pZ.f k W' n p i v) (pZ.f k W n p i v) := by
 unfold pZ.f; rw [Be hp hn, Bf hp hn, kJ hp hn]; exact Pm.pure fun _ => Pm.bif _ (Pm.now hp _) (Pm.pure fun _ => Pm.bif _ (Pm.now hp _) (Pm.bif _ (Pm.now hp _) (Pm.elim Pm.none fun _ => Pm.bif _ (Pm.now (hp.map _) _) Pm.none)))
theorem Nb {W W' : FW} (hp : W'.Perm W) (hn : (W'.map nj.n).Nodup) (k : Nat) (M : List Ms) (d : qW) : Pm (JN.f k W' M d) (JN.f k W M d) := by
 unfold JN.f; rw [Ku hp hn]; refine Pm.pure fun _ => ?_; refine Pm.bif _ (Pm.bind (II hp hn _ _) ?_) (Pm.bif _ (Pm.bind (IJ hp hn _ _ _) ?_) (Pm.bif _ (Pm.bind (Kv hp hn _ _) ?_) (Pm.bif _ (Pm.bind (Dz hp hn _ _ _ _ _) ?_) (Pm.bif _ (Pm.bind (Dz hp hn _ _ _ _ _) ?_) (Pm.bif _ (Pm.bind (Fv hp hn _ _ _ _) ?_) (Pm.bif _ (Pm.bind (Cf hp hn _ _ _ _ _) ?_) (Pm.bif _ (Pm.bind (DA hp hn _ _ _ _ _) ?_) (Pm.bif _ (Pm.pure fun _ => ?_) (Pm.bind (Fw hp hn _ _ _ _ _) ?_))))))))); (all_goals (try intro _ _ _ hq)); (all_goals (try have hq := hp)); (all_goals (repeat (first | exact Pm.now (by assumption) _ | exact Pm.none | refine Pm.pure fun _ => ?_ | refine Pm.bif _ ?_ ?_)))
theorem IK {W W' : FW} (hp : W'.Perm W) (hn : (W'.map nj.n).Nodup) (k : Nat) (M : List Ms) (l : List Int) : same.f k W' M l = same.f k W M l := by
 have hA := zv hp hn; have hL := Be hp hn
 have h3 : ∀ r1 v4 r7 y nL kZ qG v n i, same.l3 k W' M l r1 v4 r7 y nL kZ qG v n i = same.l3 k W M l r1 v4 r7 y nL kZ qG v n i := by
  intro r1 v4 r7 y nL kZ qG v n
  induction n with
  | zero => intro i; rfl
  | succ n ih =>
   intro i; have hj : same.j2 k W' = same.j2 k W := rfl; simp only [same.l3, hL, hj, ih]
 have h2 : ∀ r1 v4 r7 y nL kZ qG n i, same.l2 k W' M l r1 v4 r7 y nL kZ qG n i = same.l2 k W M l r1 v4 r7 y nL kZ qG n i := by
  intro r1 v4 r7 y nL kZ qG n
  induction n with
  | zero => intro i; rfl
  | succ n ih => intro i; simp only [same.l2, h3, ih]
 have h1 : ∀ r1 n i, same.l1 k W' M l r1 n i = same.l1 k W M l r1 n i := by
  intro r1 n
  induction n with
  | zero => intro i; rfl
  | succ n ih =>
   intro i; have hj : same.j1 k W' = same.j1 k W := rfl; simp only [same.l1, hA, hL, hj, h2, ih]
 unfold same.f; rw [xC hp]; simp only [h1]
theorem Yp.ac (k : Nat) (r : FW) (h : Ix.f k = some r) : AC Try.prog 45 8 [] [] [.c (.pt true [.x (gP r)])] := AC.Yq (.refl _) (Ix.ac k r h)
theorem doP.ac (k : Nat) (a0 : FW) (a1 : List Ms) (a2 : qW) (r : FW × (List Ms) × Bool) (h : JN.f k a0 a1 a2 = some r) : AC Try.prog 45 10 [.c (.pt true [.x (gP a0)]), .c (mP a1), .agg [.v (.int .i64 a2.f0), .v (.int .i64 a2.f1), .v (.int .i64 a2.f2), .v (.int .i64 a2.f3), .v (.int .i64 a2.f4), .v (.bool a2.r.f0), .v (.bool a2.r.f1), .v (.bool a2.h), .v (.int .i64 a2.i), .v (.int .u64 a2.v)]] [some (.c (.pt true [.x (gP r.1)])), some (.c (mP r.2.1)), none] [.c (.v (.bool r.2.2))] :=
  AC.TA fun W' hp hn => by
    obtain ⟨W1, h1, h2⟩ := Nb hp hn k a1 a2 r h
    exact AC.Pr h2 (JN.ac k W' a1 a2 (W1, r.2) h1)
theorem Nc.ac (k : Nat) (a0 : FW) (r : List Int) (h : oh.f k a0 = some r) : AC Try.prog 45 23 [.c (.pt true [.x (gP a0)])] [some (.c (.pt true [.x (gP a0)]))] [.c (.sl true 1 (r.map eI))] :=
  AC.TA fun W' hp hn => AC.Pr hp (oh.ac k W' r (by rw [xC hp]; exact h))
theorem QI.ac (k : Nat) (a0 : FW) (a1 : Int) (r : (List gu) × (Option Int)) (h : p8.f k a0 a1 = some r) : AC Try.prog 45 17 [.c (.pt true [.x (gP a0)]), .c (.v (.int .i64 a1))] [some (.c (.pt true [.x (gP a0)])), none] [.c (.sl true 5 (r.1.map ie)), .c (.err r.2)] :=
  AC.TA fun W' hp hn => AC.Pr hp (p8.ac k W' a1 r (by rw [zv hp hn]; exact h))
theorem Kw.ac (k : Nat) (a0 : FW) (a1 : List Ms) (a2 : List Int) (r : Bool) (h : same.f k a0 a1 a2 = some r) : AC Try.prog 45 21 [.c (.pt true [.x (gP a0)]), .c (mP a1), .c (.sl true 1 (a2.map eI))] [some (.c (.pt true [.x (gP a0)])), some (.c (mP a1)), none] [.c (.v (.bool r))] :=
  AC.TA fun W' hp hn => AC.Pr hp (same.ac k W' a1 a2 r (by rw [IK hp hn]; exact h))
def pz.ok (k : Nat) (W : FW) : Bool := W.all fun s => (nK.f k s.l).isSome
theorem DB {k : Nat} {l : List gu} (h : (nK.f k l).isSome = true) : nK.f k l = some l := by
 unfold nK.f at h ⊢; revert h; generalize decide (([] : List gu).length + l.length ≤ 1000000) = b; cases b <;> simp
section
variable {k clk c : Nat} {L rs : List (Rec gu W8)} {p : Rec gu W8} {W : FW}
def wZ (L : List (Rec gu W8)) (c : Nat) (rs : List (Rec gu W8)) : Prop := (∀ r ∈ rs, r ∈ L) ∧ (rs.map Rec.born).Nodup ∧ (L.filter fun q => !(rs.map Rec.born).contains q.born).length < c
theorem Cg (L : List (Rec gu W8)) : wZ L (L.length + 1) [] := ⟨by simp, by simp, Nat.lt_succ_of_le (List.length_filter_le ..)⟩
theorem DC (h : wZ L (c + 1) rs) (hp : p ∈ L) (hs : p.born ∉ rs.map Rec.born) : wZ L c (rs ++ [p]) := by
 refine ⟨fun r hr => (aT.mp hr).elim (h.1 r) fun hr => by rw [aE.mp hr]; exact hp, ?_, ?_⟩
 · rw [bk, ax]; refine ⟨h.2.1, by simp, fun a ha b hb e => ?_⟩; rw [aK, bz, aE] at hb; rw [e, hb] at ha; exact hs ha
 · have h1 : (L.filter fun q => !((rs ++ [p]).map Rec.born).contains q.born) = (L.filter fun q => !(rs.map Rec.born).contains q.born).filter fun q => q.born != p.born := by
    rw [fc]; apply dc; intro q _; by_cases e : q.born = p.born <;> simp [e]
   rw [h1]; have h2 : p ∈ L.filter fun q => !(rs.map Rec.born).contains q.born := cm.mpr ⟨hp, by simpa using hs⟩; have h3 := h.2.2; have h4 : (List.filter (fun q : Rec gu W8 => q.born != p.born) (L.filter fun q => !(rs.map Rec.born).contains q.born)).length < (L.filter fun q => !(rs.map Rec.born).contains q.born).length := ee.mpr ⟨p, h2, by simp⟩; omega
theorem Nd (ho : rk.Ok clk L) (hc : wZ L c rs) (hL : L.map Rec.tell = W) (hk : pz.ok k W = true) (hp : p ∈ L) (hs : p.born ∉ rs.map Rec.born) : ((jQ (rs.map Rec.tell) p.n).elim ((copied.t k p.tell).bind fun q => some q) (fun _ => none)) = some (p.l, p.ps.map Pg.tell) := by
 have h1 : jQ (rs.map Rec.tell) p.n = none := dy.mpr fun s hs' => by
  obtain ⟨r, hr, rfl⟩ := aX.mp hs'; intro e; have e : r.n = p.n := by simpa [Rec.tell] using e
  have := nk ho.key (hc.1 r hr) hp e; subst this; exact hs (dL hr)
 subst hL; rw [h1]; show (copied.t k p.tell).bind _ = _; unfold copied.t; have ha : nK.f k p.tell.l = some p.tell.l := DB (aV.mp hk p.tell (dL hp)); rw [ha]; rfl
theorem vQ {α β : Type} {f : α → β} {l : List α} (h : (l.map f).Nodup) : l.Nodup := (List.pairwise_map.mp h).imp fun h e => h (by rw [e])
theorem Fy (ho : rk.Ok clk L) (hc : wZ L c rs) (hL : L.map Rec.tell = W) (hall : ∀ r ∈ L, r.born ∈ rs.map Rec.born) : (rs.map Rec.tell).Perm W := by
 subst hL; refine List.Perm.map _ ((List.perm_ext_iff_of_nodup (vQ hc.2.1) (vQ (f := Rec.born) ho.born)).mpr fun a => ⟨hc.1 a, fun ha => ?_⟩); obtain ⟨r, hr, e⟩ := aX.mp (hall a ha); rw [nk (f := Rec.born) ho.born ha (hc.1 r hr) e.symm]; exact hr
end
set_option maxHeartbeats 4000000 in
def pz.f (k : Nat) (a0 : FW) : Option (FW) :=
  (Ix.f k).bind fun (r1 : FW) => (bif pz.ok k a0 then some a0 else none)
set_option maxHeartbeats 4000000 in
theorem pz.ac (k : Nat) (a0 : FW) (r : FW) (h : pz.f k a0 = some r) : AC Try.prog 45 22 [.c (wP a0)] [some (.c (wP a0))] [.c (.pt true [.x (gP r)])] := by
 unfold pz.f at h; refine iR (fn := Try.f22) (pins := [0]) (rts := [2]) Try.func22 rfl Try.ntmps22 rfl (af rfl) (jh rfl) rfl (fun w R E vs => ?_); refine gB (gm (l := [(0, uc (wP a0))]) kr) ?_; refine gh ?_; refine rr [(0, uc (wP a0))] (gq 1 [2] .nil) ?_; refine gh ?_; obtain ⟨r1, sr, h⟩ := bind_some h; refine rr [(0, uc (wP a0)), (3, uc (wP r1))] (gH 1 (fX rfl rfl (iU (AC.k (Ix.ac (h := sr))) ⟨_, Try.func8, rfl, kr⟩ rfl .nil kr)) (gH 2 (fX rfl rfl (je (u := .c (wP r1)) (.inr rfl) (.move kr rfl) rfl kr)) .nil)) ?_; refine gh ?_; refine gh ?_; refine mm (Z := Zf) (i := 0) (c := wP a0) (pl := some (.d, [], 0)) (W := a0) kr rfl rfl (fun rL qi uE Kx QJ => ?_); refine gB (gm (l := [(0, uc (qP rL qi uE)), (3, uc (wP r1))]) kr) ?_; refine rr [(0, uc (qP rL qi uE)), (3, uc (wP r1)), (11, uc (.x (ov rL qi [] qi)))] (gq 3 [7, 8, 9] (gH 4 (fX rfl rfl (jK (Z := Zf) (m := rL) (clk := qi) (L := uE) (r := 0) (off := 0) (s := .d) (p := []) (c := qP rL qi uE) (cs := [.x (gQ rL qi uE)]) rfl (gW kr) kr kr rfl rfl rfl kr)) (gH 5 (fX rfl rfl (Ky (Z := Zf) (m := rL) (clk := qi) (L := uE) (i := 0) (c := qP rL qi uE) (pl := some (.d, [], 0)) rfl Try.underlying66 kr kr rfl rfl rfl kr)) .nil))) ?_; obtain rfl : ([] : FW) = r1 := aZ sr; obtain ⟨hg, h⟩ := gC h; refine iQ (id := 0) ?_; refine lI (α := List (Rec gu W8)) (fun rs => [(0, uc (qP rL qi uE)), (3, uc (.pt true [.x (gE (rs.map Rec.tell))])), (11, uc (.x (ov rL qi (rs.map Rec.born) qi)))]) (fun c rs => wZ uE c rs) _ [] (Cg uE) (fun rs hc => absurd hc.2.2 (Nat.not_lt_zero _)) (fun c rs hc => ?_); refine gh ?_; refine rrN rfl (Kz (Z := Zf) (seen := rs.map Rec.born) (last := qi) (m := rL) (clk := qi) (L := uE) (i := 0) (c := qP rL qi uE) (pl := some (.d, [], 0)) rfl rfl rfl kr kr rfl rfl (aM _) rfl kr) (fun σ1 hσ1 => ?_); rcases hσ1 with ⟨rfl, hall⟩ | ⟨p, hp, hps, rfl⟩; rotate_left; (refine ⟨[(0, uc (qP rL qi uE)), (3, uc (.pt true [.x (gE (rs.map Rec.tell))])), (11, uc (.x (ov rL qi (rs.map Rec.born ++ [p.born]) qi))), (13, tB true)], _, .cons (fX rfl rfl (SM (t := tB true) rfl rfl kr rfl)) .nil, kr, ?_⟩; refine gh ?_; refine gD rfl rfl ?_; refine g8 ?_; refine iQ (id := 1) ?_; refine gh ?_; refine rr [(0, uc (qP rL qi uE)), (3, uc (.pt true [.x (gE (rs.map Rec.tell))])), (4, tI p.n), (5, uc (.pt true [.x (q7 p.av), .v (.map (some p.pm))])), (11, uc (.x (ov rL qi (rs.map Rec.born ++ [p.born]) qi)))] (gH 1 (fX rfl rfl (KA (Z := Zf) (r1 := p) (seen := rs.map Rec.born) (m := rL) (clk := qi) (L := uE) (i := 0) (c := qP rL qi uE) (pl := some (.d, [], 0)) rfl kr kr rfl rfl hp rfl kr)) (gq 3 [15, 16] (gH 4 (fX rfl rfl (ju rfl kz rfl kr)) (gq 5 [4] (gH 6 (fX rfl rfl (jt (n := 2) (r := 5) (off := 0) (s := .d) (p := []) (c := .pt true [.sl true 5 ([].map ie), .v (.map none)]) (cs := [.sl true 5 ([].map ie), .v (.map none)]) (u := .agg [.x (q7 p.av), .v (.map (some p.pm))]) (l := []) rfl kr kr (.copy kr kr kr) kr rfl rfl rfl (af rfl) kr rfl)) .nil))))) ?_; have h := Nd (k := k) QJ.1 hc Kx hg hp hps; have hmp := hp; have htp : p.tell = p.tell := rfl; refine mm (Z := Zf) (i := 3) (c := .pt true [.x (gE (rs.map Rec.tell))]) (pl := some (.d, [], 0)) (W := (rs.map Rec.tell)) kr rfl rfl (fun qx sJ ta Ch TB => ?_); refine gB (gm (l := [(0, uc (qP rL qi uE)), (3, uc (qP qx sJ ta)), (4, tI p.n), (5, uc (.pt true [.x (q7 p.av), .v (.map (some p.pm))])), (11, uc (.x (ov rL qi (rs.map Rec.born ++ [p.born]) qi)))]) kr) ?_; obtain ⟨MI, h⟩ := zx h; obtain ⟨r5, B7, h⟩ := bind_some h; refine gB (gm (l := [(0, uc (qP rL qi uE)), (3, uc (qP qx sJ ta)), (4, tI p.n), (5, uc (.pt true [.x (q7 p.av), .v (.map (some p.pm))])), (11, uc (.x (ov rL qi (rs.map Rec.born ++ [p.born]) qi)))]) kr) ?_; refine j7 (l := [(0, uc (qP rL qi uE)), (3, uc (.pt true [.x (gE ((rs.map Rec.tell) ++ [(⟨p.n, r5.1, r5.2⟩ : nj gu W8)]))])), (11, uc (.x (ov rL qi (rs.map Rec.born ++ [p.born]) qi)))]) (tab := [[], [0], [1], [2], [], [], [5], [3, 4, 6, 6, 0, 1, 2, 3, 4, 5, 6]]) [ev [] [3] 17 (.addr 3 (.d) [] 0), ev [0] [17] 18 (.addr 3 (.d) [] 0), ev [0, 1] [18] 19 (.addr 3 (.d) [] 0), ev [0, 1, 2] [3, 19] 20 (uc (.v (.map (some qx)))), ev [] [4] 21 (tI p.n), ev [] [5] 22 (.u (.agg [.x (q7 p.av), .v (.map (some p.pm))])), ev [5] [0, 22] 23 (.u (.agg [.sl true 5 (r5.1.map ie), .x (pE r5.2)])), ⟨List.range 7, [3, 20, 21, 23], [(3, uc (.pt true [.x (gE ((rs.map Rec.tell) ++ [(⟨p.n, r5.1, r5.2⟩ : nj gu W8)]))])), (23, .junk)], none, false⟩] hm kr kr kr (en (en (en (.cons (fun σ hc => gO hc rfl rfl (fX rfl rfl (jK (Z := Zf) (m := qx) (clk := sJ) (L := ta) (r := 3) (off := 0) (s := .d) (p := []) (c := qP qx sJ ta) (cs := [.x (gQ qx sJ ta)]) rfl (gW kr) kr kr rfl rfl rfl kr))) (en (en (.cons (fun σ hc => gO hc rfl rfl (fX rfl rfl (DD (k := k) (r1 := p) (s1 := p.tell) (q := r5) (m := rL) (clk := qi) (L := uE) (i := 0) (c := qP rL qi uE) (pl := some (.d, [], 0)) htp B7 rfl kr kr rfl rfl hmp rfl kr))) (.cons (fun σ hc => oo (fX rfl rfl (zy (Z := Zf) (l := r5.1) (ps := r5.2) (ls := [23]) (m := qx) (i := 3) (c := qP qx sJ ta) (pl := some (.d, [], 0)) Ch MI rfl kf kr kr (.move kr kr) kr rfl rfl rfl)) (l7 (l := [23]))) .nil)))))))) kr ?_; cases h; refine ⟨rs ++ [p], DC hc hp hps, ?_⟩; simp only [bk, aK, bz]; exact gm kr); refine ⟨[(0, uc (qP rL qi uE)), (3, uc (.pt true [.x (gE (rs.map Rec.tell))])), (13, tB false)], _, .cons (fX rfl rfl (SM (t := tB false) rfl rfl kr rfl)) .nil, kr, ?_⟩; refine gh ?_; refine gJ rfl rfl ?_; refine gB (gm (l := [(0, uc (qP rL qi uE)), (3, uc (.pt true [.x (gE (rs.map Rec.tell))]))]) kr) ?_; refine l8 ?_; refine TC (Z := Zf) (i := 3) (W := a0) (W' := rs.map Rec.tell) (c := .pt true [.x (gE (rs.map Rec.tell))]) (pl := some (.d, [], 0)) (Fy QJ.1 hc Kx hall) kr rfl rfl ?_; refine gB (gm (l := [(0, uc (qP rL qi uE)), (3, uc (.pt true [.x (gP a0)]))]) kr) ?_; refine gh ?_; refine rr [(0, uc (qP rL qi uE)), (2, uc (.pt true [.x (gP a0)]))] (gH 1 (fX rfl rfl (je (u := .c (.pt true [.x (gP a0)])) (.inl rfl) (.move kr rfl) rfl kr)) (gH 2 (fX rfl rfl (je (u := .c (.pt true [.x (gP a0)])) (.inr rfl) (.move kr rfl) rfl kr)) .nil)) ?_; refine iT (Z := Zf) (i := 0) (m := rL) (clk := qi) (c := qP rL qi uE) (pl := some (.d, [], 0)) Kx kr rfl rfl ?_; refine gB (gm (l := [(0, uc (wP a0)), (2, uc (.pt true [.x (gP a0)]))]) kr) ?_; refine gY ?_; cases h; exact ⟨.inr rfl, _, _, .cons (.move rfl rfl) .nil, rfl, gy ⟨⟨rfl, rfl⟩, trivial⟩⟩
end Go.Proofs.Ytmjnenjeckeklaa.V
