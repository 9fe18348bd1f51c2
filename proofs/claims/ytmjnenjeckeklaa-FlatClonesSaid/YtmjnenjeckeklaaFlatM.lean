import Derived.Test.YtmjnenjeckeklaaVZh
import Derived.Test.YtmjnenjeckeklaaFlatA
import Derived.Test.YtmjnenjeckeklaaProg
import Derived.KernelRfl
namespace Go.Proofs.Ytmjnenjeckeklaa.V
open Go Go.RowKit Go.Proofs Go.Proofs.Ytmjnenjeckeklaa.Q
set_option linter.unusedVariables false
set_option linter.unusedSimpArgs false
structure Ms where
  n : Int
  p : List j5
  w : List W8
structure sF where
  n : Int
  v1 : Value
  p : List j5
  v2 : Value
  w : List W8
def sF.tell (x : sF) : Ms := ⟨x.n, x.p, x.w⟩
def slN (v : Value) (sz : Nat) (rows : List (List C)) : Az where
  rep := fun w x F => x = v ∧ iz 45 w (fun _ => False) v (.sl true sz rows) F
  frame := fun h hw => ⟨h.1, h.2.frame (fun _ h => h) (fun b hb => hw b (hb.resolve_right id))⟩
  lt := fun h => h.2.lt
  one := by rintro w x F ⟨rfl, h⟩; exact zU h
  isp := false
  ptr := by intro h; cases h
def iZ (x : Ms) : List C := [.v (.int .i64 x.n), .sl true 4 (x.p.map jE), .sl true 8 (x.w.map w8)]
def mc (x : sF) : List C := [.v (.int .i64 x.n), .x (slN x.v1 4 (x.p.map jE)), .x (slN x.v2 8 (x.w.map w8))]
def EY (x : sF) : List C := [.v (.int .i64 x.n), .x (q7 x.v1), .x (q7 x.v2)]
def msO (x : Ms) : List C := [.v (.int .i64 x.n), .sl false 4 (x.p.map jE), .sl false 8 (x.w.map w8)]
theorem ru (x : j5) : (jE x).all lR = true := rfl
theorem HW (x : W8) : (w8 x).all lR = true := rfl
theorem Ag (x : sF) : (EY x).all lR = true := rfl
theorem HZ (l : List j5) : vA (.sl true 4 (l.map jE)) := ⟨rfl, fun r hr => by obtain ⟨x, _, rfl⟩ := aX.mp hr; rfl⟩
theorem H6 (l : List W8) : vA (.sl true 8 (l.map w8)) := ⟨rfl, fun r hr => by obtain ⟨x, _, rfl⟩ := aX.mp hr; rfl⟩
section
variable {P : Program} {w w' : World} {R R' : Nat → Prop} {K : Ctx} {σ : St} {a : Act} {Fs : Nat → List Nat} {o : Oper} {d : Nat} {M : List Ms} {L L' : List sF} {xs ys : List Value} {F : List Nat} {v : Value}
theorem three {c1 c2 c3 : C} {cs : List C} (h : ig 45 w R xs (c1 :: c2 :: c3 :: cs) F) : ∃ x1 x2 x3 zs F1 F2 F3 G, xs = x1 :: x2 :: x3 :: zs ∧ F = F1 ++ (F2 ++ (F3 ++ G)) ∧ iz 45 w R x1 c1 F1 ∧ iz 45 w R x2 c2 F2 ∧ iz 45 w R x3 c3 F3 ∧ ig 45 w R zs cs G := by
 cases h with | cons h1 t => cases t with | cons h2 t => cases t with | cons h3 t => exact ⟨_, _, _, _, _, _, _, _, rfl, rfl, h1, h2, h3, t⟩
theorem BG : ∀ {M : List Ms} {xs : List Value} {F : List Nat}, ig 45 w R xs (M.map iZ).flatten F → ∃ L : List sF, L.map sF.tell = M ∧ ig 45 w R xs (L.map mc).flatten F
  | [], xs, F, h => ⟨[], rfl, h⟩
  | m :: M, xs, F, h => by
    obtain ⟨x1, x2, x3, zs, F1, F2, F3, G, rfl, rfl, h1, h2, h3, t⟩ := three h
    obtain ⟨L, e, k⟩ := BG t
    refine ⟨⟨m.n, x2, m.p, x3, m.w⟩ :: L, by rw [aK, e]; rfl, ?_⟩
    exact .cons h1 (.cons (.x ⟨rfl, h2.mine (HZ _)⟩) (.cons (.x ⟨rfl, h3.mine (H6 _)⟩) k))
theorem Gz {x : sF} {cs : List C} {ds : List C} (h : ig 45 w R xs (mc x ++ cs) F) (k : ∀ zs G, ig 45 w R zs cs G → ig 45 w R zs ds G) : ig 45 w R xs (iZ x.tell ++ ds) F := by
 obtain ⟨x1, x2, x3, zs, F1, F2, F3, G, rfl, rfl, h1, h2, h3, t⟩ := three h
 cases h2 with
 | x h2 => cases h3 with
   | x h3 =>
     obtain ⟨rfl, h2⟩ := h2
     obtain ⟨rfl, h3⟩ := h3
     exact .cons h1 (.cons (h2.mine (HZ _)) (.cons (h3.mine (H6 _)) (k _ _ t)))
theorem qB {cs : List C} : ∀ {L : List sF} {xs : List Value} {F : List Nat}, ig 45 w R xs ((L.map mc).flatten ++ cs) F → ig 45 w R xs (((L.map sF.tell).map iZ).flatten ++ cs) F
  | [], xs, F, h => h
  | x :: L, xs, F, h => by
    rw [aK, cv, aW] at h
    rw [aK, aK, cv, aW]
    exact Gz h (fun zs G => qB)
theorem Ah : ∀ {L : List sF} {xs : List Value} {F : List Nat}, ig 45 w R xs (L.map mc).flatten F → ig 45 w R' xs (L.map EY).flatten []
  | [], xs, F, h => by cases h; exact .nil
  | x :: L, xs, F, h => by
    obtain ⟨x1, x2, x3, zs, F1, F2, F3, G, rfl, rfl, h1, h2, h3, t⟩ := three h
    cases h1 with | v h1 => cases h2 with
    | x h2 => cases h3 with
      | x h3 =>
        obtain ⟨rfl, h2⟩ := h2
        obtain ⟨rfl, h3⟩ := h3
        exact .cons (F := []) (G := []) (.v h1) (.cons (F := []) (G := []) (.x ⟨rfl, zU h2, rfl⟩) (.cons (F := []) (G := []) (.x ⟨rfl, zU h3, rfl⟩) (Ah t)))
theorem HV {x : sF} (h : ig 45 w R xs (mc x) F) : ig 45 w R' xs (EY x) [] := by
 have h1 := Ah (L := [x]) (R' := R') (by simpa using h); simpa using h1
theorem UQ (hs : L'.Sublist L) : ∀ {xs ys : List Value} {F : List Nat}, ig 45 w R xs (L.map mc).flatten F → ig 45 w R ys (L'.map EY).flatten [] → ∃ F', ig 45 w R ys (L'.map mc).flatten F' ∧ F'.Sublist F := by
 induction hs with
 | slnil => intro xs ys F _ k; exact ⟨[], k, List.nil_sublist _⟩
 | cons x hs ih =>
  intro xs ys F h k; obtain ⟨x1, x2, x3, zs, F1, F2, F3, G, rfl, rfl, h1, h2, h3, t⟩ := three h; obtain ⟨F', k1, k2⟩ := ih t k; exact ⟨F', k1, k2.trans ((dD _ _).trans ((dD _ _).trans (dD _ _)))⟩
 | cons_cons x hs ih =>
  intro xs ys F h k; obtain ⟨x1, x2, x3, zs, F1, F2, F3, G, rfl, rfl, h1, h2, h3, t⟩ := three h; generalize hE : ([] : List Nat) = E at k; obtain ⟨y1, y2, y3, zs', E1, E2, E3, G', rfl, e, k1, k2, k3, kt⟩ := three k
  have hG' : G' = [] := by
   rw [← hE] at e; exact (cO.mp (cO.mp (cO.mp e.symm).2).2).2
  subst hG'; obtain ⟨F', q1, q2⟩ := ih t kt
  cases h1 with | v h1 => cases k1 with | v k1 => cases h2 with
  | x h2 => cases h3 with
    | x h3 => cases k2 with
      | x k2 => cases k3 with
        | x k3 =>
          obtain ⟨rfl, _⟩ := k2
          obtain ⟨rfl, _⟩ := k3
          obtain ⟨rfl, h2⟩ := h2
          obtain ⟨rfl, h3⟩ := h3
          exact ⟨[] ++ (F2 ++ (F3 ++ F')), .cons (.v k1) (.cons (.x ⟨rfl, h2⟩) (.cons (.x ⟨rfl, h3⟩) q1)), (dU _).append ((dU _).append ((dU _).append q2))⟩
theorem P4 {own : Bool} {sz : Nat} {rows rows' : List (List C)} (h : iz 45 w R v (.sl own sz rows) F) (hl : rows'.length = rows.length) (hrow : ∀ r ∈ rows', r.length = sz) (hre : ∀ xs G, ig 45 w R xs rows.flatten G → ig 45 w R xs rows'.flatten G) : iz 45 w R v (.sl own sz rows') F := by
 cases h with
 | nil =>
  obtain rfl := bB hl; exact .nil _ _
 | sl hb hlen hcap hsz hfit hr hrep ho hz => exact .sl hb (hl.trans hlen) hcap hsz hfit hrow (hre _ _ hrep) ho hz
theorem UR : ∀ r ∈ L.map mc, r.length = 3 := fun r hr => by obtain ⟨x, _, rfl⟩ := aX.mp hr; rfl
theorem LG : ∀ r ∈ M.map iZ, r.length = 3 := fun r hr => by obtain ⟨x, _, rfl⟩ := aX.mp hr; rfl
theorem On {own : Bool} (h : iz 45 w R v (.sl own 3 (M.map iZ)) F) : ∃ L : List sF, L.map sF.tell = M ∧ iz 45 w R v (.sl own 3 (L.map mc)) F := by
 generalize hrows : M.map iZ = rows at h
 cases h with
 | nil => exact ⟨[], (dh.mp hrows).symm, .nil _ _⟩
 | sl hb hlen hcap hsz hfit hr hrep ho hz =>
  subst hrows; obtain ⟨L, e, k⟩ := BG hrep; refine ⟨L, e, .sl hb ?_ hcap hsz hfit UR k ho hz⟩; rw [ak, ← hlen, ← e, ak, ak]
theorem Jl {own : Bool} {y : Ms} (h : iz 45 w R v (.sl own 3 (L.map mc ++ [iZ y])) F) : iz 45 w R v (.sl own 3 ((L.map sF.tell ++ [y]).map iZ)) F := by
 refine P4 h (by simp) LG (fun xs G k => ?_); rw [cN] at k; have := qB k; rw [bk, cN]; exact this
theorem Gu {own : Bool} (h : iz 45 w R v (.sl own 3 (L.map mc)) F) : iz 45 w R v (.sl own 3 ((L.map sF.tell).map iZ)) F := by
 refine P4 h (by simp) LG (fun xs G k => ?_); have := qB (cs := []) (by rw [bA]; exact k); rwa [bA] at this
theorem wm {nt : Nat} {w0 : World} {E : List Nat} {pins : List Nat} {vs : Nat → Value} {i : Nat} {cd : Code} {Q : Exit → St → Prop} (hr : σ i = .u (.c (.pt true [.sl true 3 (M.map iZ)]))) (h : ∀ L : List sF, L.map sF.tell = M → lC P ⟨45, w0, R, E, nt, pins, vs⟩ cd (jN σ i (.u (.c (.pt true [.sl true 3 (L.map mc)])))) Q) : lC P ⟨45, w0, R, E, nt, pins, vs⟩ cd σ Q :=
  Dk (pl := some (.d, [], 0)) (x' := fun L : List sF => .sl true 3 (L.map mc)) (good := fun L => L.map sF.tell = M) hr rfl rfl (fun w v F hv => On hv) (fun L hL => h L hL)
theorem US {nt : Nat} {w0 : World} {E : List Nat} {pins : List Nat} {vs : Nat → Value} {x : sF} {j r so k : Nat} {c : C} (hx : mV 45 σ (.tmp j) = .u (.agg (EY x))) (hr : σ r = .u (.c c)) (hg : nx c .d [(so, .i k 3)] = some (mc x)) : xd ⟨45, w0, R, E, nt, pins, vs⟩ σ (.tmp j) (.agg (msO x.tell)) :=
  .sem (fun a w Fs hs => by
    have h1 := lE hs hx (by simp)
    have h2 := hs.rep r
    rw [hr] at h2
    generalize a.eval (.tmp j) = v at h1 ⊢
    generalize hF : Fs r = F at h2
    generalize a.tmps.getD r undef = v0 at h2
    cases h2 with | u h2 => cases h2 with | c h2 =>
    obtain ⟨b, o, arr, et, Fi, _, _, _, h4, h5, _⟩ := iz.read _ h2 hg
    generalize (arr.toList.drop o).take (mc x).length = xs at h4
    obtain ⟨x1, x2, x3, zs, F1, F2, F3, G, rfl, rfl, k1, k2, k3, t⟩ := three (cs := []) h4
    cases h1 with | u h1 => cases h1 with
    | @agg vI _ _ h1 =>
      generalize hl : vI.toList = ys at h1
      obtain ⟨y1, y2, y3, zs', E1, E2, E3, G', rfl, _, q1, q2, q3, kt⟩ := three (cs := []) h1
      cases kt
      cases k2 with | x k2 => cases k3 with | x k3 => cases q2 with | x q2 => cases q3 with | x q3 =>
      obtain ⟨rfl, _⟩ := q2
      obtain ⟨rfl, _⟩ := q3
      obtain ⟨rfl, k2⟩ := k2
      obtain ⟨rfl, k3⟩ := k3
      refine .agg ?_
      rw [hl]
      cases q1 with | v q1 =>
      have hin : ∀ b, b ∈ F2 ∨ b ∈ F3 → qY ⟨45, w0, R, E, nt, pins, vs⟩ Fs b := fun b hb => .inr ⟨r, by
        rw [hF]
        refine h5 b (ah _ ?_)
        rcases hb with hb | hb
        · exact an _ hb
        · exact ah _ (an _ hb)⟩
      exact .cons (F := []) (G := []) (.v q1) (.cons (F := []) (G := []) (k2.qm (mK ru) (fun b hb => hin b (.inl hb)) (fun b hb => hb.elim)) (.cons (F := []) (G := []) (k3.qm (mK HW) (fun b hb => hin b (.inr hb)) (fun b hb => hb.elim)) .nil)))
theorem xm {nt : Nat} {w0 : World} {E : List Nat} {pins : List Nat} {vs : Nat → Value} {t bytes i j r : Nat} {zs : List C} {y : Ms} (hL : L.map sF.tell = M) (ho : o.op = .call { callee := .builtin .append, args := #[.tmp i, .tmp j], argTypes := #[t, t] }) (hz : mS P t 3 bytes zs) (hi : jA i (σ i) = .whole r (some (.d, [], 0)) 3 (L.map mc).length) (hj : σ j = .u (.c (.sl true 3 ([y].map iZ)))) (hjr : j ≠ r)
    (hr : σ r = .u (.c (.pt true [.sl true 3 (L.map mc)]))) (hlen : L.length ≤ 100000) (hby : bytes ≤ 100000) (hd : o.dst = some d) (hn : mX ⟨45, w0, R, E, nt, pins, vs⟩ d = true) :
    Step P ⟨45, w0, R, E, nt, pins, vs⟩ σ o (put (jN (fun q => jq (jN (jN σ j .junk) r .junk q)) r (.u (.c (.pt true [.dead])))) d (.u (.c (.sl true 3 ((M ++ [y]).map iZ))))) := fun a w hs => by
  have h1 := Iw (K := ⟨45, w0, R, E, nt, pins, vs⟩) (o := o) (c := .pt true [.sl true 3 (L.map mc)]) ho hz hi hj hjr hr rfl rfl rfl (by rw [ak, ak]; simp; omega) hby hd hn rfl a w hs
  refine Oper.Ki h1 (fun a w h => ?_)
  obtain ⟨_, _, h2⟩ := rC.JY (ι := Unit) (x' := fun _ => .sl true 3 ((M ++ [y]).map iZ)) (good := fun _ => True) (i := d) (pl := none) h (by unfold put; rw [aj rfl]) rfl rfl (fun v F hv => ⟨(), trivial, by rw [← hL]; exact Jl hv⟩)
  have e : jN (put (jN (fun q => jq (jN (jN σ j .junk) r .junk q)) r (.u (.c (setAt (.pt true [.sl true 3 (L.map mc)]) (some (.d, [], 0)) .dead)))) d (.u (.c (.sl true 3 (L.map mc ++ [y].map iZ))))) d (.u (.c (.sl true 3 ((M ++ [y]).map iZ)))) = put (jN (fun q => jq (jN (jN σ j .junk) r .junk q)) r (.u (.c (.pt true [.dead])))) d (.u (.c (.sl true 3 ((M ++ [y]).map iZ)))) := by
   funext q; unfold jN put; split <;> rfl
  rw [← e]
  exact h2
theorem H7 {nt : Nat} {w0 : World} {E : List Nat} {pins : List Nat} {vs : Nat → Value} {i r lo n : Nat} {L2 : List sF} (h : nJ (jA i (σ i)) = some (r, some (.d, [], 0), 3, lo, n)) (hr : σ r = .u (.c (.pt true [.sl true 3 (L.map mc)]))) (e : (L.drop lo).take n = L2) : Rows ⟨45, w0, R, E, nt, pins, vs⟩ σ 3 (.tmp i) (L2.map EY) :=
  .sem (fun a w Fs hs => by
    obtain ⟨G, hG⟩ := (Rows.v1 (K := ⟨45, w0, R, E, nt, pins, vs⟩) (gV := L2.map mc) h hr rfl rfl (by rw [← fO, ← fN, e])).xA hs
    rcases hG with ⟨h1, h2⟩ | ⟨b, off, cap, arr, et, h1, h2, h3, h4, h5, h6, h7, h8, h9⟩
    · exact ⟨[], .inl ⟨h1, by rw [dh.mp h2]; rfl⟩⟩
    · have hlen : (L2.map EY).length = (L2.map mc).length := by rw [ak, ak]
      exact ⟨[], .inr ⟨b, off, cap, arr, et, by rw [hlen]; exact h1, h2, by rw [hlen]; exact h3, h4, by rw [hlen]; exact h5, fun r hr => by obtain ⟨x, _, rfl⟩ := aX.mp hr; rfl, by rw [hlen]; exact Ah h7, h8, h9⟩⟩)
theorem Et {nt : Nat} {w0 : World} {E : List Nat} {pins : List Nat} {vs : Nat → Value} {t i j r : Nat} (hs' : L'.Sublist L) (hM : L'.map sF.tell = M) (ho : o.op = .store t (.tmp i) (.tmp j)) (ht : (P.info? t).map (·.size) = some 1) (hi : jA i (σ i) = .addr r .d [] 0) (hj : σ j = .u (.c (.sl true 3 (L'.map EY)))) (hr : σ r = .u (.c (.pt true [.sl true 3 (L.map mc)])))
    (hij : i ≠ j) (hir : i ≠ r) (hjr : j ≠ r) (hd : o.dst = none) : Step P ⟨45, w0, R, E, nt, pins, vs⟩ σ o (jN (fun q => jq (jb σ [j] q)) r (.u (.c (.pt true [.sl true 3 (M.map iZ)])))) := fun a w hs => by
  have h1 := hs.JZ (pl := some (.d, [], 0)) (u' := .c (.sl true 3 (M.map iZ))) hjr hj hr rfl rfl (fun v y F G hv hy hn => by
    cases hv with | c hv =>
    obtain ⟨n1, n2, n3⟩ := ax.mp hn
    generalize hrows : L'.map EY = rows at hv
    cases hv with
    | nil =>
      have : L' = [] := dh.mp hrows
      subst this
      subst hM
      exact ⟨[], .c (.nil _ _), bu, by simp⟩
    | @sl b off len cap _ _ arr et _ F1 _ hb hlen hcap hsz hfit hrow hrep ho' hz =>
      subst hrows
      rcases ho' with ⟨_, rfl⟩ | ⟨h, _⟩
      case inr => cases h
      have sH : F1 = [] := hrep.copy (vL (mK Ag))
      subst sH
      generalize LH : L.map mc = gV at hy
      cases hy with
      | nil =>
        have : L = [] := dh.mp LH
        subst this
        have : L' = [] := List.sublist_nil.mp hs'
        subst this
        subst hM
        refine ⟨_, .c (.sl hb hlen hcap hsz hfit (by simp) hrep (.inl ⟨rfl, rfl⟩) hz), by simp, fun b hb => .inl hb⟩
      | @sl b2 off2 Tk uR _ _ vI MZ _ G1 _ jD aby abz TZ abA sP lG AZ SW =>
        subst LH
        rcases AZ with ⟨_, rfl⟩ | ⟨h, _⟩
        case inr => cases h
        obtain ⟨F', q1, q2⟩ := UQ hs' lG hrep
        have q3 := qB (cs := []) (by rw [bA]; exact q1)
        rw [bA, hM] at q3
        refine ⟨b :: F', .c (.sl hb (by rw [ak, ← hM, ak, ← hlen, ak]) hcap hsz hfit LG q3 (.inl ⟨rfl, rfl⟩) hz), bh.mpr ⟨fun h => n3 b (aN ..) b (aU _ (q2.subset h)) rfl, q2.nodup (bh.mp n2).2⟩, fun x hx => ?_⟩
        rcases bx.mp hx with rfl | hx
        · exact .inl (aN ..)
        · exact .inr (aU _ (q2.subset hx)))
  have h2 := jt (K := ⟨45, w0, R, E, nt, pins, vs⟩) (P := P) (o := o) (σ := jN (jN σ r (.u (.c (.pt true [.dead])))) j (.u (.c (.sl true 3 (M.map iZ))))) (r := r) (off := 0) (s := .d) (p := []) (c := .pt true [.dead]) (cs := [.dead]) (l := [j]) ho ht (by unfold jN; rw [ag hij, ag hir]; exact hi) (.move (by unfold jN; rw [aj rfl]) rfl) (by unfold jb jN; simp [dz hjr]) rfl rfl rfl (af rfl) rfl hd a w h1
  have e : jN (fun q => jq (jb (jN (jN σ r (.u (.c (.pt true [.dead])))) j (.u (.c (.sl true 3 (M.map iZ))))) [j] q)) r (.u (.c (oE (.pt true [.dead]) .d [] (List.take 0 [.dead] ++ (lN (.c (.sl true 3 (M.map iZ))) ++ List.drop (0 + 1) [.dead]))))) = jN (fun q => jq (jb σ [j] q)) r (.u (.c (.pt true [.sl true 3 (M.map iZ)]))) := by
   funext q; unfold jN; by_cases h : q = r
   · simp [h, oE, E6, lN]
   · by_cases h' : q = j
     · subst h'; simp [h, jb]
     · simp [h, h', jb]
  rw [← e]
  exact h2
end
abbrev mP (M : List Ms) : C := .pt true [.sl true 3 (M.map iZ)]
end Go.Proofs.Ytmjnenjeckeklaa.V
