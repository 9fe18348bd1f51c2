import Derived.Test.YtmjnenjeckeklaaVZg
import Derived.Test.YtmjnenjeckeklaaFlatA
import Derived.Test.YtmjnenjeckeklaaProg
import Derived.KernelRfl
namespace Go.Proofs.Ytmjnenjeckeklaa.V
open Go Go.RowKit Go.Proofs Go.Proofs.Ytmjnenjeckeklaa.Q
set_option linter.unusedVariables false
set_option linter.unusedSimpArgs false
structure Ms where
  n : Int
  p : List dL
  w : List W8
structure oc where
  n : Int
  v1 : Value
  p : List dL
  v2 : Value
  w : List W8
def oc.tell (x : oc) : Ms := ⟨x.n, x.p, x.w⟩
def Wh (v : Value) (sz : Nat) (rows : List (List C)) : uN where
  rep := fun w x F => x = v ∧ bP 45 w (fun _ => False) v (.sl true sz rows) F
  frame := fun h hw => ⟨h.1, h.2.frame (fun _ h => h) (fun b hb => hw b (hb.resolve_right id))⟩
  lt := fun h => h.2.lt
  one := by rintro w x F ⟨rfl, h⟩; exact xE h
  isp := false
  ptr := by intro h; cases h
def cI (x : Ms) : List C := [.v (.int .i64 x.n), .sl true 4 (x.p.map dc), .sl true 8 (x.w.map w8)]
def iI (x : oc) : List C := [.v (.int .i64 x.n), .x (Wh x.v1 4 (x.p.map dc)), .x (Wh x.v2 8 (x.w.map w8))]
def Ah (x : oc) : List C := [.v (.int .i64 x.n), .x (uD x.v1), .x (uD x.v2)]
def Wi (x : Ms) : List C := [.v (.int .i64 x.n), .sl false 4 (x.p.map dc), .sl false 8 (x.w.map w8)]
theorem k8 (x : dL) : (dc x).all fl = true := rfl
theorem Cz (x : W8) : (w8 x).all fl = true := rfl
theorem tY (x : oc) : (Ah x).all fl = true := rfl
theorem CA (l : List dL) : oV (.sl true 4 (l.map dc)) := ⟨rfl, fun r hr => by obtain ⟨x, _, rfl⟩ := List.mem_map.mp hr; rfl⟩
theorem CB (l : List W8) : oV (.sl true 8 (l.map w8)) := ⟨rfl, fun r hr => by obtain ⟨x, _, rfl⟩ := List.mem_map.mp hr; rfl⟩
section
variable {P : Program} {w w' : World} {R R' : Nat → Prop} {K : Ctx} {σ : St} {a : Act} {Fs : Nat → List Nat} {o : Oper} {d : Nat} {M : List Ms} {L L' : List oc} {xs ys : List Value} {F : List Nat} {v : Value}
theorem three {c1 c2 c3 : C} {cs : List C} (h : bG 45 w R xs (c1 :: c2 :: c3 :: cs) F) : ∃ x1 x2 x3 zs F1 F2 F3 G, xs = x1 :: x2 :: x3 :: zs ∧ F = F1 ++ (F2 ++ (F3 ++ G)) ∧ bP 45 w R x1 c1 F1 ∧ bP 45 w R x2 c2 F2 ∧ bP 45 w R x3 c3 F3 ∧ bG 45 w R zs cs G := by
 cases h with | cons h1 t => cases t with | cons h2 t => cases t with | cons h3 t => exact ⟨_, _, _, _, _, _, _, _, rfl, rfl, h1, h2, h3, t⟩
theorem vJ : ∀ {M : List Ms} {xs : List Value} {F : List Nat}, bG 45 w R xs (M.map cI).flatten F → ∃ L : List oc, L.map oc.tell = M ∧ bG 45 w R xs (L.map iI).flatten F
  | [], xs, F, h => ⟨[], rfl, h⟩
  | m :: M, xs, F, h => by
    obtain ⟨x1, x2, x3, zs, F1, F2, F3, G, rfl, rfl, h1, h2, h3, t⟩ := three h
    obtain ⟨L, e, k⟩ := vJ t
    refine ⟨⟨m.n, x2, m.p, x3, m.w⟩ :: L, by rw [List.map_cons, e]; rfl, ?_⟩
    exact .cons h1 (.cons (.x ⟨rfl, h2.mine (CA _)⟩) (.cons (.x ⟨rfl, h3.mine (CB _)⟩) k))
theorem Bz {x : oc} {cs : List C} {ds : List C} (h : bG 45 w R xs (iI x ++ cs) F) (k : ∀ zs G, bG 45 w R zs cs G → bG 45 w R zs ds G) : bG 45 w R xs (cI x.tell ++ ds) F := by
 obtain ⟨x1, x2, x3, zs, F1, F2, F3, G, rfl, rfl, h1, h2, h3, t⟩ := three h
 cases h2 with
 | x h2 => cases h3 with
   | x h3 =>
     obtain ⟨rfl, h2⟩ := h2
     obtain ⟨rfl, h3⟩ := h3
     exact .cons h1 (.cons (h2.mine (CA _)) (.cons (h3.mine (CB _)) (k _ _ t)))
theorem mW {cs : List C} : ∀ {L : List oc} {xs : List Value} {F : List Nat}, bG 45 w R xs ((L.map iI).flatten ++ cs) F → bG 45 w R xs (((L.map oc.tell).map cI).flatten ++ cs) F
  | [], xs, F, h => h
  | x :: L, xs, F, h => by
    rw [List.map_cons, List.flatten_cons, List.append_assoc] at h
    rw [List.map_cons, List.map_cons, List.flatten_cons, List.append_assoc]
    exact Bz h (fun zs G => mW)
theorem tZ : ∀ {L : List oc} {xs : List Value} {F : List Nat}, bG 45 w R xs (L.map iI).flatten F → bG 45 w R' xs (L.map Ah).flatten []
  | [], xs, F, h => by cases h; exact .nil
  | x :: L, xs, F, h => by
    obtain ⟨x1, x2, x3, zs, F1, F2, F3, G, rfl, rfl, h1, h2, h3, t⟩ := three h
    cases h1 with | v h1 => cases h2 with
    | x h2 => cases h3 with
      | x h3 =>
        obtain ⟨rfl, h2⟩ := h2
        obtain ⟨rfl, h3⟩ := h3
        exact .cons (F := []) (G := []) (.v h1) (.cons (F := []) (G := []) (.x ⟨rfl, xE h2, rfl⟩) (.cons (F := []) (G := []) (.x ⟨rfl, xE h3, rfl⟩) (tZ t)))
theorem Jf {x : oc} (h : bG 45 w R xs (iI x) F) : bG 45 w R' xs (Ah x) [] := by
 have h1 := tZ (L := [x]) (R' := R') (by simpa using h); simpa using h1
theorem PD (hs : L'.Sublist L) : ∀ {xs ys : List Value} {F : List Nat}, bG 45 w R xs (L.map iI).flatten F → bG 45 w R ys (L'.map Ah).flatten [] → ∃ F', bG 45 w R ys (L'.map iI).flatten F' ∧ F'.Sublist F := by
 induction hs with
 | slnil => intro xs ys F _ k; exact ⟨[], k, List.nil_sublist _⟩
 | cons x hs ih =>
  intro xs ys F h k; obtain ⟨x1, x2, x3, zs, F1, F2, F3, G, rfl, rfl, h1, h2, h3, t⟩ := three h; obtain ⟨F', k1, k2⟩ := ih t k; exact ⟨F', k1, k2.trans ((List.sublist_append_right _ _).trans ((List.sublist_append_right _ _).trans (List.sublist_append_right _ _)))⟩
 | cons_cons x hs ih =>
  intro xs ys F h k; obtain ⟨x1, x2, x3, zs, F1, F2, F3, G, rfl, rfl, h1, h2, h3, t⟩ := three h; generalize hE : ([] : List Nat) = E at k; obtain ⟨y1, y2, y3, zs', E1, E2, E3, G', rfl, e, k1, k2, k3, kt⟩ := three k
  have hG' : G' = [] := by
   rw [← hE] at e; exact (List.append_eq_nil_iff.mp (List.append_eq_nil_iff.mp (List.append_eq_nil_iff.mp e.symm).2).2).2
  subst hG'; obtain ⟨F', q1, q2⟩ := ih t kt
  cases h1 with | v h1 => cases k1 with | v k1 => cases h2 with
  | x h2 => cases h3 with
    | x h3 => cases k2 with
      | x k2 => cases k3 with
        | x k3 =>
          obtain ⟨rfl, _⟩ := k2
          obtain ⟨rfl, _⟩ := k3
          obtain ⟨rfl, h2⟩ := h2
          obtain ⟨rfl, h3⟩ := h3
          exact ⟨[] ++ (F2 ++ (F3 ++ F')), .cons (.v k1) (.cons (.x ⟨rfl, h2⟩) (.cons (.x ⟨rfl, h3⟩) q1)), (List.Sublist.refl _).append ((List.Sublist.refl _).append ((List.Sublist.refl _).append q2))⟩
theorem PE {own : Bool} {sz : Nat} {rows rows' : List (List C)} (h : bP 45 w R v (.sl own sz rows) F) (hl : rows'.length = rows.length) (hrow : ∀ r ∈ rows', r.length = sz) (hre : ∀ xs G, bG 45 w R xs rows.flatten G → bG 45 w R xs rows'.flatten G) : bP 45 w R v (.sl own sz rows') F := by
 cases h with
 | nil =>
  obtain rfl := List.eq_nil_of_length_eq_zero hl; exact .nil _ _
 | sl hb hlen hcap hsz hfit hr hrep ho hz => exact .sl hb (hl.trans hlen) hcap hsz hfit hrow (hre _ _ hrep) ho hz
theorem PF : ∀ r ∈ L.map iI, r.length = 3 := fun r hr => by obtain ⟨x, _, rfl⟩ := List.mem_map.mp hr; rfl
theorem KO : ∀ r ∈ M.map cI, r.length = 3 := fun r hr => by obtain ⟨x, _, rfl⟩ := List.mem_map.mp hr; rfl
theorem Jg {own : Bool} (h : bP 45 w R v (.sl own 3 (M.map cI)) F) : ∃ L : List oc, L.map oc.tell = M ∧ bP 45 w R v (.sl own 3 (L.map iI)) F := by
 generalize hrows : M.map cI = rows at h
 cases h with
 | nil => exact ⟨[], (List.map_eq_nil_iff.mp hrows).symm, .nil _ _⟩
 | sl hb hlen hcap hsz hfit hr hrep ho hz =>
  subst hrows; obtain ⟨L, e, k⟩ := vJ hrep; refine ⟨L, e, .sl hb ?_ hcap hsz hfit PF k ho hz⟩; rw [List.length_map, ← hlen, ← e, List.length_map, List.length_map]
theorem DI {own : Bool} {y : Ms} (h : bP 45 w R v (.sl own 3 (L.map iI ++ [cI y])) F) : bP 45 w R v (.sl own 3 ((L.map oc.tell ++ [y]).map cI)) F := by
 refine PE h (by simp) KO (fun xs G k => ?_); rw [List.flatten_append] at k; have := mW k; rw [List.map_append, List.flatten_append]; exact this
theorem xF {nt : Nat} {w0 : World} {E : List Nat} {pins : List Nat} {vs : Nat → Value} {i : Nat} {cd : Code} {Q : Exit → St → Prop} (hr : σ i = .u (.c (.pt true [.sl true 3 (M.map cI)]))) (h : ∀ L : List oc, L.map oc.tell = M → fX P ⟨45, w0, R, E, nt, pins, vs⟩ cd (dn σ i (.u (.c (.pt true [.sl true 3 (L.map iI)])))) Q) : fX P ⟨45, w0, R, E, nt, pins, vs⟩ cd σ Q :=
  Ew (pl := some (.d, [], 0)) (x' := fun L : List oc => .sl true 3 (L.map iI)) (good := fun L => L.map oc.tell = M) hr rfl rfl (fun w v F hv => Jg hv) (fun L hL => h L hL)
theorem PG {nt : Nat} {w0 : World} {E : List Nat} {pins : List Nat} {vs : Nat → Value} {x : oc} {j r so k : Nat} {c : C} (hx : gp 45 σ (.tmp j) = .u (.agg (Ah x))) (hr : σ r = .u (.c c)) (hg : gK c .d [(so, .i k 3)] = some (iI x)) : qu ⟨45, w0, R, E, nt, pins, vs⟩ σ (.tmp j) (.agg (Wi x.tell)) :=
  .sem (fun a w Fs hs => by
    have h1 := eW hs hx (by simp)
    have h2 := hs.rep r
    rw [hr] at h2
    generalize a.eval (.tmp j) = v at h1 ⊢
    generalize hF : Fs r = F at h2
    generalize a.tmps.getD r undef = v0 at h2
    cases h2 with | u h2 => cases h2 with | c h2 =>
    obtain ⟨b, o, arr, et, Fi, _, _, _, h4, h5, _⟩ := bP.read _ h2 hg
    generalize (arr.toList.drop o).take (iI x).length = xs at h4
    obtain ⟨x1, x2, x3, zs, F1, F2, F3, G, rfl, rfl, k1, k2, k3, t⟩ := three (cs := []) h4
    cases h1 with | u h1 => cases h1 with
    | @agg o6 _ _ h1 =>
      generalize hl : o6.toList = ys at h1
      obtain ⟨y1, y2, y3, zs', E1, E2, E3, G', rfl, _, q1, q2, q3, kt⟩ := three (cs := []) h1
      cases kt
      cases k2 with | x k2 => cases k3 with | x k3 => cases q2 with | x q2 => cases q3 with | x q3 =>
      obtain ⟨rfl, _⟩ := q2
      obtain ⟨rfl, _⟩ := q3
      obtain ⟨rfl, k2⟩ := k2
      obtain ⟨rfl, k3⟩ := k3
      refine .agg ?_
      rw [hl]
      cases q1 with | v q1 =>
      have hin : ∀ b, b ∈ F2 ∨ b ∈ F3 → kS ⟨45, w0, R, E, nt, pins, vs⟩ Fs b := fun b hb => .inr ⟨r, by
        rw [hF]
        refine h5 b (List.mem_append_right _ ?_)
        rcases hb with hb | hb
        · exact List.mem_append_left _ hb
        · exact List.mem_append_right _ (List.mem_append_left _ hb)⟩
      exact .cons (F := []) (G := []) (.v q1) (.cons (F := []) (G := []) (k2.jV (fZ k8) (fun b hb => hin b (.inl hb)) (fun b hb => hb.elim)) (.cons (F := []) (G := []) (k3.jV (fZ Cz) (fun b hb => hin b (.inr hb)) (fun b hb => hb.elim)) .nil)))
theorem vK {nt : Nat} {w0 : World} {E : List Nat} {pins : List Nat} {vs : Nat → Value} {t bytes i j r : Nat} {zs : List C} {y : Ms} (hL : L.map oc.tell = M) (ho : o.op = .call { callee := .builtin .append, args := #[.tmp i, .tmp j], argTypes := #[t, t] }) (hz : gl P t 3 bytes zs) (hi : cR i (σ i) = .whole r (some (.d, [], 0)) 3 (L.map iI).length) (hj : σ j = .u (.c (.sl true 3 ([y].map cI)))) (hjr : j ≠ r)
    (hr : σ r = .u (.c (.pt true [.sl true 3 (L.map iI)]))) (hlen : L.length ≤ 100000) (hby : bytes ≤ 100000) (hd : o.dst = some d) (hn : gF ⟨45, w0, R, E, nt, pins, vs⟩ d = true) :
    Step P ⟨45, w0, R, E, nt, pins, vs⟩ σ o (put (dn (fun q => cE (dn (dn σ j .junk) r .junk q)) r (.u (.c (.pt true [.dead])))) d (.u (.c (.sl true 3 ((M ++ [y]).map cI))))) := fun a w hs => by
  have h1 := C1 (K := ⟨45, w0, R, E, nt, pins, vs⟩) (o := o) (c := .pt true [.sl true 3 (L.map iI)]) ho hz hi hj hjr hr rfl rfl rfl (by rw [List.length_map, List.length_map]; simp; omega) hby hd hn rfl a w hs
  refine Oper.EK h1 (fun a w h => ?_)
  obtain ⟨_, _, h2⟩ := lz.Eu (ι := Unit) (x' := fun _ => .sl true 3 ((M ++ [y]).map cI)) (good := fun _ => True) (i := d) (pl := none) h (by unfold put; rw [if_pos rfl]) rfl rfl (fun v F hv => ⟨(), trivial, by rw [← hL]; exact DI hv⟩)
  have e : dn (put (dn (fun q => cE (dn (dn σ j .junk) r .junk q)) r (.u (.c (setAt (.pt true [.sl true 3 (L.map iI)]) (some (.d, [], 0)) .dead)))) d (.u (.c (.sl true 3 (L.map iI ++ [y].map cI))))) d (.u (.c (.sl true 3 ((M ++ [y]).map cI)))) = put (dn (fun q => cE (dn (dn σ j .junk) r .junk q)) r (.u (.c (.pt true [.dead])))) d (.u (.c (.sl true 3 ((M ++ [y]).map cI)))) := by
   funext q; unfold dn put; split <;> rfl
  rw [← e]
  exact h2
theorem CC {nt : Nat} {w0 : World} {E : List Nat} {pins : List Nat} {vs : Nat → Value} {i r lo n : Nat} {L2 : List oc} (h : gT (cR i (σ i)) = some (r, some (.d, [], 0), 3, lo, n)) (hr : σ r = .u (.c (.pt true [.sl true 3 (L.map iI)]))) (e : (L.drop lo).take n = L2) : Rows ⟨45, w0, R, E, nt, pins, vs⟩ σ 3 (.tmp i) (L2.map Ah) :=
  .sem (fun a w Fs hs => by
    obtain ⟨G, hG⟩ := (Rows.v1 (K := ⟨45, w0, R, E, nt, pins, vs⟩) (bq := L2.map iI) h hr rfl rfl (by rw [← List.map_drop, ← List.map_take, e])).qK hs
    rcases hG with ⟨h1, h2⟩ | ⟨b, off, cap, arr, et, h1, h2, h3, h4, h5, h6, h7, h8, h9⟩
    · exact ⟨[], .inl ⟨h1, by rw [List.map_eq_nil_iff.mp h2]; rfl⟩⟩
    · have hlen : (L2.map Ah).length = (L2.map iI).length := by rw [List.length_map, List.length_map]
      exact ⟨[], .inr ⟨b, off, cap, arr, et, by rw [hlen]; exact h1, h2, by rw [hlen]; exact h3, h4, by rw [hlen]; exact h5, fun r hr => by obtain ⟨x, _, rfl⟩ := List.mem_map.mp hr; rfl, by rw [hlen]; exact tZ h7, h8, h9⟩⟩)
theorem zE {nt : Nat} {w0 : World} {E : List Nat} {pins : List Nat} {vs : Nat → Value} {t i j r : Nat} (hs' : L'.Sublist L) (hM : L'.map oc.tell = M) (ho : o.op = .store t (.tmp i) (.tmp j)) (ht : (P.info? t).map (·.size) = some 1) (hi : cR i (σ i) = .addr r .d [] 0) (hj : σ j = .u (.c (.sl true 3 (L'.map Ah)))) (hr : σ r = .u (.c (.pt true [.sl true 3 (L.map iI)])))
    (hij : i ≠ j) (hir : i ≠ r) (hjr : j ≠ r) (hd : o.dst = none) : Step P ⟨45, w0, R, E, nt, pins, vs⟩ σ o (dn (fun q => cE (cn σ [j] q)) r (.u (.c (.pt true [.sl true 3 (M.map cI)])))) := fun a w hs => by
  have h1 := hs.Ex (pl := some (.d, [], 0)) (u' := .c (.sl true 3 (M.map cI))) hjr hj hr rfl rfl (fun v y F G hv hy hn => by
    cases hv with | c hv =>
    obtain ⟨n1, n2, n3⟩ := List.nodup_append.mp hn
    generalize hrows : L'.map Ah = rows at hv
    cases hv with
    | nil =>
      have : L' = [] := List.map_eq_nil_iff.mp hrows
      subst this
      subst hM
      exact ⟨[], .c (.nil _ _), List.nodup_nil, by simp⟩
    | @sl b off len cap _ _ arr et _ F1 _ hb hlen hcap hsz hfit hrow hrep ho' hz =>
      subst hrows
      rcases ho' with ⟨_, rfl⟩ | ⟨h, _⟩
      case inr => cases h
      have mw : F1 = [] := hrep.copy (o9 (fZ tY))
      subst mw
      generalize Ga : L.map iI = bq at hy
      cases hy with
      | nil =>
        have : L = [] := List.map_eq_nil_iff.mp Ga
        subst this
        have : L' = [] := List.sublist_nil.mp hs'
        subst this
        subst hM
        refine ⟨_, .c (.sl hb hlen hcap hsz hfit (by simp) hrep (.inl ⟨rfl, rfl⟩) hz), by simp, fun b hb => .inl hb⟩
      | @sl b2 off2 Oh oz _ _ o6 HS _ G1 _ de Wj Wk OY Wl mF eY uV NQ =>
        subst Ga
        rcases uV with ⟨_, rfl⟩ | ⟨h, _⟩
        case inr => cases h
        obtain ⟨F', q1, q2⟩ := PD hs' eY hrep
        have q3 := mW (cs := []) (by rw [List.append_nil]; exact q1)
        rw [List.append_nil, hM] at q3
        refine ⟨b :: F', .c (.sl hb (by rw [List.length_map, ← hM, List.length_map, ← hlen, List.length_map]) hcap hsz hfit KO q3 (.inl ⟨rfl, rfl⟩) hz), List.nodup_cons.mpr ⟨fun h => n3 b (List.mem_cons_self ..) b (List.mem_cons_of_mem _ (q2.subset h)) rfl, q2.nodup (List.nodup_cons.mp n2).2⟩, fun x hx => ?_⟩
        rcases List.mem_cons.mp hx with rfl | hx
        · exact .inl (List.mem_cons_self ..)
        · exact .inr (List.mem_cons_of_mem _ (q2.subset hx)))
  have h2 := cV (K := ⟨45, w0, R, E, nt, pins, vs⟩) (P := P) (o := o) (σ := dn (dn σ r (.u (.c (.pt true [.dead])))) j (.u (.c (.sl true 3 (M.map cI))))) (r := r) (off := 0) (s := .d) (p := []) (c := .pt true [.dead]) (cs := [.dead]) (l := [j]) ho ht (by unfold dn; rw [if_neg hij, if_neg hir]; exact hi) (.move (by unfold dn; rw [if_pos rfl]) rfl) (by unfold cn dn; simp [Ne.symm hjr]) rfl rfl rfl (Nat.le_of_ble_eq_true rfl) rfl hd a w h1
  have e : dn (fun q => cE (cn (dn (dn σ r (.u (.c (.pt true [.dead])))) j (.u (.c (.sl true 3 (M.map cI))))) [j] q)) r (.u (.c (iH (.pt true [.dead]) .d [] (List.take 0 [.dead] ++ (ff (.c (.sl true 3 (M.map cI))) ++ List.drop (0 + 1) [.dead]))))) = dn (fun q => cE (cn σ [j] q)) r (.u (.c (.pt true [.sl true 3 (M.map cI)]))) := by
   funext q; unfold dn; by_cases h : q = r
   · simp [h, iH, Aj, ff]
   · by_cases h' : q = j
     · subst h'; simp [h, cn]
     · simp [h, h', cn]
  rw [← e]
  exact h2
end
abbrev mP (M : List Ms) : C := .pt true [.sl true 3 (M.map cI)]
end Go.Proofs.Ytmjnenjeckeklaa.V
