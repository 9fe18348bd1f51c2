import Derived.Test.YtmjnenjeckeklaaVZg
import Derived.Test.YtmjnenjeckeklaaFlatA
import Derived.Test.YtmjnenjeckeklaaProg
import Derived.KernelRfl
namespace Go.Proofs.Ytmjnenjeckeklaa.V
open Go Go.RowKit Go.Proofs Go.Proofs.Ytmjnenjeckeklaa.Q
set_option linter.unusedVariables false
set_option linter.unusedSimpArgs false
structure Ms where
  n : Int
  p : List S72
  w : List W8
structure MsN where
  n : Int
  v1 : Value
  p : List S72
  v2 : Value
  w : List W8
def MsN.tell (x : MsN) : Ms := ⟨x.n, x.p, x.w⟩
def slN (v : Value) (sz : Nat) (rows : List (List C)) : Opq where
  rep := fun w x F => x = v ∧ RepC 45 w (fun _ => False) v (.sl true sz rows) F
  frame := fun h hw => ⟨h.1, h.2.frame (fun _ h => h) (fun b hb => hw b (hb.resolve_right id))⟩
  lt := fun h => h.2.lt
  one := by rintro w x F ⟨rfl, h⟩; exact sl_one h
  isp := false
  ptr := by intro h; cases h
def msE (x : Ms) : List C := [.v (.int .i64 x.n), .sl true 4 (x.p.map pgE), .sl true 8 (x.w.map w8)]
def msN (x : MsN) : List C := [.v (.int .i64 x.n), .x (slN x.v1 4 (x.p.map pgE)), .x (slN x.v2 8 (x.w.map w8))]
def msR (x : MsN) : List C := [.v (.int .i64 x.n), .x (rawQ x.v1), .x (rawQ x.v2)]
def msO (x : Ms) : List C := [.v (.int .i64 x.n), .sl false 4 (x.p.map pgE), .sl false 8 (x.w.map w8)]
theorem pgE_copy (x : S72) : (pgE x).all copyC = true := rfl
theorem w8_copy (x : W8) : (w8 x).all copyC = true := rfl
theorem msR_copy (x : MsN) : (msR x).all copyC = true := rfl
theorem mine_pg (l : List S72) : mineC (.sl true 4 (l.map pgE)) := ⟨rfl, fun r hr => by obtain ⟨x, _, rfl⟩ := List.mem_map.mp hr; rfl⟩
theorem mine_w8 (l : List W8) : mineC (.sl true 8 (l.map w8)) := ⟨rfl, fun r hr => by obtain ⟨x, _, rfl⟩ := List.mem_map.mp hr; rfl⟩
section
variable {P : Program} {w w' : World} {R R' : Nat → Prop} {K : Ctx} {σ : St} {a : Act} {Fs : Nat → List Nat} {o : Oper} {d : Nat} {M : List Ms} {L L' : List MsN} {xs ys : List Value} {F : List Nat} {v : Value}
theorem three {c1 c2 c3 : C} {cs : List C} (h : RepL 45 w R xs (c1 :: c2 :: c3 :: cs) F) : ∃ x1 x2 x3 zs F1 F2 F3 G, xs = x1 :: x2 :: x3 :: zs ∧ F = F1 ++ (F2 ++ (F3 ++ G)) ∧ RepC 45 w R x1 c1 F1 ∧ RepC 45 w R x2 c2 F2 ∧ RepC 45 w R x3 c3 F3 ∧ RepL 45 w R zs cs G := by
 cases h with | cons h1 t => cases t with | cons h2 t => cases t with | cons h3 t => exact ⟨_, _, _, _, _, _, _, _, rfl, rfl, h1, h2, h3, t⟩
theorem name_rows : ∀ {M : List Ms} {xs : List Value} {F : List Nat}, RepL 45 w R xs (M.map msE).flatten F → ∃ L : List MsN, L.map MsN.tell = M ∧ RepL 45 w R xs (L.map msN).flatten F
  | [], xs, F, h => ⟨[], rfl, h⟩
  | m :: M, xs, F, h => by
    obtain ⟨x1, x2, x3, zs, F1, F2, F3, G, rfl, rfl, h1, h2, h3, t⟩ := three h
    obtain ⟨L, e, k⟩ := name_rows t
    refine ⟨⟨m.n, x2, m.p, x3, m.w⟩ :: L, by rw [List.map_cons, e]; rfl, ?_⟩
    exact .cons h1 (.cons (.x ⟨rfl, h2.mine (mine_pg _)⟩) (.cons (.x ⟨rfl, h3.mine (mine_w8 _)⟩) k))
theorem unname_row {x : MsN} {cs : List C} {ds : List C} (h : RepL 45 w R xs (msN x ++ cs) F) (k : ∀ zs G, RepL 45 w R zs cs G → RepL 45 w R zs ds G) : RepL 45 w R xs (msE x.tell ++ ds) F := by
 obtain ⟨x1, x2, x3, zs, F1, F2, F3, G, rfl, rfl, h1, h2, h3, t⟩ := three h
 cases h2 with
 | x h2 => cases h3 with
   | x h3 =>
     obtain ⟨rfl, h2⟩ := h2
     obtain ⟨rfl, h3⟩ := h3
     exact .cons h1 (.cons (h2.mine (mine_pg _)) (.cons (h3.mine (mine_w8 _)) (k _ _ t)))
theorem unname_rows {cs : List C} : ∀ {L : List MsN} {xs : List Value} {F : List Nat}, RepL 45 w R xs ((L.map msN).flatten ++ cs) F → RepL 45 w R xs (((L.map MsN.tell).map msE).flatten ++ cs) F
  | [], xs, F, h => h
  | x :: L, xs, F, h => by
    rw [List.map_cons, List.flatten_cons, List.append_assoc] at h
    rw [List.map_cons, List.map_cons, List.flatten_cons, List.append_assoc]
    exact unname_row h (fun zs G => unname_rows)
theorem raw_rows : ∀ {L : List MsN} {xs : List Value} {F : List Nat}, RepL 45 w R xs (L.map msN).flatten F → RepL 45 w R' xs (L.map msR).flatten []
  | [], xs, F, h => by cases h; exact .nil
  | x :: L, xs, F, h => by
    obtain ⟨x1, x2, x3, zs, F1, F2, F3, G, rfl, rfl, h1, h2, h3, t⟩ := three h
    cases h1 with | v h1 => cases h2 with
    | x h2 => cases h3 with
      | x h3 =>
        obtain ⟨rfl, h2⟩ := h2
        obtain ⟨rfl, h3⟩ := h3
        exact .cons (F := []) (G := []) (.v h1) (.cons (F := []) (G := []) (.x ⟨rfl, sl_one h2, rfl⟩) (.cons (F := []) (G := []) (.x ⟨rfl, sl_one h3, rfl⟩) (raw_rows t)))
theorem raw_row {x : MsN} (h : RepL 45 w R xs (msN x) F) : RepL 45 w R' xs (msR x) [] := by
 have h1 := raw_rows (L := [x]) (R' := R') (by simpa using h); simpa using h1
theorem reown (hs : L'.Sublist L) : ∀ {xs ys : List Value} {F : List Nat}, RepL 45 w R xs (L.map msN).flatten F → RepL 45 w R ys (L'.map msR).flatten [] → ∃ F', RepL 45 w R ys (L'.map msN).flatten F' ∧ F'.Sublist F := by
 induction hs with
 | slnil => intro xs ys F _ k; exact ⟨[], k, List.nil_sublist _⟩
 | cons x hs ih =>
  intro xs ys F h k; obtain ⟨x1, x2, x3, zs, F1, F2, F3, G, rfl, rfl, h1, h2, h3, t⟩ := three h; obtain ⟨F', k1, k2⟩ := ih t k; exact ⟨F', k1, k2.trans ((List.sublist_append_right _ _).trans ((List.sublist_append_right _ _).trans (List.sublist_append_right _ _)))⟩
 | cons_cons x hs ih =>
  intro xs ys F h k; obtain ⟨x1, x2, x3, zs, F1, F2, F3, G, rfl, rfl, h1, h2, h3, t⟩ := three h; generalize hE : ([] : List Nat) = E at k; obtain ⟨y1, y2, y3, zs', E1, E2, E3, G', rfl, e, k1, k2, k3, kt⟩ := three k
  have hG' : G' = [] := by
   rw [← hE] at e; exact (List.append_eq_nil_iff.mp (List.append_eq_nil_iff.mp (List.append_eq_nil_iff.mp e.symm).2).2).2
  subst hG'; obtain ⟨F', q1, q2⟩ := ih t kt
  cases h1 with | v h1 => cases k1 with | v k1 => cases h2 with
  | x h2 => cases h3 with
    | x h3 => cases k2 with
      | x k2 => cases k3 with
        | x k3 =>
          obtain ⟨rfl, _⟩ := k2
          obtain ⟨rfl, _⟩ := k3
          obtain ⟨rfl, h2⟩ := h2
          obtain ⟨rfl, h3⟩ := h3
          exact ⟨[] ++ (F2 ++ (F3 ++ F')), .cons (.v k1) (.cons (.x ⟨rfl, h2⟩) (.cons (.x ⟨rfl, h3⟩) q1)), (List.Sublist.refl _).append ((List.Sublist.refl _).append ((List.Sublist.refl _).append q2))⟩
theorem sl_re {own : Bool} {sz : Nat} {rows rows' : List (List C)} (h : RepC 45 w R v (.sl own sz rows) F) (hl : rows'.length = rows.length) (hrow : ∀ r ∈ rows', r.length = sz) (hre : ∀ xs G, RepL 45 w R xs rows.flatten G → RepL 45 w R xs rows'.flatten G) : RepC 45 w R v (.sl own sz rows') F := by
 cases h with
 | nil =>
  obtain rfl := List.eq_nil_of_length_eq_zero hl; exact .nil _ _
 | sl hb hlen hcap hsz hfit hr hrep ho hz => exact .sl hb (hl.trans hlen) hcap hsz hfit hrow (hre _ _ hrep) ho hz
theorem len3N : ∀ r ∈ L.map msN, r.length = 3 := fun r hr => by obtain ⟨x, _, rfl⟩ := List.mem_map.mp hr; rfl
theorem len3E : ∀ r ∈ M.map msE, r.length = 3 := fun r hr => by obtain ⟨x, _, rfl⟩ := List.mem_map.mp hr; rfl
theorem name_sl {own : Bool} (h : RepC 45 w R v (.sl own 3 (M.map msE)) F) : ∃ L : List MsN, L.map MsN.tell = M ∧ RepC 45 w R v (.sl own 3 (L.map msN)) F := by
 generalize hrows : M.map msE = rows at h
 cases h with
 | nil => exact ⟨[], (List.map_eq_nil_iff.mp hrows).symm, .nil _ _⟩
 | sl hb hlen hcap hsz hfit hr hrep ho hz =>
  subst hrows; obtain ⟨L, e, k⟩ := name_rows hrep; refine ⟨L, e, .sl hb ?_ hcap hsz hfit len3N k ho hz⟩; rw [List.length_map, ← hlen, ← e, List.length_map, List.length_map]
theorem unname_sl {own : Bool} {y : Ms} (h : RepC 45 w R v (.sl own 3 (L.map msN ++ [msE y])) F) : RepC 45 w R v (.sl own 3 ((L.map MsN.tell ++ [y]).map msE)) F := by
 refine sl_re h (by simp) len3E (fun xs G k => ?_); rw [List.flatten_append] at k; have := unname_rows k; rw [List.map_append, List.flatten_append]; exact this
theorem r_nameM {nt : Nat} {w0 : World} {E : List Nat} {pins : List Nat} {vs : Nat → Value} {i : Nat} {cd : Code} {Q : Exit → St → Prop} (hr : σ i = .u (.c (.pt true [.sl true 3 (M.map msE)]))) (h : ∀ L : List MsN, L.map MsN.tell = M → Run P ⟨45, w0, R, E, nt, pins, vs⟩ cd (upd σ i (.u (.c (.pt true [.sl true 3 (L.map msN)])))) Q) : Run P ⟨45, w0, R, E, nt, pins, vs⟩ cd σ Q :=
  r_recell (pl := some (.d, [], 0)) (x' := fun L : List MsN => .sl true 3 (L.map msN)) (good := fun L => L.map MsN.tell = M) hr rfl rfl (fun w v F hv => name_sl hv) (fun L hL => h L hL)
theorem argMs {nt : Nat} {w0 : World} {E : List Nat} {pins : List Nat} {vs : Nat → Value} {x : MsN} {j r so k : Nat} {c : C} (hx : opT 45 σ (.tmp j) = .u (.agg (msR x))) (hr : σ r = .u (.c c)) (hg : getP c .d [(so, .i k 3)] = some (msN x)) : ArgL ⟨45, w0, R, E, nt, pins, vs⟩ σ (.tmp j) (.agg (msO x.tell)) :=
  .sem (fun a w Fs hs => by
    have h1 := opT_rep hs hx (by simp)
    have h2 := hs.rep r
    rw [hr] at h2
    generalize a.eval (.tmp j) = v at h1 ⊢
    generalize hF : Fs r = F at h2
    generalize a.tmps.getD r undef = v0 at h2
    cases h2 with | u h2 => cases h2 with | c h2 =>
    obtain ⟨b, o, arr, et, Fi, _, _, _, h4, h5, _⟩ := RepC.read _ h2 hg
    generalize (arr.toList.drop o).take (msN x).length = xs at h4
    obtain ⟨x1, x2, x3, zs, F1, F2, F3, G, rfl, rfl, k1, k2, k3, t⟩ := three (cs := []) h4
    cases h1 with | u h1 => cases h1 with
    | @agg arr2 _ _ h1 =>
      generalize hl : arr2.toList = ys at h1
      obtain ⟨y1, y2, y3, zs', E1, E2, E3, G', rfl, _, q1, q2, q3, kt⟩ := three (cs := []) h1
      cases kt
      cases k2 with | x k2 => cases k3 with | x k3 => cases q2 with | x q2 => cases q3 with | x q3 =>
      obtain ⟨rfl, _⟩ := q2
      obtain ⟨rfl, _⟩ := q3
      obtain ⟨rfl, k2⟩ := k2
      obtain ⟨rfl, k3⟩ := k3
      refine .agg ?_
      rw [hl]
      cases q1 with | v q1 =>
      have hin : ∀ b, b ∈ F2 ∨ b ∈ F3 → lentR ⟨45, w0, R, E, nt, pins, vs⟩ Fs b := fun b hb => .inr ⟨r, by
        rw [hF]
        refine h5 b (List.mem_append_right _ ?_)
        rcases hb with hb | hb
        · exact List.mem_append_left _ hb
        · exact List.mem_append_right _ (List.mem_append_left _ hb)⟩
      exact .cons (F := []) (G := []) (.v q1) (.cons (F := []) (G := []) (k2.lend (copy_map pgE_copy) (fun b hb => hin b (.inl hb)) (fun b hb => hb.elim)) (.cons (F := []) (G := []) (k3.lend (copy_map w8_copy) (fun b hb => hin b (.inr hb)) (fun b hb => hb.elim)) .nil)))
theorem s_appendN {nt : Nat} {w0 : World} {E : List Nat} {pins : List Nat} {vs : Nat → Value} {t bytes i j r : Nat} {zs : List C} {y : Ms} (hL : L.map MsN.tell = M) (ho : o.op = .call { callee := .builtin .append, args := #[.tmp i, .tmp j], argTypes := #[t, t] }) (hz : SliceZ P t 3 bytes zs) (hi : aliasT i (σ i) = .whole r (some (.d, [], 0)) 3 (L.map msN).length) (hj : σ j = .u (.c (.sl true 3 ([y].map msE)))) (hjr : j ≠ r)
    (hr : σ r = .u (.c (.pt true [.sl true 3 (L.map msN)]))) (hlen : L.length ≤ 100000) (hby : bytes ≤ 100000) (hd : o.dst = some d) (hn : okT ⟨45, w0, R, E, nt, pins, vs⟩ d = true) :
    Step P ⟨45, w0, R, E, nt, pins, vs⟩ σ o (put (upd (fun q => killD (upd (upd σ j .junk) r .junk q)) r (.u (.c (.pt true [.dead])))) d (.u (.c (.sl true 3 ((M ++ [y]).map msE))))) := fun a w hs => by
  have h1 := s_appendP (K := ⟨45, w0, R, E, nt, pins, vs⟩) (o := o) (c := .pt true [.sl true 3 (L.map msN)]) ho hz hi hj hjr hr rfl rfl rfl (by rw [List.length_map, List.length_map]; simp; omega) hby hd hn rfl a w hs
  refine Oper.wp_all h1 (fun a w h => ?_)
  obtain ⟨_, _, h2⟩ := Sim.recell (ι := Unit) (x' := fun _ => .sl true 3 ((M ++ [y]).map msE)) (good := fun _ => True) (i := d) (pl := none) h (by unfold put; rw [if_pos rfl]) rfl rfl (fun v F hv => ⟨(), trivial, by rw [← hL]; exact unname_sl hv⟩)
  have e : upd (put (upd (fun q => killD (upd (upd σ j .junk) r .junk q)) r (.u (.c (setAt (.pt true [.sl true 3 (L.map msN)]) (some (.d, [], 0)) .dead)))) d (.u (.c (.sl true 3 (L.map msN ++ [y].map msE))))) d (.u (.c (.sl true 3 ((M ++ [y]).map msE)))) = put (upd (fun q => killD (upd (upd σ j .junk) r .junk q)) r (.u (.c (.pt true [.dead])))) d (.u (.c (.sl true 3 ((M ++ [y]).map msE)))) := by
   funext q; unfold upd put; split <;> rfl
  rw [← e]
  exact h2
theorem rowsRaw {nt : Nat} {w0 : World} {E : List Nat} {pins : List Nat} {vs : Nat → Value} {i r lo n : Nat} {L2 : List MsN} (h : viewOf (aliasT i (σ i)) = some (r, some (.d, [], 0), 3, lo, n)) (hr : σ r = .u (.c (.pt true [.sl true 3 (L.map msN)]))) (e : (L.drop lo).take n = L2) : Rows ⟨45, w0, R, E, nt, pins, vs⟩ σ 3 (.tmp i) (L2.map msR) :=
  .sem (fun a w Fs hs => by
    obtain ⟨G, hG⟩ := (Rows.v1 (K := ⟨45, w0, R, E, nt, pins, vs⟩) (rows2 := L2.map msN) h hr rfl rfl (by rw [← List.map_drop, ← List.map_take, e])).shows hs
    rcases hG with ⟨h1, h2⟩ | ⟨b, off, cap, arr, et, h1, h2, h3, h4, h5, h6, h7, h8, h9⟩
    · exact ⟨[], .inl ⟨h1, by rw [List.map_eq_nil_iff.mp h2]; rfl⟩⟩
    · have hlen : (L2.map msR).length = (L2.map msN).length := by rw [List.length_map, List.length_map]
      exact ⟨[], .inr ⟨b, off, cap, arr, et, by rw [hlen]; exact h1, h2, by rw [hlen]; exact h3, h4, by rw [hlen]; exact h5, fun r hr => by obtain ⟨x, _, rfl⟩ := List.mem_map.mp hr; rfl, by rw [hlen]; exact raw_rows h7, h8, h9⟩⟩)
theorem s_storeSwap {nt : Nat} {w0 : World} {E : List Nat} {pins : List Nat} {vs : Nat → Value} {t i j r : Nat} (hs' : L'.Sublist L) (hM : L'.map MsN.tell = M) (ho : o.op = .store t (.tmp i) (.tmp j)) (ht : (P.info? t).map (·.size) = some 1) (hi : aliasT i (σ i) = .addr r .d [] 0) (hj : σ j = .u (.c (.sl true 3 (L'.map msR)))) (hr : σ r = .u (.c (.pt true [.sl true 3 (L.map msN)])))
    (hij : i ≠ j) (hir : i ≠ r) (hjr : j ≠ r) (hd : o.dst = none) : Step P ⟨45, w0, R, E, nt, pins, vs⟩ σ o (upd (fun q => killD (junks σ [j] q)) r (.u (.c (.pt true [.sl true 3 (M.map msE)])))) := fun a w hs => by
  have h1 := hs.giveOver (pl := some (.d, [], 0)) (u' := .c (.sl true 3 (M.map msE))) hjr hj hr rfl rfl (fun v y F G hv hy hn => by
    cases hv with | c hv =>
    obtain ⟨n1, n2, n3⟩ := List.nodup_append.mp hn
    generalize hrows : L'.map msR = rows at hv
    cases hv with
    | nil =>
      have : L' = [] := List.map_eq_nil_iff.mp hrows
      subst this
      subst hM
      exact ⟨[], .c (.nil _ _), List.nodup_nil, by simp⟩
    | @sl b off len cap _ _ arr et _ F1 _ hb hlen hcap hsz hfit hrow hrep ho' hz =>
      subst hrows
      rcases ho' with ⟨_, rfl⟩ | ⟨h, _⟩
      case inr => cases h
      have hF1 : F1 = [] := hrep.copy (allCopy (copy_map msR_copy))
      subst hF1
      generalize hrows2 : L.map msN = rows2 at hy
      cases hy with
      | nil =>
        have : L = [] := List.map_eq_nil_iff.mp hrows2
        subst this
        have : L' = [] := List.sublist_nil.mp hs'
        subst this
        subst hM
        refine ⟨_, .c (.sl hb hlen hcap hsz hfit (by simp) hrep (.inl ⟨rfl, rfl⟩) hz), by simp, fun b hb => .inl hb⟩
      | @sl b2 off2 len2 cap2 _ _ arr2 et2 _ G1 _ hb2 hlen2 hcap2 hsz2 hfit2 hrow2 hrep2 ho2 hz2 =>
        subst hrows2
        rcases ho2 with ⟨_, rfl⟩ | ⟨h, _⟩
        case inr => cases h
        obtain ⟨F', q1, q2⟩ := reown hs' hrep2 hrep
        have q3 := unname_rows (cs := []) (by rw [List.append_nil]; exact q1)
        rw [List.append_nil, hM] at q3
        refine ⟨b :: F', .c (.sl hb (by rw [List.length_map, ← hM, List.length_map, ← hlen, List.length_map]) hcap hsz hfit len3E q3 (.inl ⟨rfl, rfl⟩) hz), List.nodup_cons.mpr ⟨fun h => n3 b (List.mem_cons_self ..) b (List.mem_cons_of_mem _ (q2.subset h)) rfl, q2.nodup (List.nodup_cons.mp n2).2⟩, fun x hx => ?_⟩
        rcases List.mem_cons.mp hx with rfl | hx
        · exact .inl (List.mem_cons_self ..)
        · exact .inr (List.mem_cons_of_mem _ (q2.subset hx)))
  have h2 := s_store (K := ⟨45, w0, R, E, nt, pins, vs⟩) (P := P) (o := o) (σ := upd (upd σ r (.u (.c (.pt true [.dead])))) j (.u (.c (.sl true 3 (M.map msE))))) (r := r) (off := 0) (s := .d) (p := []) (c := .pt true [.dead]) (cs := [.dead]) (l := [j]) ho ht (by unfold upd; rw [if_neg hij, if_neg hir]; exact hi) (.move (by unfold upd; rw [if_pos rfl]) rfl) (by unfold junks upd; simp [Ne.symm hjr]) rfl rfl rfl (Nat.le_of_ble_eq_true rfl) rfl hd a w h1
  have e : upd (fun q => killD (junks (upd (upd σ r (.u (.c (.pt true [.dead])))) j (.u (.c (.sl true 3 (M.map msE))))) [j] q)) r (.u (.c (setP (.pt true [.dead]) .d [] (List.take 0 [.dead] ++ (cellsU (.c (.sl true 3 (M.map msE))) ++ List.drop (0 + 1) [.dead]))))) = upd (fun q => killD (junks σ [j] q)) r (.u (.c (.pt true [.sl true 3 (M.map msE)]))) := by
   funext q; unfold upd; by_cases h : q = r
   · simp [h, setP, setS, cellsU]
   · by_cases h' : q = j
     · subst h'; simp [h, junks]
     · simp [h, h', junks]
  rw [← e]
  exact h2
end
abbrev mP (M : List Ms) : C := .pt true [.sl true 3 (M.map msE)]
end Go.Proofs.Ytmjnenjeckeklaa.V
