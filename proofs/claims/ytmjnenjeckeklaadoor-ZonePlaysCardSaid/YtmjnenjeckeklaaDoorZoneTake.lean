import Derived.Test.YtmjnenjeckeklaaDoorZoneLib
namespace Go.Proofs.YtmjnenjeckeklaaDoor.V
open Go Go.RowKit Go.Proofs Go.Proofs.YtmjnenjeckeklaaDoor.Q Go.Proofs.YtmjnenjeckeklaaDoorW.PrintWords
set_option linter.unusedVariables false
set_option linter.unusedSimpArgs false
set_option maxRecDepth 100000
def srt (t : List Int) (r : Blk) : Int := t.getD (r.f / 8).toNat 0
def stepR (t : List Int) (so o : Int) (p : Blk × Blk) (r : Blk) : Blk × Blk :=
  if r.o < o then p else (if srt t r = so ∧ (p.1.o < 0 ∨ r.o < p.1.o) then r else p.1, if r.o > p.2.o then r else p.2)
def bestP (p : Blk × Blk) : Blk := if p.1.o < 0 then p.2 else p.1
def none0 : Blk := ⟨0, -1⟩
def bestR (t : List Int) (so o : Int) (R : List Blk) : Blk := bestP (R.foldl (stepR t so o) (none0, none0))
def finT (z : Zon) (so o : Int) (y : Blk) : Option (Zon × Int × Option Int) :=
  (bif decide (y.o < 0) then some (z, 0, (some 5)) else (TakeAt.f 1000 z.s y.f o).bind fun (r23 : Sto × (Option Int)) => (bif !(r23.2 == none) then some ((⟨r23.1, z.n, z.t, z.c⟩ : Zon), 0, r23.2) else (bif decide (0 ≤ (IntKind.i64.wrap (y.f.tdiv 8))) && decide ((IntKind.i64.wrap (y.f.tdiv 8)) < (z.t.length : Int)) then some ((⟨r23.1, z.n, (z.t.set (((IntKind.i64.wrap (y.f.tdiv 8))).toNat) so), z.c⟩ : Zon), y.f, none) else none)))
theorem rms_len {n : Int} {c : List Bool} : ∀ {L : List Blk}, (∀ x ∈ L, Ok n x) → (Rms c L).length ≤ 4 * L.length := by
  intro L
  induction L with
  | nil => intro _; simp [Rms]
  | cons x L ih =>
    intro h
    have := ih fun y hy => h y (List.mem_cons_of_mem _ hy)
    have hx := h x List.mem_cons_self
    obtain ⟨_, _, _, _, m4⟩ := lo_many hx.o0 hx.o5
    have hf := List.length_filter_le (op c) (pcs (lo x.o) x.f (many x.o))
    rw [pcs_len] at hf
    unfold Rms at this ⊢
    rw [List.flatMap_cons, List.length_append, List.length_cons]
    omega
theorem ZI.llen {n : Int} {z : Zon} (Z : ZI n z) (h0 : 0 ≤ n) : (z.s.l.length : Int) ≤ n := by
  have := len_le (lo := 0) (n := n) Z.inv.lt (fun x hx => by have o := Z.inv.ok x hx; have := o.f0; have := o.en; have := o.pos; omega)
  omega
theorem ztake_go {n : Int} {z : Zon} (Z : ZI n z) (hn : n ≤ 512) {so o : Int} {R : List Blk} (hR : ∀ r ∈ R, Room n z r) : ∀ (d fuel i : Nat) (b ot : Blk), R.length - i ≤ d → d < fuel → i ≤ R.length → R.length ≤ 5000 →
    ZTake.l1 1000 z so o () (z, R) fuel z b ot (i : Int) = finT z so o (bestP ((R.drop i).foldl (stepR z.t so o) (b, ot))) := by
  have fin : ∀ (fuel : Nat) (i : Int) (b ot : Blk), ¬ i < (R.length : Int) → ZTake.l1 1000 z so o () (z, R) (fuel + 1) z b ot i = finT z so o (bestP (b, ot)) := by
    intro fuel i b ot hi
    unfold ZTake.l1 ZTake.j3
    rw [decide_eq_false (show ¬ i < ((z, R).2.length : Int) from hi), cond_false]
    unfold bestP finT
    by_cases hb : b.o < 0
    · rw [decide_eq_true hb, cond_true, Option.bind_some, if_pos hb]
    · rw [decide_eq_false hb, cond_false, Option.bind_some, if_neg hb]
  have htl := Z.tl
  intro d
  induction d with
  | zero =>
    intro fuel i b ot h1 h2 h3 h4
    obtain ⟨fuel, rfl⟩ : ∃ q, fuel = q + 1 := ⟨fuel - 1, by omega⟩
    rw [List.drop_eq_nil_of_le (by omega)]
    exact fin fuel i b ot (by omega)
  | succ d ih =>
    intro fuel i b ot h1 h2 h3 h4
    obtain ⟨fuel, rfl⟩ : ∃ q, fuel = q + 1 := ⟨fuel - 1, by omega⟩
    by_cases hi : i < R.length
    · have rm := hR _ (List.getElem_mem hi)
      have rf := rm.ok.f0
      have re := rm.ok.en
      have rp := rm.ok.pos
      have e : R.getD ((i : Int)).toNat zR = R[i] := getD_at hi
      have w : IntKind.i64.wrap ((i : Int) + 1) = ((i + 1 : Nat) : Int) := by rw [wrap_small (by omega) (by omega)]; omega
      have ej : ZTake.j2 1000 z so o () (z, R) z b ot (i : Int) = some (if srt z.t R[i] = so ∧ (b.o < 0 ∨ R[i].o < b.o) then R[i] else b) := by
        unfold ZTake.j2
        simp only []
        rw [e, grp rf (by omega), decide_eq_true (show 0 ≤ R[i].f / 8 by omega), decide_eq_true (show R[i].f / 8 < (z.t.length : Int) by omega)]
        simp only [Bool.and_self, cond_true]
        by_cases h5 : srt z.t R[i] = so
        · rw [beq_iff_eq.mpr (show z.t.getD (R[i].f / 8).toNat 0 = so from h5), cond_true]
          by_cases h6 : b.o < 0
          · rw [decide_eq_true h6, cond_true, if_pos ⟨h5, .inl h6⟩]
          · rw [decide_eq_false h6, cond_false]
            by_cases h7 : R[i].o < b.o
            · rw [decide_eq_true h7, cond_true, if_pos ⟨h5, .inr h7⟩]
            · rw [decide_eq_false h7, cond_false, if_neg (fun h => h.2.elim h6 h7)]
        · rw [beq_eq_false_iff_ne.mpr (show z.t.getD (R[i].f / 8).toNat 0 ≠ so from h5), cond_false, if_neg (fun h => h5 h.1)]
      have step : ZTake.l1 1000 z so o () (z, R) (fuel + 1) z b ot (i : Int) = ZTake.l1 1000 z so o () (z, R) fuel z (stepR z.t so o (b, ot) R[i]).1 (stepR z.t so o (b, ot) R[i]).2 ((i + 1 : Nat) : Int) := by
        conv => lhs; unfold ZTake.l1
        rw [ej, w, decide_eq_true (show (i : Int) < ((z, R).2.length : Int) by simp only; omega), decide_eq_true (show 0 ≤ (i : Int) by omega)]
        simp only [Bool.and_self, cond_true, Option.bind_some]
        rw [e]
        unfold stepR
        by_cases h8 : R[i].o < o
        · rw [decide_eq_true h8, cond_true, if_pos h8]
        · rw [decide_eq_false h8, cond_false, if_neg h8]
          simp only
          by_cases h9 : R[i].o > ot.o
          · rw [decide_eq_true h9, cond_true, if_pos h9]
          · rw [decide_eq_false h9, cond_false, if_neg h9]
      rw [step, ih fuel (i + 1) _ _ (by omega) (by omega) (by omega) h4, List.drop_eq_getElem_cons hi, List.foldl_cons]
    · rw [List.drop_eq_nil_of_le (by omega)]
      exact fin fuel i b ot (by omega)
theorem ztake_arg {z : Zon} {so o : Int} (h : ¬ ((so = 0 ∨ so = 1) ∧ 0 ≤ o ∧ o ≤ 3)) : ZTake.f 1000 z so o = some (z, 0, some 1) := by
  unfold ZTake.f ZTake.j1
  by_cases h1 : so = 0
  · have hne : (so != 0) = false := by rw [h1]; rfl
    rw [hne, cond_false]
    by_cases h2 : o < 0
    · rw [decide_eq_true h2]; rfl
    · rw [decide_eq_false h2, decide_eq_true (show o > 3 by omega)]; rfl
  · have hne : (so != 0) = true := by simp [h1]
    rw [hne, cond_true]
    by_cases h3 : so = 1
    · have hne : (so != 1) = false := by rw [h3]; rfl
      rw [hne, cond_false]
      by_cases h2 : o < 0
      · rw [decide_eq_true h2]; rfl
      · rw [decide_eq_false h2, decide_eq_true (show o > 3 by omega)]; rfl
    · have hne : (so != 1) = true := by simp [h3]
      rw [hne]
      rfl
theorem ztake_fin {n : Int} {z : Zon} (Z : ZI n z) (h0 : 0 ≤ n) (hn : n ≤ 100) {so o : Int} (hs : so = 0 ∨ so = 1) (o0 : 0 ≤ o) (o3 : o ≤ 3) : ZTake.f 1000 z so o = finT z so o (bestR z.t so o (Rms z.c z.s.l)) := by
  have hl := Z.llen h0
  have hr := rms_len (c := z.c) (L := z.s.l) Z.inv.ok
  have ej : ZTake.j1 1000 z so o = some (Sum.inl ()) := by
    unfold ZTake.j1
    rw [decide_eq_false (show ¬ o < 0 by omega), decide_eq_false (show ¬ o > 3 by omega)]
    rcases hs with rfl | rfl <;> rfl
  unfold ZTake.f
  rw [ej, Option.bind_some]
  simp only [Sum.elim_inl]
  rw [rooms_eq Z (by omega), Option.bind_some]
  have := ztake_go Z (by omega) (so := so) (o := o) (fun r hr => room_of Z hr) (Rms z.c z.s.l).length 1000 0 none0 none0 (by omega) (by omega) (by omega) (by omega)
  rw [List.drop_zero] at this
  exact this
theorem fold_one {t : List Int} {so o : Int} : ∀ {R : List Blk} {b ot : Blk}, ((R.foldl (stepR t so o) (b, ot)).1 = b ∧ (b.o < 0 → ∀ r ∈ R, o ≤ r.o → srt t r ≠ so)) ∨ ((R.foldl (stepR t so o) (b, ot)).1 ∈ R ∧ o ≤ (R.foldl (stepR t so o) (b, ot)).1.o ∧ srt t (R.foldl (stepR t so o) (b, ot)).1 = so) := by
  intro R
  induction R with
  | nil => intro b ot; exact .inl ⟨rfl, fun _ r hr => by cases hr⟩
  | cons r R ih =>
    intro b ot
    rw [List.foldl_cons]
    have e : stepR t so o (b, ot) r = ((stepR t so o (b, ot) r).1, (stepR t so o (b, ot) r).2) := rfl
    rw [e]
    rcases ih (b := (stepR t so o (b, ot) r).1) (ot := (stepR t so o (b, ot) r).2) with ⟨h1, h2⟩ | ⟨h1, h2, h3⟩
    · rw [h1]
      unfold stepR at h2 ⊢
      by_cases h4 : r.o < o
      · rw [if_pos h4] at h2 ⊢
        refine .inl ⟨rfl, fun hb x hx hxo => ?_⟩
        rcases List.mem_cons.mp hx with rfl | hx
        · omega
        · exact h2 hb x hx hxo
      · rw [if_neg h4] at h2 ⊢
        simp only at h2 ⊢
        by_cases h5 : srt t r = so ∧ (b.o < 0 ∨ r.o < b.o)
        · rw [if_pos h5]
          exact .inr ⟨List.mem_cons_self, by omega, h5.1⟩
        · rw [if_neg h5] at h2 ⊢
          refine .inl ⟨rfl, fun hb x hx hxo => ?_⟩
          rcases List.mem_cons.mp hx with rfl | hx
          · exact fun h => h5 ⟨h, .inl hb⟩
          · exact h2 hb x hx hxo
    · exact .inr ⟨List.mem_cons_of_mem _ h1, h2, h3⟩
theorem fold_two {t : List Int} {so o : Int} : ∀ {R : List Blk} {b ot : Blk}, ((R.foldl (stepR t so o) (b, ot)).2 = ot ∧ ∀ r ∈ R, o ≤ r.o → r.o ≤ ot.o) ∨ ((R.foldl (stepR t so o) (b, ot)).2 ∈ R ∧ o ≤ (R.foldl (stepR t so o) (b, ot)).2.o) := by
  intro R
  induction R with
  | nil => intro b ot; exact .inl ⟨rfl, fun r hr => by cases hr⟩
  | cons r R ih =>
    intro b ot
    rw [List.foldl_cons]
    have e : stepR t so o (b, ot) r = ((stepR t so o (b, ot) r).1, (stepR t so o (b, ot) r).2) := rfl
    rw [e]
    rcases ih (b := (stepR t so o (b, ot) r).1) (ot := (stepR t so o (b, ot) r).2) with ⟨h1, h2⟩ | ⟨h1, h2⟩
    · rw [h1]
      unfold stepR at h2 ⊢
      by_cases h4 : r.o < o
      · rw [if_pos h4] at h2 ⊢
        refine .inl ⟨rfl, fun x hx hxo => ?_⟩
        rcases List.mem_cons.mp hx with rfl | hx
        · omega
        · exact h2 x hx hxo
      · rw [if_neg h4] at h2 ⊢
        simp only at h2 ⊢
        by_cases h5 : r.o > ot.o
        · rw [if_pos h5]
          exact .inr ⟨List.mem_cons_self, by omega⟩
        · rw [if_neg h5] at h2 ⊢
          refine .inl ⟨rfl, fun x hx hxo => ?_⟩
          rcases List.mem_cons.mp hx with rfl | hx
          · omega
          · exact h2 x hx hxo
    · exact .inr ⟨List.mem_cons_of_mem _ h1, h2⟩
theorem ztake_eq {n : Int} {z : Zon} (Z : ZI n z) (h0 : 0 ≤ n) (hn : n ≤ 100) {so o : Int} (hs : so = 0 ∨ so = 1) (o0 : 0 ≤ o) (o3 : o ≤ 3) :
    ((∀ r ∈ Rms z.c z.s.l, r.o < o) ∧ ZTake.f 1000 z so o = some (z, 0, some 5)) ∨
    ∃ r ∈ Rms z.c z.s.l, o ≤ r.o ∧ r = bestR z.t so o (Rms z.c z.s.l) ∧ ((∃ x ∈ Rms z.c z.s.l, o ≤ x.o ∧ srt z.t x = so) → srt z.t r = so) ∧ Room n z r ∧ Ok n ⟨r.f, o⟩ ∧ ∃ l, ZTake.f 1000 z so o = some (⟨⟨z.s.n, l⟩, z.n, z.t.set (r.f / 8).toNat so, z.c⟩, r.f, none) ∧
      Inv n l ∧ (∀ u, In u ⟨r.f, o⟩ → Cov z.s.l u) ∧ ∀ u, Cov l u ↔ Cov z.s.l u ∧ ¬ In u ⟨r.f, o⟩ := by
  have hR : ∀ r ∈ Rms z.c z.s.l, 0 ≤ r.o := fun r hr => (room_of Z hr).ok.o0
  have h1 := fold_one (t := z.t) (so := so) (o := o) (R := Rms z.c z.s.l) (b := none0) (ot := none0)
  have h2 := fold_two (t := z.t) (so := so) (o := o) (R := Rms z.c z.s.l) (b := none0) (ot := none0)
  have hf := ztake_fin Z h0 hn hs o0 o3
  have hb : bestR z.t so o (Rms z.c z.s.l) = bestP ((Rms z.c z.s.l).foldl (stepR z.t so o) (none0, none0)) := rfl
  generalize hp : (Rms z.c z.s.l).foldl (stepR z.t so o) (none0, none0) = p at h1 h2 hb
  have key : ∀ r ∈ Rms z.c z.s.l, o ≤ r.o → bestR z.t so o (Rms z.c z.s.l) = r → Room n z r ∧ Ok n ⟨r.f, o⟩ ∧ ∃ l, ZTake.f 1000 z so o = some (⟨⟨z.s.n, l⟩, z.n, z.t.set (r.f / 8).toNat so, z.c⟩, r.f, none) ∧
      Inv n l ∧ (∀ u, In u ⟨r.f, o⟩ → Cov z.s.l u) ∧ ∀ u, Cov l u ↔ Cov z.s.l u ∧ ¬ In u ⟨r.f, o⟩ := by
    intro r hr hro he
    have rm := room_of Z hr
    have ok := rm.ok
    have pm := pw_mono o0 hro ok.o5 ok.al
    have rf := ok.f0
    have re := ok.en
    have rp := ok.pos
    have htl := Z.tl
    have okb : Ok n ⟨r.f, o⟩ := ⟨o0, by simp only; omega, rf, pm.2, by simp only; omega⟩
    have hsub : ∀ u, In u ⟨r.f, o⟩ → Cov z.s.l u := fun u hu => rm.cov u ⟨hu.1, by have := hu.2; simp only at this; omega⟩
    refine ⟨rm, okb, ?_⟩
    rcases takeAt_eq Z.inv Z.sn (by omega) (k := 1000) (by omega) r.f o with ⟨hno, _⟩ | ⟨_, ⟨u, hu, hc⟩, _⟩ | ⟨_, _, l, e, hi, hcov, _⟩
    · exact absurd okb hno
    · exact absurd (hsub u hu) hc
    · refine ⟨l, ?_, hi, hsub, hcov⟩
      rw [hf, he]
      unfold finT
      have e1 : (!((none : Option Int) == none)) = false := rfl
      rw [decide_eq_false (show ¬ r.o < 0 by have := hR r hr; omega), cond_false, e, Option.bind_some]
      simp only [e1, cond_false]
      rw [grp rf (by omega), decide_eq_true (show 0 ≤ r.f / 8 by omega), decide_eq_true (show r.f / 8 < (z.t.length : Int) by omega)]
      rfl
  by_cases hp1 : p.1.o < 0
  · have hall : ∀ r ∈ Rms z.c z.s.l, o ≤ r.o → srt z.t r ≠ so := by
      rcases h1 with ⟨_, h⟩ | ⟨h, _, _⟩
      · exact h (by decide)
      · have := hR _ h; omega
    have hbp : bestR z.t so o (Rms z.c z.s.l) = p.2 := by rw [hb]; unfold bestP; rw [if_pos hp1]
    rcases h2 with ⟨h3, h4⟩ | ⟨h3, h4⟩
    · refine .inl ⟨fun r hr => ?_, ?_⟩
      · rcases Int.lt_or_le r.o o with h | h
        · exact h
        · have h5 := h4 r hr h
          have h6 := hR r hr
          have : none0.o = -1 := rfl
          omega
      · rw [hf, hbp, h3]
        rfl
    · exact .inr ⟨p.2, h3, h4, hbp.symm, fun ⟨x, hx, hxo, hxs⟩ => absurd hxs (hall x hx hxo), key p.2 h3 h4 hbp⟩
  · rcases h1 with ⟨h, _⟩ | ⟨h3, h4, h5⟩
    · rw [h] at hp1; exact absurd (by decide) hp1
    · have hbp : bestR z.t so o (Rms z.c z.s.l) = p.1 := by rw [hb]; unfold bestP; rw [if_neg hp1]
      exact .inr ⟨p.1, h3, h4, hbp.symm, fun _ => h5, key p.1 h3 h4 hbp⟩
theorem ZI.of {n : Int} {z : Zon} (Z : ZI n z) {l : List Blk} {t : List Int} (hi : Inv n l) (ht : t.length = z.t.length) : ZI n ⟨⟨z.s.n, l⟩, z.n, t, z.c⟩ := ⟨hi, Z.sn, Z.zn, by simp only [ht]; exact Z.tl, Z.cl⟩
theorem ztake_inv {n : Int} {z : Zon} (Z : ZI n z) (h0 : 0 ≤ n) (hn : n ≤ 100) {so o : Int} (hs : so = 0 ∨ so = 1) (o0 : 0 ≤ o) (o3 : o ≤ 3) : ∃ z' f e, ZTake.f 1000 z so o = some (z', f, e) ∧ ZI n z' ∧ z'.c = z.c ∧ ∀ g : Nat, z.c.getD g false = true → z'.t.getD g 0 = z.t.getD g 0 := by
  rcases ztake_eq Z h0 hn hs o0 o3 with ⟨_, e⟩ | ⟨r, _, _, _, _, rm, _, l, e, hi, _, _⟩
  · exact ⟨z, _, _, e, Z, rfl, fun _ _ => rfl⟩
  · refine ⟨_, _, _, e, Z.of hi (List.length_set ..), rfl, fun g hg => ?_⟩
    have hop := rm.op
    have hne : ¬ (r.f / 8).toNat = g := fun h => by rw [h, hg] at hop; cases hop
    simp only
    rw [List.getD_eq_getElem?_getD, List.getD_eq_getElem?_getD, List.getElem?_set_ne hne]
theorem znew_go {n : Int} {r1 : Sto × Option Int} {s : Sto} {c : List Bool} {G : Nat} (hG : G ≤ 900) (hw : (List.replicate (IntKind.i64.wrap ((IntKind.i64.wrap ((IntKind.i64.wrap (n + 8)) - 1)).tdiv 8)).toNat (0 : Int)).length = G) : ∀ (d fuel i : Nat) (t : List Int), G - i ≤ d → d < fuel → i ≤ G → t.length = G → (∀ j, j < i → t.getD j 0 = 1) →
    ∃ t', ZNew.l1 1000 n r1 fuel ⟨s, n, t, c⟩ (i : Int) = some (⟨s, n, t', c⟩, none) ∧ t'.length = G ∧ ∀ j, j < G → t'.getD j 0 = 1 := by
  intro d
  induction d with
  | zero =>
    intro fuel i t h1 h2 h3 h4 h5
    obtain ⟨fuel, rfl⟩ : ∃ q, fuel = q + 1 := ⟨fuel - 1, by omega⟩
    unfold ZNew.l1
    rw [hw, decide_eq_false (show ¬ (i : Int) < (G : Int) by omega), cond_false]
    exact ⟨t, rfl, h4, fun j hj => h5 j (by omega)⟩
  | succ d ih =>
    intro fuel i t h1 h2 h3 h4 h5
    obtain ⟨fuel, rfl⟩ : ∃ q, fuel = q + 1 := ⟨fuel - 1, by omega⟩
    by_cases hi : i < G
    · unfold ZNew.l1
      rw [hw, decide_eq_true (show (i : Int) < (G : Int) by omega), decide_eq_true (show 0 ≤ (i : Int) by omega)]
      simp only [cond_true]
      rw [decide_eq_true (show (i : Int) < (t.length : Int) by omega)]
      simp only [Bool.and_self, cond_true, Int.toNat_natCast]
      rw [wrap_small (by omega) (by omega), show (i : Int) + 1 = ((i + 1 : Nat) : Int) by omega]
      refine ih fuel (i + 1) (t.set i 1) (by omega) (by omega) (by omega) (by rw [List.length_set]; exact h4) (fun j hj => ?_)
      rw [List.getD_eq_getElem?_getD, List.getElem?_set]
      by_cases hij : i = j
      · rw [if_pos hij, if_pos (by omega)]; rfl
      · rw [if_neg hij, ← List.getD_eq_getElem?_getD]; exact h5 j (by omega)
    · exact ih (fuel + 1) i t (by omega) (by omega) h3 h4 h5
theorem znew_eq {n : Int} (h0 : 1 ≤ n) (h5 : n ≤ 512) : ∃ z, ZNew.f 1000 n = some (z, none) ∧ ZI n z ∧ (∀ u, Cov z.s.l u ↔ 0 ≤ u ∧ u < n) ∧ (∀ j, j < ((n + 7) / 8).toNat → z.t.getD j 0 = 1) ∧ z.c = List.replicate ((n + 7) / 8).toNat false := by
  obtain ⟨l, hn, hi, hc, _⟩ := new_eq (n := n) (k := 1000) h0 h5 (by omega)
  have w1 : IntKind.i64.wrap (n + 8) = n + 8 := wrap_small (by omega) (by omega)
  have w2 : IntKind.i64.wrap (n + 8 - 1) = n + 8 - 1 := wrap_small (by omega) (by omega)
  have w3 : IntKind.i64.wrap ((n + 8 - 1).tdiv 8) = (n + 7) / 8 := by rw [grp (by omega) (by omega)]; congr 1; omega
  have hw : (List.replicate (IntKind.i64.wrap ((IntKind.i64.wrap ((IntKind.i64.wrap (n + 8)) - 1)).tdiv 8)).toNat (0 : Int)).length = ((n + 7) / 8).toNat := by rw [List.length_replicate, w1, w2, w3]
  obtain ⟨t', e, ht, h1⟩ := znew_go (r1 := (⟨n, l⟩, none)) (s := ⟨n, l⟩) (c := List.replicate ((n + 7) / 8).toNat false) (G := ((n + 7) / 8).toNat) (by omega) hw ((n + 7) / 8).toNat 1000 0 (List.replicate ((n + 7) / 8).toNat 0) (by omega) (by omega) (by omega) (by simp) (fun j hj => by omega)
  refine ⟨⟨⟨n, l⟩, n, t', List.replicate ((n + 7) / 8).toNat false⟩, ?_, ⟨hi, rfl, rfl, by simp only [ht]; omega, by simp only [List.length_replicate]; omega⟩, hc, h1, rfl⟩
  unfold ZNew.f
  have e1 : (!((none : Option Int) == none)) = false := rfl
  rw [hn, Option.bind_some]
  simp only [e1, cond_false]
  rw [w1, w2, w3, decide_eq_true (show 0 ≤ (n + 7) / 8 by omega), decide_eq_true (show (n + 7) / 8 ≤ 1000000000 by omega)]
  simp only [Bool.and_self, cond_true]
  exact e
theorem zfree_eq {n : Int} {z : Zon} (Z : ZI n z) (hn : n ≤ 512) : ZFree.f 1000 z = some (z, z.s.l) := by
  unfold ZFree.f
  rw [free_eq Z.inv hn, Option.bind_some]
theorem zsort_eq {z : Zon} {g : Int} (h0 : 0 ≤ g) (h1 : g < (z.t.length : Int)) : ZSort.f 1000 z g = some (z, z.t.getD g.toNat 0, none) := by
  unfold ZSort.f has.f
  rw [decide_eq_true (show g ≥ 0 from h0), decide_eq_true h1, cond_true, Option.bind_some]
  simp only [Bool.not_true, cond_false]
  rw [decide_eq_true h1]
  rfl
theorem zsort_no {z : Zon} {g : Int} (h : ¬ (0 ≤ g ∧ g < (z.t.length : Int))) : ZSort.f 1000 z g = some (z, 0, some 1) := by
  unfold ZSort.f has.f
  by_cases h0 : g ≥ 0
  · rw [decide_eq_true h0, decide_eq_false (show ¬ g < (z.t.length : Int) from fun h1 => h ⟨h0, h1⟩)]; rfl
  · rw [decide_eq_false h0]; rfl
theorem zclosed_eq {n : Int} {z : Zon} (Z : ZI n z) {g : Int} (h0 : 0 ≤ g) (h1 : g < (z.t.length : Int)) : ZClosed.f 1000 z g = some (z, z.c.getD g.toNat false) := by
  have := Z.tl
  have := Z.cl
  unfold ZClosed.f has.f
  rw [decide_eq_true (show g ≥ 0 from h0), decide_eq_true h1, cond_true, Option.bind_some]
  simp only [cond_true]
  rw [decide_eq_true (show g < (z.c.length : Int) by omega)]
  rfl
theorem zclosed_no {z : Zon} {g : Int} (h : ¬ (0 ≤ g ∧ g < (z.t.length : Int))) : ZClosed.f 1000 z g = some (z, false) := by
  unfold ZClosed.f has.f
  by_cases h0 : g ≥ 0
  · rw [decide_eq_true h0, decide_eq_false (show ¬ g < (z.t.length : Int) from fun h1 => h ⟨h0, h1⟩)]; rfl
  · rw [decide_eq_false h0]; rfl
theorem zisfree_yes {n : Int} {z : Zon} (Z : ZI n z) (hn : n ≤ 512) {u : Int} (h : Cov z.s.l u) : ZIsFree.f 1000 z u = some (z, true) := by
  unfold ZIsFree.f
  rw [isFree_yes Z.inv hn (by omega) h, Option.bind_some]
theorem zisfree_no {n : Int} {z : Zon} (Z : ZI n z) (hn : n ≤ 512) {u : Int} (h : ¬ Cov z.s.l u) : ZIsFree.f 1000 z u = some (z, false) := by
  unfold ZIsFree.f
  rw [isFree_no Z.inv hn (by omega) h, Option.bind_some]
theorem zclone_eq {n : Int} {z : Zon} (Z : ZI n z) (hn : n ≤ 512) : ZClone.f 1000 z = some (z, z) := by
  have hl := Z.inv.len hn
  have ht := Z.tl
  have hc := Z.cl
  unfold ZClone.f SCloneR.f CloneI.f CloneB.f
  rw [clone_eq (by omega), Option.bind_some, Option.bind_some, decide_eq_true (show ([] : List Int).length + z.t.length ≤ 1000000 by simp; omega), decide_eq_true (show ([] : List Bool).length + z.c.length ≤ 1000000 by simp; omega)]
  rfl
end Go.Proofs.YtmjnenjeckeklaaDoor.V
