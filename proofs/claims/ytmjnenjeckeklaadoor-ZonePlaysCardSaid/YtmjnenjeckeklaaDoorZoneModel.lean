import Derived.Test.YtmjnenjeckeklaaDoorZoneSame
namespace Go.Proofs.YtmjnenjeckeklaaDoor.V
open Go Go.RowKit Go.Proofs Go.Proofs.YtmjnenjeckeklaaDoor.Q Go.Proofs.YtmjnenjeckeklaaDoorW.PrintWords
set_option linter.unusedVariables false
set_option linter.unusedSimpArgs false
set_option maxRecDepth 100000
def rg (y : Blk) (g : Int) : List Blk := (if y.o ≤ 3 ∧ y.f / 8 = g then [y] else []) ++ (if 3 < y.o ∧ y.f ≤ g * 8 ∧ g * 8 < y.f + pw y.o then [⟨g * 8, 3⟩] else [])
theorem mem_rg {n : Int} {y r : Blk} {g : Int} (ok : Ok n y) : r ∈ rg y g ↔ r ∈ pcs (lo y.o) y.f (many y.o) ∧ r.f / 8 = g := by
  have y0 := ok.o0
  have y5 := ok.o5
  have yf := ok.f0
  have ya := ok.al
  unfold rg
  by_cases h3 : y.o ≤ 3
  · have hlo : lo y.o = y.o := by unfold lo; rw [if_neg (by omega)]
    have hmn : many y.o = 1 := by unfold many; rw [if_neg (by omega), if_neg (by omega)]
    rw [hlo, hmn, if_neg (show ¬ (3 < y.o ∧ y.f ≤ g * 8 ∧ g * 8 < y.f + pw y.o) from fun h => by omega), List.append_nil]
    have hp : pcs y.o y.f 1 = [y] := rfl
    rw [hp, List.mem_singleton]
    by_cases hg : y.f / 8 = g
    · rw [if_pos ⟨h3, hg⟩, List.mem_singleton]
      exact ⟨fun h => ⟨h, by rw [h]; exact hg⟩, fun h => h.1⟩
    · rw [if_neg (fun h => hg h.2)]
      exact ⟨(fun h => (by cases h)), fun h => absurd (show y.f / 8 = g from (by rw [← h.1]; exact h.2)) hg⟩
  · have hlo : lo y.o = 3 := by unfold lo; rw [if_pos (by omega)]
    have p3 : pw 3 = 8 := rfl
    have hcase : (y.f % 8 = 0 ∧ (many y.o : Int) * 8 = pw y.o) := by
      have : y.o = 4 ∨ y.o = 5 := by omega
      rcases this with h | h
      · rw [h] at ya ⊢; rw [show pw 4 = 16 from rfl] at ya ⊢; exact ⟨by omega, rfl⟩
      · rw [h] at ya ⊢; rw [show pw 5 = 32 from rfl] at ya ⊢; exact ⟨by omega, rfl⟩
    rw [hlo, pcs_mem (by rw [p3]; omega), p3, if_neg (fun h => h3 h.1), List.nil_append]
    constructor
    · intro h
      by_cases hc : 3 < y.o ∧ y.f ≤ g * 8 ∧ g * 8 < y.f + pw y.o
      · rw [if_pos hc, List.mem_singleton] at h
        subst h
        refine ⟨⟨((g * 8 - y.f) / 8).toNat, by omega, ?_⟩, by simp only; omega⟩
        congr 1
        omega
      · rw [if_neg hc] at h
        cases h
    · rintro ⟨⟨j, hj, rfl⟩, hg⟩
      simp only at hg
      have hc : 3 < y.o ∧ y.f ≤ g * 8 ∧ g * 8 < y.f + pw y.o := ⟨by omega, by omega, by omega⟩
      rw [if_pos hc, List.mem_singleton]
      congr 1
      omega
theorem pcs_in {n : Int} {y r : Blk} (ok : Ok n y) (h : r ∈ pcs (lo y.o) y.f (many y.o)) : y.f ≤ r.f ∧ r.f < y.f + pw y.o ∧ 0 ≤ r.o ∧ r.o ≤ 3 := by
  obtain ⟨l0, l3, hm, lp, _⟩ := lo_many ok.o0 ok.o5
  have hpos : 0 ≤ pw (lo y.o) := by rcases lp with h | h | h | h <;> omega
  have hpos1 : 1 ≤ pw (lo y.o) := by rcases lp with h | h | h | h <;> omega
  obtain ⟨j, hj, rfl⟩ := (pcs_mem hpos).mp h
  have hj0 : 0 ≤ (j : Int) * pw (lo y.o) := Int.mul_nonneg (by omega) hpos
  have hjm : (j : Int) * pw (lo y.o) + pw (lo y.o) ≤ pw y.o := by
    rw [← hm]
    have : ((j : Int) + 1) * pw (lo y.o) ≤ (many y.o : Int) * pw (lo y.o) := Int.mul_le_mul_of_nonneg_right (by omega) hpos
    rw [Int.add_mul, Int.one_mul] at this
    exact this
  exact ⟨by simp only; omega, by simp only; omega, l0, l3⟩
theorem pcs_srt {o : Int} (hp : 1 ≤ pw o) : ∀ {m : Nat} {a : Int}, (pcs o a m).Pairwise fun x y => x.f < y.f := by
  intro m
  induction m with
  | zero => intro a; exact .nil
  | succ m ih =>
    intro a
    rw [pcs_succ]
    refine .cons (fun y hy => ?_) ih
    obtain ⟨j, _, rfl⟩ := (pcs_mem (by omega)).mp hy
    have : 0 ≤ (j : Int) * pw o := Int.mul_nonneg (by omega) (by omega)
    simp only
    omega
theorem rms_srt {n : Int} {c : List Bool} {L : List Blk} (h : Inv n L) : (Rms c L).Pairwise fun x y => x.f < y.f := by
  unfold Rms
  refine List.pairwise_flatMap.mpr ⟨fun y hy => ?_, ?_⟩
  · have ok := h.ok y hy
    obtain ⟨_, _, _, lp, _⟩ := lo_many ok.o0 ok.o5
    exact (pcs_srt (by rcases lp with h | h | h | h <;> omega)).filter _
  · refine List.Pairwise.imp_of_mem (R := Bef) (fun {y y'} hy hy' hb x hx x' hx' => ?_) h.srt
    have h1 := pcs_in (h.ok y hy) (List.mem_filter.mp hx).1
    have h2 := pcs_in (h.ok y' hy') (List.mem_filter.mp hx').1
    unfold Bef at hb
    omega
def bestL (C : List Bool) (T : List Int) (so : Int) (L : List Blk) (gs : List Nat) : List Blk := gs.flatMap fun g => if C.getD g false = true ∨ (0 ≤ so ∧ T.getD g 0 ≠ so) then [] else L.flatMap fun y => rg y (g : Int)
theorem grp_srt {n : Int} {L : List Blk} (h : Inv n L) (g : Int) : (L.flatMap fun y => rg y g).Pairwise fun x y => x.f < y.f := by
  refine List.pairwise_flatMap.mpr ⟨fun y hy => ?_, ?_⟩
  · unfold rg
    by_cases h3 : y.o ≤ 3
    · rw [if_neg (show ¬ (3 < y.o ∧ y.f ≤ g * 8 ∧ g * 8 < y.f + pw y.o) from fun h => by omega), List.append_nil]
      split
      · exact List.pairwise_singleton _ _
      · exact .nil
    · rw [if_neg (fun h => h3 h.1), List.nil_append]
      split
      · exact List.pairwise_singleton _ _
      · exact .nil
  · refine List.Pairwise.imp_of_mem (R := Bef) (fun {y y'} hy hy' hb x hx x' hx' => ?_) h.srt
    have h1 := pcs_in (h.ok y hy) ((mem_rg (h.ok y hy)).mp hx).1
    have h2 := pcs_in (h.ok y' hy') ((mem_rg (h.ok y' hy')).mp hx').1
    unfold Bef at hb
    omega
theorem mem_bestL {n : Int} {C : List Bool} {T : List Int} {so : Int} {L : List Blk} {G : Nat} (h : Inv n L) (hG : (G : Int) = (n + 7) / 8) {r : Blk} : r ∈ bestL C T so L (List.range G) ↔ r ∈ Rms C L ∧ (so < 0 ∨ srt T r = so) := by
  unfold bestL
  constructor
  · intro hr
    obtain ⟨g, hg, hr⟩ := List.mem_flatMap.mp hr
    by_cases hc : C.getD g false = true ∨ (0 ≤ so ∧ T.getD g 0 ≠ so)
    · rw [if_pos hc] at hr; cases hr
    · rw [if_neg hc] at hr
      obtain ⟨y, hy, hr⟩ := List.mem_flatMap.mp hr
      obtain ⟨hp, hgr⟩ := (mem_rg (h.ok y hy)).mp hr
      have hgn : (r.f / 8).toNat = g := by omega
      refine ⟨List.mem_flatMap.mpr ⟨y, hy, List.mem_filter.mpr ⟨hp, ?_⟩⟩, ?_⟩
      · unfold op
        rw [hgn]
        cases hb : C.getD g false with
        | true => exact absurd (.inl hb) hc
        | false => rfl
      · unfold srt
        rw [hgn]
        rcases Int.lt_or_le so 0 with h' | h'
        · exact .inl h'
        · by_cases ht : T.getD g 0 = so
          · exact .inr ht
          · exact absurd (.inr ⟨h', ht⟩) hc
  · rintro ⟨hr, hso⟩
    obtain ⟨y, hy, hr⟩ := List.mem_flatMap.mp hr
    obtain ⟨hp, ho⟩ := List.mem_filter.mp hr
    have ok := h.ok y hy
    have hin := pcs_in ok hp
    have yf := ok.f0
    have ye := ok.en
    refine List.mem_flatMap.mpr ⟨(r.f / 8).toNat, List.mem_range.mpr (by omega), ?_⟩
    have hcl : C.getD (r.f / 8).toNat false = false := by unfold op at ho; simpa using ho
    rw [if_neg (fun hc => hc.elim (fun h => by rw [hcl] at h; cases h) (fun h => hso.elim (fun h' => by omega) (fun h' => h.2 h')))]
    exact List.mem_flatMap.mpr ⟨y, hy, (mem_rg ok).mpr ⟨hp, by omega⟩⟩
theorem bestL_srt {n : Int} {C : List Bool} {T : List Int} {so : Int} {L : List Blk} {G : Nat} (h : Inv n L) : (bestL C T so L (List.range G)).Pairwise fun x y => x.f < y.f := by
  unfold bestL
  refine List.pairwise_flatMap.mpr ⟨fun g hg => ?_, ?_⟩
  · split
    · exact .nil
    · exact grp_srt h g
  · refine List.Pairwise.imp_of_mem (R := (· < ·)) (fun {g g'} _ _ hgg x hx x' hx' => ?_) List.pairwise_lt_range
    have key : ∀ {g : Nat} {x : Blk}, x ∈ (if C.getD g false = true ∨ (0 ≤ so ∧ T.getD g 0 ≠ so) then [] else L.flatMap fun y => rg y (g : Int)) → x.f / 8 = (g : Int) := by
      intro g x hx
      by_cases hc : C.getD g false = true ∨ (0 ≤ so ∧ T.getD g 0 ≠ so)
      · rw [if_pos hc] at hx; cases hx
      · rw [if_neg hc] at hx
        obtain ⟨y, hy, hr⟩ := List.mem_flatMap.mp hx
        exact ((mem_rg (h.ok y hy)).mp hr).2
    have := key hx
    have := key hx'
    omega
theorem bestL_any {n : Int} {C : List Bool} {T : List Int} {so : Int} {L : List Blk} {G : Nat} (h : Inv n L) (hG : (G : Int) = (n + 7) / 8) (hs : so < 0) : bestL C T so L (List.range G) = Rms C L :=
  sorted_ext (bestL_srt h) (rms_srt h) (fun x => (mem_bestL h hG).trans ⟨fun h => h.1, fun h => ⟨h, .inl hs⟩⟩)
theorem bestL_of {n : Int} {C : List Bool} {T : List Int} {so : Int} {L : List Blk} {G : Nat} (h : Inv n L) (hG : (G : Int) = (n + 7) / 8) (hs : 0 ≤ so) : bestL C T so L (List.range G) = (Rms C L).filter fun r => srt T r == so :=
  sorted_ext (bestL_srt h) ((rms_srt h).filter _) (fun x => (mem_bestL h hG).trans (by
    rw [List.mem_filter, beq_iff_eq]
    exact ⟨fun h => ⟨h.1, h.2.elim (fun h => by omega) id⟩, fun h => ⟨h.1, .inr h.2⟩⟩))
theorem many_go {m : ZM} {a1 : Int} {L : List Blk} {v2 : ZM} {v3 : List Blk} {i : Nat} (hi : i < L.length) (o5 : L[i].o ≤ 5) (o0 : 0 ≤ L[i].o) : ∀ (d k : Nat) (q : Int), (L[i].o - q).toNat ≤ d → d < k → 0 ≤ q → q ≤ L[i].o → MRooms.l2 1000 m a1 L v2 v3 (i : Int) k m (pw q) q = some (m, pw L[i].o, L[i].o) := by
  have e : L.getD ((i : Int)).toNat zR = L[i] := getD_at hi
  intro d
  induction d with
  | zero =>
    intro k q h1 h2 h3 h4
    obtain ⟨k, rfl⟩ : ∃ r, k = r + 1 := ⟨k - 1, by omega⟩
    obtain rfl : q = L[i].o := by omega
    unfold MRooms.l2
    rw [e, decide_eq_true (show 0 ≤ (i : Int) by omega), decide_eq_true (show (i : Int) < (L.length : Int) by omega), decide_eq_false (show ¬ L[i].o < L[i].o by omega)]
    rfl
  | succ d ih =>
    intro k q h1 h2 h3 h4
    obtain ⟨k, rfl⟩ : ∃ r, k = r + 1 := ⟨k - 1, by omega⟩
    rcases Int.lt_or_eq_of_le h4 with hq | hq
    · unfold MRooms.l2
      have hp := pw_le h3 (by omega : q ≤ 5)
      rw [e, decide_eq_true (show 0 ≤ (i : Int) by omega), decide_eq_true (show (i : Int) < (L.length : Int) by omega), decide_eq_true hq]
      simp only [Bool.and_self, cond_true]
      rw [wrap_small (x := pw q * 2) (by omega) (by omega), wrap_small (x := q + 1) (by omega) (by omega), show pw q * 2 = pw (q + 1) by rw [pw_succ h3 (by omega)]; omega]
      exact ih k (q + 1) (by omega) (by omega) (by omega) (by omega)
    · exact ih (k + 1) q (by omega) (by omega) h3 h4
theorem mrooms_go {n : Int} {m : ZM} {g : Int} {L : List Blk} (h : Inv n L) (hn : n ≤ 512) (g0 : 0 ≤ g) (g1 : g ≤ 1000) : ∀ (d k i : Nat) (acc : List Blk), L.length - i ≤ d → d < k → i ≤ L.length → acc.length + 2 * d ≤ 9000 → MRooms.l1 1000 m g L k m acc (i : Int) = some (m, acc ++ (L.drop i).flatMap fun y => rg y g) := by
  have hlen := h.len hn
  intro d
  induction d with
  | zero =>
    intro k i acc h1 h2 h3 h4
    obtain ⟨k, rfl⟩ : ∃ r, k = r + 1 := ⟨k - 1, by omega⟩
    unfold MRooms.l1
    rw [decide_eq_false (show ¬ (i : Int) < (L.length : Int) by omega), cond_false, List.drop_eq_nil_of_le (by omega)]
    simp
  | succ d ih =>
    intro k i acc h1 h2 h3 h4
    obtain ⟨k, rfl⟩ : ∃ r, k = r + 1 := ⟨k - 1, by omega⟩
    by_cases hi : i < L.length
    · have ok := h.ok _ (List.getElem_mem hi)
      have o0 := ok.o0
      have o5 := ok.o5
      have yf := ok.f0
      have ye := ok.en
      have yp := pw_le o0 o5
      have e : L.getD ((i : Int)).toNat zR = L[i] := getD_at hi
      have hm : MRooms.l2 1000 m g L m acc (i : Int) 1000 m 1 0 = some (m, pw L[i].o, L[i].o) := many_go hi o5 o0 5 1000 0 (by omega) (by omega) (by omega) o0
      have c1 : decide (0 ≤ (i : Int)) = true := decide_eq_true (by omega)
      have c2 : decide ((i : Int) < (L.length : Int)) = true := decide_eq_true (by omega)
      have hj : MRooms.j1 1000 m g L m acc (i : Int) (m, pw L[i].o, L[i].o) = some (acc ++ if L[i].o ≤ 3 ∧ L[i].f / 8 = g then [L[i]] else []) := by
        unfold MRooms.j1
        rw [e, c1, c2, grp yf (by omega)]
        simp only [Bool.and_self, cond_true]
        by_cases h5 : L[i].o ≤ 3
        · rw [decide_eq_true h5, cond_true]
          by_cases h6 : L[i].f / 8 = g
          · rw [beq_iff_eq.mpr h6, cond_true, decide_eq_true (show acc.length + ([L[i]] : List Blk).length ≤ 1000000 by simp; omega), cond_true, if_pos ⟨h5, h6⟩]
          · rw [beq_eq_false_iff_ne.mpr h6, cond_false, if_neg (fun h => h6 h.2), List.append_nil]
        · rw [decide_eq_false h5, cond_false, if_neg (fun h => h5 h.1), List.append_nil]
      have w1 : IntKind.i64.wrap ((i : Int) + 1) = ((i + 1 : Nat) : Int) := by rw [wrap_small (by omega) (by omega)]; omega
      have w2 : IntKind.i64.wrap (g * 8) = g * 8 := wrap_small (by omega) (by omega)
      have w3 : IntKind.i64.wrap (L[i].f + pw L[i].o) = L[i].f + pw L[i].o := wrap_small (by omega) (by omega)
      have hl1 : (acc ++ if L[i].o ≤ 3 ∧ L[i].f / 8 = g then [L[i]] else []).length ≤ acc.length + 1 := by split <;> simp
      have step : MRooms.l1 1000 m g L (k + 1) m acc (i : Int) = MRooms.l1 1000 m g L k m (acc ++ rg L[i] g) ((i + 1 : Nat) : Int) := by
        conv => lhs; unfold MRooms.l1
        rw [c2, cond_true, hm, Option.bind_some, hj, Option.bind_some, w1, w2, c1, e]
        simp only [Bool.and_self, cond_true]
        rw [w3]
        unfold rg
        rw [← List.append_assoc]
        generalize (acc ++ if L[i].o ≤ 3 ∧ L[i].f / 8 = g then [L[i]] else []) = acc2 at hl1
        by_cases h7 : 3 < L[i].o
        · rw [decide_eq_true (show L[i].o > 3 from h7), cond_true]
          by_cases h8 : L[i].f ≤ g * 8
          · rw [decide_eq_true (show g * 8 ≥ L[i].f from h8), cond_true]
            by_cases h9 : g * 8 < L[i].f + pw L[i].o
            · rw [decide_eq_true h9, cond_true, decide_eq_true (show acc2.length + ([(⟨g * 8, 3⟩ : Blk)] : List Blk).length ≤ 1000000 by simp; omega), cond_true, if_pos ⟨h7, h8, h9⟩]
            · rw [decide_eq_false h9, cond_false, if_neg (fun h => h9 h.2.2), List.append_nil]
          · rw [decide_eq_false (show ¬ g * 8 ≥ L[i].f from h8), cond_false, if_neg (fun h => h8 h.2.1), List.append_nil]
        · rw [decide_eq_false (show ¬ L[i].o > 3 from h7), cond_false, if_neg (fun h => h7 h.1), List.append_nil]
      have hl2 : (acc ++ rg L[i] g).length ≤ acc.length + 2 := by unfold rg; rw [List.length_append, List.length_append]; split <;> split <;> simp
      rw [step, ih k (i + 1) _ (by omega) (by omega) (by omega) (by omega), List.drop_eq_getElem_cons hi, List.flatMap_cons, List.append_assoc]
    · exact ih (k + 1) i acc (by omega) (by omega) h3 (by omega)
theorem mrooms_eq {n : Int} {m : ZM} {g : Int} {L : List Blk} (h : Inv n L) (hn : n ≤ 512) (hr : RFree.f 1000 m.s = some L) (g0 : 0 ≤ g) (g1 : g ≤ 1000) : MRooms.f 1000 m g = some (m, L.flatMap fun y => rg y g) := by
  have hlen := h.len hn
  unfold MRooms.f
  rw [hr, Option.bind_some]
  have := mrooms_go (m := m) h hn g0 g1 L.length 1000 0 [] (by omega) (by omega) (by omega) (by simp; omega)
  rw [List.drop_zero, List.nil_append] at this
  exact this
def stepM (o : Int) (least : Bool) (p : Blk × Int) (r : Blk) : Blk × Int := if o ≤ r.o ∧ (p.2 < 0 ∨ (least = true ∧ r.o < p.1.o) ∨ (least = false ∧ p.1.o < r.o)) then (r, r.f / 8) else p
theorem best_row {o g : Int} {least : Bool} {R : List Blk} {m : ZM} (hR : ∀ r ∈ R, r.f / 8 = g) (hl : R.length ≤ 5000) {H : Nat → ZM → Blk → Int → Int → Option (ZM × Blk × Int × Int)} {J : ZM → Blk → Int → Int → Option Bool}
    (hJ : ∀ x b q v, J x b q v = (bif decide (q < 0) then some true else (bif least then (bif decide (0 ≤ v) && decide (v < (R.length : Int)) then (bif decide (((R.getD ((v).toNat) zR).o) < b.o) then some true else (bif !least then (bif decide (0 ≤ v) && decide (v < (R.length : Int)) then some (decide (((R.getD ((v).toNat) zR).o) > b.o)) else none) else some false)) else none) else (bif !least then (bif decide (0 ≤ v) && decide (v < (R.length : Int)) then some (decide (((R.getD ((v).toNat) zR).o) > b.o)) else none) else some false))))
    (hH : ∀ k x b q v, H (k + 1) x b q v = (bif decide (v < (R.length : Int)) then (J x b q v).bind fun (y16 : Bool) => (bif decide (0 ≤ v) && decide (v < (R.length : Int)) then (bif decide (((R.getD ((v).toNat) zR).o) ≥ o) then (bif y16 then (bif decide (0 ≤ v) && decide (v < (R.length : Int)) then H k x (R.getD ((v).toNat) zR) g (IntKind.i64.wrap (v + 1)) else none) else H k x b q (IntKind.i64.wrap (v + 1))) else H k x b q (IntKind.i64.wrap (v + 1))) else none) else some (x, b, q, v))) :
    ∀ (d k i : Nat) (b : Blk) (q : Int), R.length - i ≤ d → d < k → i ≤ R.length → ∃ v, H k m b q (i : Int) = some (m, ((R.drop i).foldl (stepM o least) (b, q)).1, ((R.drop i).foldl (stepM o least) (b, q)).2, v) := by
  intro d
  induction d with
  | zero =>
    intro k i b q h1 h2 h3
    obtain ⟨k, rfl⟩ : ∃ r, k = r + 1 := ⟨k - 1, by omega⟩
    rw [hH, decide_eq_false (show ¬ (i : Int) < (R.length : Int) by omega), cond_false, List.drop_eq_nil_of_le (by omega)]
    exact ⟨_, rfl⟩
  | succ d ih =>
    intro k i b q h1 h2 h3
    obtain ⟨k, rfl⟩ : ∃ r, k = r + 1 := ⟨k - 1, by omega⟩
    by_cases hi : i < R.length
    · have e : R.getD ((i : Int)).toNat zR = R[i] := getD_at hi
      have c1 : decide (0 ≤ (i : Int)) = true := decide_eq_true (by omega)
      have c2 : decide ((i : Int) < (R.length : Int)) = true := decide_eq_true (by omega)
      have w1 : IntKind.i64.wrap ((i : Int) + 1) = ((i + 1 : Nat) : Int) := by rw [wrap_small (by omega) (by omega)]; omega
      have hj : J m b q (i : Int) = some (decide (q < 0 ∨ (least = true ∧ R[i].o < b.o) ∨ (least = false ∧ b.o < R[i].o))) := by
        rw [hJ, e, c1, c2]
        by_cases hq : q < 0
        · rw [decide_eq_true hq, cond_true, decide_eq_true (show q < 0 ∨ _ from .inl hq)]
        · rw [decide_eq_false hq]
          cases least with
          | true =>
            simp only [Bool.and_self, cond_true, cond_false, Bool.not_true]
            by_cases h5 : R[i].o < b.o
            · simp [hq, h5]
            · simp [hq, h5]
          | false =>
            simp only [Bool.and_self, cond_true, cond_false, Bool.not_false]
            by_cases h5 : b.o < R[i].o
            · simp [hq, h5]
            · simp [hq, h5]
      have hg := hR _ (List.getElem_mem hi)
      rw [List.drop_eq_getElem_cons hi, List.foldl_cons]
      have hstep : H (k + 1) m b q (i : Int) = H k m (stepM o least (b, q) R[i]).1 (stepM o least (b, q) R[i]).2 ((i + 1 : Nat) : Int) := by
        rw [hH, c2, cond_true, hj, Option.bind_some, c1, e, w1]
        simp only [Bool.and_self, cond_true]
        unfold stepM
        by_cases h6 : o ≤ R[i].o
        · rw [decide_eq_true (show R[i].o ≥ o from h6), cond_true]
          by_cases h7 : q < 0 ∨ (least = true ∧ R[i].o < b.o) ∨ (least = false ∧ b.o < R[i].o)
          · rw [decide_eq_true h7, cond_true, if_pos ⟨h6, h7⟩, hg]
          · rw [decide_eq_false h7, cond_false, if_neg (fun h => h7 h.2)]
        · rw [decide_eq_false (show ¬ R[i].o ≥ o from h6), cond_false, if_neg (fun h => h6 h.1)]
      rw [hstep]
      exact ih k (i + 1) _ _ (by omega) (by omega) (by omega)
    · exact ih (k + 1) i b q (by omega) (by omega) h3
theorem grp_of {n : Int} {L : List Blk} (h : Inv n L) {g : Int} {r : Blk} (hr : r ∈ L.flatMap fun y => rg y g) : r.f / 8 = g := by
  obtain ⟨y, hy, hr⟩ := List.mem_flatMap.mp hr
  exact ((mem_rg (h.ok y hy)).mp hr).2
theorem grp_len {L : List Blk} {g : Int} : (L.flatMap fun y => rg y g).length ≤ 2 * L.length := by
  induction L with
  | nil => simp
  | cons y L ih =>
    rw [List.flatMap_cons, List.length_append, List.length_cons]
    have : (rg y g).length ≤ 2 := by unfold rg; rw [List.length_append]; split <;> split <;> simp
    omega
theorem mbest_go {n : Int} {m : ZM} {so o : Int} {least : Bool} {L : List Blk} (h : Inv n L) (h0 : 0 ≤ n) (hn : n ≤ 100) (hll : (L.length : Int) ≤ n) (hr : RFree.f 1000 m.s = some L) (ht : (m.t.length : Int) = (n + 7) / 8) (hc : (m.c.length : Int) = (n + 7) / 8) : ∀ (d k g : Nat) (b : Blk) (q : Int), m.t.length - g ≤ d → d < k → g ≤ m.t.length →
    MBest.l1 1000 m so o least k m b q (g : Int) = some (m, ((bestL m.c m.t so L (List.range' g (m.t.length - g))).foldl (stepM o least) (b, q)).1, ((bestL m.c m.t so L (List.range' g (m.t.length - g))).foldl (stepM o least) (b, q)).2) := by
  intro d
  induction d with
  | zero =>
    intro k g b q h1 h2 h3
    obtain ⟨k, rfl⟩ : ∃ r, k = r + 1 := ⟨k - 1, by omega⟩
    unfold MBest.l1
    rw [decide_eq_false (show ¬ (g : Int) < (m.t.length : Int) by omega), cond_false, show m.t.length - g = 0 by omega]
    rfl
  | succ d ih =>
    intro k g b q h1 h2 h3
    obtain ⟨k, rfl⟩ : ∃ r, k = r + 1 := ⟨k - 1, by omega⟩
    by_cases hg : g < m.t.length
    · have w1 : IntKind.i64.wrap ((g : Int) + 1) = ((g + 1 : Nat) : Int) := by rw [wrap_small (by omega) (by omega)]; omega
      have hrange : List.range' g (m.t.length - g) = g :: List.range' (g + 1) (m.t.length - (g + 1)) := by
        rw [show m.t.length - g = (m.t.length - (g + 1)) + 1 by omega, List.range'_succ]
      have en : ((g : Int)).toNat = g := Int.toNat_natCast g
      have c1 : decide (0 ≤ (g : Int)) = true := decide_eq_true (by omega)
      have c2 : decide ((g : Int) < (m.t.length : Int)) = true := decide_eq_true (by omega)
      have c3 : decide ((g : Int) < (m.c.length : Int)) = true := decide_eq_true (by omega)
      have next := fun b q => ih k (g + 1) b q (by omega) (by omega) (by omega)
      have hrm := mrooms_eq (m := m) (g := (g : Int)) h (by omega) hr (by omega) (by omega)
      have hgl := grp_len (L := L) (g := (g : Int))
      have hcons : bestL m.c m.t so L (List.range' g (m.t.length - g)) = (if m.c.getD g false = true ∨ (0 ≤ so ∧ m.t.getD g 0 ≠ so) then [] else L.flatMap fun y => rg y (g : Int)) ++ bestL m.c m.t so L (List.range' (g + 1) (m.t.length - (g + 1))) := by
        rw [hrange]; unfold bestL; rw [List.flatMap_cons]
      rw [hcons, List.foldl_append]
      have ej : MBest.j1 1000 m so o least m b q (g : Int) = some (decide (m.c.getD g false = true ∨ (0 ≤ so ∧ m.t.getD g 0 ≠ so))) := by
        unfold MBest.j1
        rw [c1, c3, c2, en]
        simp only [Bool.and_self, cond_true]
        cases hcl : m.c.getD g false with
        | true => rfl
        | false =>
          rw [cond_false]
          by_cases hs : so ≥ 0
          · rw [decide_eq_true hs, cond_true]
            by_cases hts : m.t.getD g 0 = so
            · have hne : (m.t.getD g 0 != so) = false := by rw [hts]; simp
              rw [hne, decide_eq_false (fun h => h.elim (fun h => by cases h) (fun h => h.2 hts))]
            · have hne : (m.t.getD g 0 != so) = true := by simpa using hts
              rw [hne, decide_eq_true (.inr ⟨hs, hts⟩)]
          · rw [decide_eq_false hs, cond_false, decide_eq_false (fun h => h.elim (fun h => by cases h) (fun h => hs h.1))]
      unfold MBest.l1
      rw [c2, cond_true, ej, Option.bind_some, w1]
      by_cases hcc : m.c.getD g false = true ∨ (0 ≤ so ∧ m.t.getD g 0 ≠ so)
      · rw [decide_eq_true hcc, cond_true, if_pos hcc, List.foldl_nil]
        exact next b q
      · rw [decide_eq_false hcc, cond_false, if_neg hcc, hrm, Option.bind_some]
        simp only []
        obtain ⟨v, hv⟩ := best_row (o := o) (g := (g : Int)) (least := least) (R := L.flatMap fun y => rg y (g : Int)) (m := m) (fun r hr => grp_of h hr) (by omega) (H := MBest.l2 1000 m so o least m b q (g : Int) false (m, L.flatMap fun y => rg y (g : Int))) (J := MBest.j2 1000 m so o least m b q (g : Int) false (m, L.flatMap fun y => rg y (g : Int))) (fun _ _ _ _ => rfl) (fun _ _ _ _ _ => rfl) (L.flatMap fun y => rg y (g : Int)).length 1000 0 b q (by omega) (by omega) (by omega)
        rw [List.drop_zero] at hv
        have hv : MBest.l2 1000 m so o least m b q (g : Int) false (m, L.flatMap fun y => rg y (g : Int)) 1000 m b q 0 = _ := hv
        rw [hv, Option.bind_some]
        exact next _ _
    · unfold MBest.l1
      rw [decide_eq_false (show ¬ (g : Int) < (m.t.length : Int) by omega), cond_false, show m.t.length - g = 0 by omega]
      rfl
theorem mbest_eq {n : Int} {m : ZM} {so o : Int} {least : Bool} {L : List Blk} (h : Inv n L) (h0 : 0 ≤ n) (hn : n ≤ 100) (hll : (L.length : Int) ≤ n) (hr : RFree.f 1000 m.s = some L) (ht : (m.t.length : Int) = (n + 7) / 8) (hc : (m.c.length : Int) = (n + 7) / 8) :
    MBest.f 1000 m so o least = some (m, ((bestL m.c m.t so L (List.range m.t.length)).foldl (stepM o least) (⟨0, 0⟩, -1)).1, ((bestL m.c m.t so L (List.range m.t.length)).foldl (stepM o least) (⟨0, 0⟩, -1)).2) := by
  unfold MBest.f
  have := mbest_go (so := so) (o := o) (least := least) h h0 hn hll hr ht hc m.t.length 1000 0 ⟨0, 0⟩ (-1) (by omega) (by omega) (by omega)
  rw [Nat.sub_zero, ← List.range_eq_range'] at this
  exact this
theorem fold_least {T : List Int} {so o : Int} (o0 : 0 ≤ o) : ∀ {R : List Blk} {b ot : Blk} {p : Blk × Int}, (∀ r ∈ R, 0 ≤ r.o ∧ 0 ≤ r.f) → ((b.o < 0 ∧ p.2 < 0) ∨ (0 ≤ b.o ∧ p = (b, b.f / 8) ∧ 0 ≤ b.f)) →
    (((R.foldl (stepR T so o) (b, ot)).1.o < 0 ∧ ((R.filter fun r => srt T r == so).foldl (stepM o true) p).2 < 0) ∨ (0 ≤ (R.foldl (stepR T so o) (b, ot)).1.o ∧ ((R.filter fun r => srt T r == so).foldl (stepM o true) p) = ((R.foldl (stepR T so o) (b, ot)).1, (R.foldl (stepR T so o) (b, ot)).1.f / 8) ∧ 0 ≤ (R.foldl (stepR T so o) (b, ot)).1.f)) := by
  intro R
  induction R with
  | nil => intro b ot p _ h; exact h
  | cons r R ih =>
    intro b ot p hR h
    have hr := hR r List.mem_cons_self
    have e : stepR T so o (b, ot) r = ((stepR T so o (b, ot) r).1, (stepR T so o (b, ot) r).2) := rfl
    have e2 : List.foldl (stepM o true) p (List.filter (fun r => srt T r == so) (r :: R)) = List.foldl (stepM o true) (if srt T r = so then stepM o true p r else p) (List.filter (fun r => srt T r == so) R) := by
      rw [List.filter_cons]
      by_cases hs : srt T r = so
      · rw [beq_iff_eq.mpr hs, if_pos rfl, List.foldl_cons, if_pos hs]
      · rw [beq_eq_false_iff_ne.mpr hs, if_neg (by decide), if_neg hs]
    rw [List.foldl_cons, e, e2]
    refine ih (fun x hx => hR x (List.mem_cons_of_mem _ hx)) ?_
    unfold stepR stepM
    by_cases h1 : r.o < o
    · rw [if_pos h1]
      have : ¬ (o ≤ r.o ∧ (p.2 < 0 ∨ (true = true ∧ r.o < p.1.o) ∨ (true = false ∧ p.1.o < r.o))) := fun h => by omega
      rw [if_neg this]
      simpa using h
    · rw [if_neg h1]
      dsimp only
      by_cases hs : srt T r = so
      · rw [if_pos hs]
        rcases h with ⟨h2, h3⟩ | ⟨h2, rfl, h4⟩
        · rw [if_pos ⟨hs, .inl h2⟩, if_pos ⟨by omega, .inl h3⟩]
          exact .inr ⟨hr.1, rfl, hr.2⟩
        · by_cases h5 : r.o < b.o
          · rw [if_pos ⟨hs, .inr h5⟩, if_pos ⟨by omega, .inr (.inl ⟨rfl, h5⟩)⟩]
            exact .inr ⟨hr.1, rfl, hr.2⟩
          · rw [if_neg (fun h => h.2.elim (fun h => by omega) h5), if_neg (fun h => h.2.elim (fun h => by simp only at h; omega) (fun h => h.elim (fun h => h5 h.2) (fun h => by cases h.1)))]
            exact .inr ⟨h2, rfl, h4⟩
      · rw [if_neg hs, if_neg (fun h => hs h.1)]
        exact h
theorem fold_most {T : List Int} {so o : Int} (o0 : 0 ≤ o) : ∀ {R : List Blk} {b ot : Blk} {p : Blk × Int}, (∀ r ∈ R, 0 ≤ r.o ∧ 0 ≤ r.f) → ((ot.o = -1 ∧ p.2 < 0) ∨ (0 ≤ ot.o ∧ p = (ot, ot.f / 8) ∧ 0 ≤ ot.f)) →
    (((R.foldl (stepR T so o) (b, ot)).2.o < 0 ∧ (R.foldl (stepM o false) p).2 < 0) ∨ (0 ≤ (R.foldl (stepR T so o) (b, ot)).2.o ∧ (R.foldl (stepM o false) p) = ((R.foldl (stepR T so o) (b, ot)).2, (R.foldl (stepR T so o) (b, ot)).2.f / 8) ∧ 0 ≤ (R.foldl (stepR T so o) (b, ot)).2.f)) := by
  intro R
  induction R with
  | nil =>
    intro b ot p _ h
    rcases h with ⟨h1, h2⟩ | h
    · exact .inl ⟨by simp only [List.foldl_nil]; omega, h2⟩
    · exact .inr h
  | cons r R ih =>
    intro b ot p hR h
    have hr := hR r List.mem_cons_self
    have e : stepR T so o (b, ot) r = ((stepR T so o (b, ot) r).1, (stepR T so o (b, ot) r).2) := rfl
    rw [List.foldl_cons, List.foldl_cons, e]
    refine ih (fun x hx => hR x (List.mem_cons_of_mem _ hx)) ?_
    unfold stepR stepM
    by_cases h1 : r.o < o
    · rw [if_pos h1, if_neg (fun h => by omega)]
      exact h
    · rw [if_neg h1]
      dsimp only
      rcases h with ⟨h2, h3⟩ | ⟨h2, rfl, h4⟩
      · rw [if_pos (show r.o > ot.o by omega), if_pos ⟨by omega, .inl h3⟩]
        exact .inr ⟨hr.1, rfl, hr.2⟩
      · by_cases h5 : ot.o < r.o
        · rw [if_pos (show r.o > ot.o from h5), if_pos ⟨by omega, .inr (.inr ⟨rfl, h5⟩)⟩]
          exact .inr ⟨hr.1, rfl, hr.2⟩
        · rw [if_neg (show ¬ r.o > ot.o from h5), if_neg (fun h => h.2.elim (fun h => by simp only at h; omega) (fun h => h.elim (fun h => by cases h.1) (fun h => h5 h.2)))]
          exact .inr ⟨h2, rfl, h4⟩
theorem Gz.take {n : Int} {z : Zon} {m : ZM} {so o : Int} (gz : Gz n z m) (h0 : 0 ≤ n) (hn : n ≤ 100) (hs : so = 0 ∨ so = 1) (o0 : 0 ≤ o) (o3 : o ≤ 3) :
    (ZTake.f 1000 z so o = some (z, 0, some 5) ∧ MTake.f 1000 m so o = some (m, -1)) ∨ ∃ z' m' f, ZTake.f 1000 z so o = some (z', f, none) ∧ MTake.f 1000 m so o = some (m', f) ∧ 0 ≤ f ∧ Gz n z' m' := by
  have Z := gz.zi
  have hlen := gz.len
  have htl := Z.tl
  have hcl := Z.cl
  have hi : Inv m.s.length z.s.l := by rw [hlen]; exact Z.inv
  have hr := rfree_eq (m := m.s) (by omega) hi gz.sees
  have hll := Z.llen h0
  have b1 := mbest_eq (m := m) (so := so) (o := o) (least := true) Z.inv h0 hn hll hr (by rw [gz.mt]; exact htl) (by rw [gz.mc]; exact hcl)
  have b2 := mbest_eq (m := m) (so := -1) (o := o) (least := false) Z.inv h0 hn hll hr (by rw [gz.mt]; exact htl) (by rw [gz.mc]; exact hcl)
  rw [gz.mt, gz.mc] at b1 b2
  rw [bestL_of Z.inv htl (by omega)] at b1
  rw [bestL_any Z.inv htl (by omega)] at b2
  have hR : ∀ r ∈ Rms z.c z.s.l, 0 ≤ r.o ∧ 0 ≤ r.f := fun r hr => ⟨(room_of Z hr).ok.o0, (room_of Z hr).ok.f0⟩
  have f1 := fold_least (T := z.t) (so := so) (o := o) o0 (b := none0) (ot := none0) (p := (⟨0, 0⟩, -1)) hR (.inl ⟨by decide, by decide⟩)
  have f2 := fold_most (T := z.t) (so := so) (o := o) o0 (b := none0) (ot := none0) (p := (⟨0, 0⟩, -1)) hR (.inl ⟨rfl, by decide⟩)
  have hb : bestR z.t so o (Rms z.c z.s.l) = bestP ((Rms z.c z.s.l).foldl (stepR z.t so o) (none0, none0)) := rfl
  have k1 := fold_one (t := z.t) (so := so) (o := o) (R := Rms z.c z.s.l) (b := none0) (ot := none0)
  have k2 := fold_two (t := z.t) (so := so) (o := o) (R := Rms z.c z.s.l) (b := none0) (ot := none0)
  generalize (Rms z.c z.s.l).foldl (stepR z.t so o) (none0, none0) = p at f1 f2 hb k1 k2
  generalize ((Rms z.c z.s.l).filter fun r => srt z.t r == so).foldl (stepM o true) (⟨0, 0⟩, -1) = q1 at f1 b1
  generalize (Rms z.c z.s.l).foldl (stepM o false) (⟨0, 0⟩, -1) = q2 at f2 b2
  have fin : ∀ r, bestR z.t so o (Rms z.c z.s.l) = r → 0 ≤ r.o → (r ∈ Rms z.c z.s.l ∧ o ≤ r.o) → ∃ m', RSet.f 1000 m.s r.f o false = some m' ∧ ∃ z', ZTake.f 1000 z so o = some (z', r.f, none) ∧ 0 ≤ r.f ∧ r.f / 8 < (z.t.length : Int) ∧ Gz n z' ⟨m', z.t.set (r.f / 8).toNat so, z.c⟩ := by
    intro r he hro hmem
    rcases ztake_eq Z h0 hn hs o0 o3 with ⟨hno, e⟩ | ⟨x, hx, hxo, hxe, _, rm, ok, l, e, hil, hsub, hcov⟩
    · have := hno r hmem.1; have := hmem.2; omega
    · obtain rfl : x = r := hxe.trans he
      have ok' : Ok m.s.length ⟨x.f, o⟩ := by rw [hlen]; exact ok
      have xf := ok.f0
      have xe := ok.en
      have xp := ok.pos
      simp only at xf xe xp
      obtain ⟨m', hm', hml, hfr⟩ := rset_eq (b := false) (by omega) ok'
      refine ⟨m', hm', _, e, xf, by omega, Z.of hil (List.length_set ..), rfl, rfl, by simp only [hml]; exact hlen, fun u => ?_⟩
      simp only
      rw [hcov u, hfr u, gz.sees u]
      exact ⟨fun h => .inr ⟨h.2, h.1⟩, fun h => h.elim (fun h => by cases h.2) (fun h => ⟨h.2, h.1⟩)⟩
  unfold MTake.f MTake.j1
  rw [b1, Option.bind_some]
  simp only []
  rcases f1 with ⟨h1, h2⟩ | ⟨h1, rfl, h3⟩
  · rw [decide_eq_true h2, cond_true, b2, Option.bind_some, Option.bind_some]
    simp only []
    have hbp : bestP p = p.2 := by unfold bestP; rw [if_pos h1]
    rcases f2 with ⟨h4, h5⟩ | ⟨h4, rfl, h6⟩
    · refine .inl ⟨?_, by rw [decide_eq_true h5]; rfl⟩
      rw [ztake_fin Z h0 hn hs o0 o3, hb, hbp]
      unfold finT
      rw [decide_eq_true h4]
      rfl
    · obtain ⟨m', hm', z', hz', hf, hg8, gz'⟩ := fin p.2 (by rw [hb, hbp]) h4 (by
        rcases k2 with ⟨h, _⟩ | h
        · rw [h] at h4; exact absurd h4 (by decide)
        · exact h)
      refine .inr ⟨z', _, p.2.f, hz', ?_, hf, gz'⟩
      simp only []
      rw [decide_eq_false (show ¬ p.2.f / 8 < 0 by omega), cond_false, decide_eq_true (show 0 ≤ p.2.f / 8 by omega), gz.mt, decide_eq_true hg8, hm', gz.mc]
      rfl
  · have hbp : bestP p = p.1 := by unfold bestP; rw [if_neg (by omega)]
    obtain ⟨m', hm', z', hz', hf, hg8, gz'⟩ := fin p.1 (by rw [hb, hbp]) h1 (by
      rcases k1 with ⟨h, _⟩ | h
      · rw [h] at h1; exact absurd h1 (by decide)
      · exact ⟨h.1, h.2.1⟩)
    refine .inr ⟨z', _, p.1.f, hz', ?_, hf, gz'⟩
    simp only []
    rw [decide_eq_false (show ¬ p.1.f / 8 < 0 by omega), cond_false, Option.bind_some]
    simp only []
    rw [decide_eq_false (show ¬ p.1.f / 8 < 0 by omega), cond_false, decide_eq_true (show 0 ≤ p.1.f / 8 by omega), gz.mt, decide_eq_true hg8, hm', gz.mc]
    rfl
end Go.Proofs.YtmjnenjeckeklaaDoor.V
