import Derived.Test.YtehbhpkmlmeblaaPureBbmOthers
namespace Go.Proofs.Ytehbhpkmlmeblaa.V
open Go Go.RowKit Go.Proofs Go.Proofs.Ytehbhpkmlmeblaa.Q Go.Proofs.Ytehbhpkmlmeblaa.PteLib Go.Proofs.YtehbhpkmlmeblaaW.PrintWords Go.Proofs.Ytehbhpkmlmeblaa.Bits
set_option linter.unusedVariables false
set_option linter.unusedSimpArgs false
set_option maxRecDepth 100000
abbrev D7 := Int × Int × Bool × Bool × Bool × Bool × Int
def Ok7 (lv : Int) (a : D7) : Prop := PteLib.MayP lv a.1 a.2.1 a.2.2.1 a.2.2.2.1 a.2.2.2.2.1 a.2.2.2.2.2.1 a.2.2.2.2.2.2
def w7 (a : D7) : Int := wordI a.1 a.2.1 a.2.2.1 a.2.2.2.1 a.2.2.2.2.1 a.2.2.2.2.2.1 a.2.2.2.2.2.2
theorem dec7 {lv : Int} {a : D7} (h : Ok7 lv a) : IsDec lv (w7 a) a := .inl ⟨h, rfl⟩
theorem w7_bounds {lv : Int} {a : D7} (h : Ok7 lv a) : 0 ≤ w7 a ∧ w7 a < 18446744073709551616 := word_bounds h
theorem alike_of {lv : Int} {a b : D7} (ha : Ok7 lv a) (hb : Ok7 lv b) (hx : w7 a % 2 = 1) (hy : w7 b % 2 = 1) : bbm_alike.f 1000 lv (w7 a) (w7 b) = some (same2 a b) := by
  obtain ⟨x0, x1⟩ := w7_bounds ha
  obtain ⟨y0, y1⟩ := w7_bounds hb
  have l0 := ha.1
  have l3 := ha.2.1
  obtain ⟨a', b', h1, h2, h3⟩ := change_yes 1000 (by omega) lv (w7 a) (w7 b) l0 l3 x0 x1 y0 y1
  obtain rfl := isDec_unique h1 (dec7 ha)
  obtain rfl := isDec_unique h2 (dec7 hb)
  have h4 : pte_Decode.f 1000 lv (w7 a') = some (a'.1, a'.2.1, a'.2.2.1, a'.2.2.2.1, a'.2.2.2.2.1, a'.2.2.2.2.2.1, a'.2.2.2.2.2.2, none) := decode_of 1000 (by omega) l0 l3 x0 x1 (dec7 ha)
  have h5 : (a'.1 != 5) = true := by
    have := ha.2.2.2.2.2.2
    rw [bne_iff_ne]
    omega
  have h6 : changeB a' b' (w7 a') (w7 b') = same2 a' b' := by
    unfold changeB
    by_cases he : w7 a' = w7 b'
    · have e : a' = b' := isDec_unique h1 (he ▸ h2)
      rw [if_pos (Or.inl he), e]
      simp [same2]
    · rw [if_neg (by omega), h5, Bool.and_true]
  unfold bbm_alike.f
  rw [h3, h4, h6]
  simp only [Option.bind_some, Option.isNone_none, if_true, h5]
  cases same2 a' b' <;> rfl
theorem pick_of {s n : Int} (h0 : -9223372036854775808 ≤ s) (h1 : s ≤ 9223372036854775807) (hn : 0 < n) : ∃ m : Nat, paviorlaw06_pick.f s n = some (m : Int) ∧ (m : Int) < n := by
  have key : ∀ q : Int, 0 ≤ q → ∃ m : Nat, Int.tmod q n = (m : Int) ∧ (m : Int) < n := by
    intro q hq
    rw [Int.tmod_eq_emod_of_nonneg hq]
    have a := Int.emod_nonneg q (show n ≠ 0 by omega)
    have b := Int.emod_lt_of_pos q hn
    exact ⟨(q % n).toNat, by omega, by omega⟩
  unfold paviorlaw06_pick.f
  rw [if_neg (show ¬ n = 0 by omega), if_neg (show ¬ n = 0 by omega)]
  by_cases hs : s < 0
  · have e : wrap64 (-(wrap64 (s + 1))) = -(s + 1) := by
      have e0 : wrap64 (s + 1) = s + 1 := wrap64_of (by omega) (by omega)
      rw [e0]
      exact wrap64_of (by omega) (by omega)
    obtain ⟨m, a, b⟩ := key (-(s + 1)) (by omega)
    exact ⟨m, by rw [if_pos hs, e, a], b⟩
  · obtain ⟨m, a, b⟩ := key s (by omega)
    exact ⟨m, by rw [if_neg hs, a], b⟩
def sk (a b e x : Int) (s i : Nat) : Gap := ⟨a, b, e, many b - i + (if s < i then 1 else 0), (List.range (many b).toNat).map (fun j => decide (j < i) && decide (j ≠ s)), x⟩
theorem sk_skip {a b e x : Int} {s : Nat} : sk a b e x s (s + 1) = sk a b e x s s := by
  have h : (List.range (many b).toNat).map (fun j => decide (j < s + 1) && decide (j ≠ s)) = (List.range (many b).toNat).map (fun j => decide (j < s) && decide (j ≠ s)) := by
    refine List.map_congr_left fun j _ => ?_
    rw [Bool.eq_iff_iff]
    simp
    omega
  simp only [sk, h, if_pos (show s < s + 1 by omega), if_neg (show ¬ s < s by omega)]
  congr 1
  omega
theorem sk_tell {a b e x : Int} {s i : Nat} (e0 : 0 ≤ e) (e1 : e ≤ 4095) (hi : i < (many b).toNat) (hs : i ≠ s) : tell.f (sk a b e x s i) (IntKind.i64.wrap (e + i)) = some (sk a b e x s (i + 1)) := by
  have hle : many b ≤ 512 := by unfold many; repeat' split; all_goals omega
  have hl : (sk a b e x s i).told.length = (many b).toNat := by simp [sk]
  have hg : (sk a b e x s i).told.getD i false = false := by
    simp only [sk, List.getD_eq_getElem?_getD, List.getElem?_map, List.getElem?_range hi]
    simp
  have hset : (sk a b e x s i).told.set i true = (List.range (many b).toNat).map (fun j => decide (j < i + 1) && decide (j ≠ s)) := by
    apply List.ext_getElem?
    intro j
    rw [List.getElem?_set]
    by_cases hj : i = j
    · subst hj
      rw [if_pos rfl, if_pos (by rw [hl]; exact hi), List.getElem?_map, List.getElem?_range hi]
      simp [hs]
    · rw [if_neg hj]
      simp only [sk, List.getElem?_map]
      by_cases hjm : j < (many b).toNat
      · rw [List.getElem?_range hjm]
        simp only [Option.map_some, Option.some.injEq]
        rw [Bool.eq_iff_iff]
        simp
        omega
      · rw [List.getElem?_eq_none (by simp; omega)]
        rfl
  have hf : (sk a b e x s i).first = e := rfl
  rw [wrap_small (x := e + i) (by omega) (by omega)]
  unfold tell.f
  rw [hf, show e + (i : Int) - e = (i : Int) by omega, wrap_small (x := (i : Int)) (by omega) (by omega), hl]
  rw [decide_eq_true (show (i : Int) ≥ 0 by omega), decide_eq_true (show (i : Int) < ((many b).toNat : Int) by omega)]
  simp only [cond_true, Bool.and_self, Int.toNat_natCast, hg, hset, Bool.not_false]
  have hw : (sk a b e x s i).left = many b - i + (if s < i then 1 else 0) := rfl
  rw [hw, wrap_small (x := many b - i + (if s < i then 1 else 0) - 1) (by split <;> omega) (by split <;> omega)]
  simp only [sk]
  congr 2
  by_cases h : s < i
  · rw [if_pos h, if_pos (by omega)]; omega
  · rw [if_neg h, if_neg (by omega)]; omega
theorem sk_told {a b c d e x : Int} {s i : Nat} {born clk : Nat} (e0 : 0 ≤ e) (e1 : e ≤ 4095) (hi : i < (many b).toNat) (hs : i ≠ s) : Told.f 1000 ⟨(c, d), some (born, sk a b e x s i), clk, false⟩ a (IntKind.i64.wrap (e + i)) = some ⟨(c, d), some (born, sk a b e x s (i + 1)), clk, false⟩ := by
  have ha : (sk a b e x s i).asid = a := rfl
  have ht := sk_tell (a := a) (x := x) e0 e1 hi hs
  have ht' : tell.f (⟨(sk a b e x s i).asid, (sk a b e x s i).level, (sk a b e x s i).first, (sk a b e x s i).left, (sk a b e x s i).told, (sk a b e x s i).last⟩ : Gap) (IntKind.i64.wrap (e + i)) = some (sk a b e x s (i + 1)) := ht
  simp only [Told.f, Told1.f, ha, beq_self_eq_true, cond_true]
  rw [ha] at ht'
  rw [ht']
  rfl
theorem write_late {a b c d e x y : Int} {born clk : Nat} {g : Gap} {r : Bool} (h : MayP a b c d e) (hl : 0 < g.left) (hx : g.last = x) (y0 : 0 ≤ y) (y1 : y < 18446744073709551616) (hy : y % 2 = 1) (hr : bbm_alike.f 1000 b x y = some r) :
    Write.f 1000 ⟨(c, d), some (born, g), clk, false⟩ a b c d e 0 y = some (⟨(c, d), none, clk, !r⟩, none) := by
  have h4 : (bitI .and .u64 y 1 == 1) = true := by rw [bitI_and, and1 y y0 y1, hy]; rfl
  have h5 : (bitI .and .u64 0 1 == 0) = true := by kernel_rfl
  have h6 : (bitI .and .u64 0 1 == 1) = false := by kernel_rfl
  simp only [Write.f, if_true, Write1.f, own_may h, change_r h.b0 h.b1 y0 y1, Option.bind_some, Bool.not_true, cond_false, h4, h5, h6, cond_true, Option.beq_none, Option.isNone_none, decide_eq_true (show g.left > 0 from hl), hx, hr]
  cases r <;> rfl
theorem write_again {a b c d e x : Int} {clk : Nat} {key : Int × Int} {br : Bool} (h : MayP a b c d e) (x0 : 0 ≤ x) (x1 : x < 18446744073709551616) (hx : x % 2 = 1) :
    ∃ w', Write.f 1000 ⟨key, none, clk, br⟩ a b c d e x 0 = some (w', none) ∧ w'.broken = br := by
  cases br with
  | false => exact ⟨_, write_shut h x0 x1 hx, rfl⟩
  | true =>
    obtain ⟨r, h1, h2, h3⟩ := order_of h.b0 h.b1
    have h4 : (bitI .and .u64 x 1 == 1) = true := by rw [bitI_and, and1 x x0 x1, hx]; rfl
    have h5 : (bitI .and .u64 0 1 == 0) = true := by kernel_rfl
    have hp := @many_pos b
    have hle : many b ≤ 1000000000 := by unfold many; repeat' split; all_goals omega
    refine ⟨⟨(c, d), some (clk, gapOf a b e x), clk + 1, true⟩, ?_, rfl⟩
    simp only [Write.f, Write0.f, own_may h, change_l h.b0 h.b1 x0 x1, Option.bind_some, Bool.not_true, cond_false, h4, h5, cond_true, h1, decide_eq_true h2, h3, decide_eq_true (show 0 ≤ many b by omega), decide_eq_true hle, Bool.and_self, Option.beq_none, Option.isNone_none]
    rfl
theorem less_loop {a b c d e a5 : Int} {p q : D7} {r1 r4 r13 r18 : Bool} {r2 r3 : Watch} {q1 q2 : Watch × Option Int} {s born clk : Nat} (h : MayP a b c d e) (hp : Ok7 b p) (hq : Ok7 b q) (hr : r1 = true) (hx : w7 p % 2 = 1) (hy : w7 q % 2 = 1) (hs : (s : Int) < many b) :
    ∀ (n i : Nat), i ≤ (many b).toNat → (many b).toNat - i < n →
    BbmLess.l1 1000 a b c d e a5 p q r1 r2 r3 r4 r13 r18 (w7 p) (w7 q) (many b) s q1 q2 n ⟨(c, d), some (born, sk a b e (w7 p) s i), clk, false⟩ ⟨(c, d), some (born, sk a b e (w7 p) s i), clk, false⟩ i = some true := by
  intro n
  induction n with
  | zero => intro i h0 h1; omega
  | succ n ih =>
    intro i h0 h1
    have hle : many b ≤ 512 := by unfold many; repeat' split; all_goals omega
    unfold BbmLess.l1
    by_cases hi : i < (many b).toNat
    · rw [decide_eq_true (show (i : Int) < many b by omega)]
      have hw := wrap_small (x := (i : Int) + 1) (by omega) (by omega)
      by_cases his : i = s
      · subst his
        rw [show ((i : Int) != (i : Int)) = false by simp, hw]
        simp only [cond_true, cond_false]
        have := ih (i + 1) (by omega) (by omega)
        rw [sk_skip] at this
        exact this
      · rw [show ((i : Int) != (s : Int)) = true by rw [bne_iff_ne]; omega]
        simp only [cond_true, sk_told h.e0 h.e1 hi his, Option.bind_some, hw]
        exact ih (i + 1) (by omega) (by omega)
    · have : i = (many b).toNat := by omega
      subst this
      rw [decide_eq_false (show ¬ (((many b).toNat : Nat) : Int) < many b by omega)]
      obtain ⟨x0, x1⟩ := w7_bounds hp
      obtain ⟨y0, y1⟩ := w7_bounds hq
      have hl : 0 < (sk a b e (w7 p) s (many b).toNat).left := by
        show 0 < many b - ((many b).toNat : Nat) + (if s < (many b).toNat then 1 else 0)
        rw [if_pos (by omega)]
        omega
      subst hr
      have e1 := write_late (born := born) (clk := clk) h hl rfl y0 y1 hy (alike_of hp hq hx hy)
      have e2 := write_late (born := born) (clk := clk) h hl rfl x0 x1 hx (alike_of hp hp hx hx)
      obtain ⟨w', e3, e4⟩ := write_again (clk := clk) (key := (0, 0)) (br := !same2 p q) h y0 y1 hy
      have e5 : Write.f 1000 ⟨(c, d), some (born, sk a b e (w7 p) s (many b).toNat), clk, false⟩ a b c d e 0 (w7 q) = some (⟨(c, d), none, clk, !same2 p q⟩, none) := e1
      have e6 : Write.f 1000 ⟨(c, d), some (born, sk a b e (w7 p) s (many b).toNat), clk, false⟩ a b c d e 0 (w7 p) = some (⟨(c, d), none, clk, !same2 p p⟩, none) := e2
      have e7 : same2 p p = true := by simp [same2]
      have e8 : Space.f 1000 ⟨(c, d), none, clk, !same2 p q⟩ a = some ⟨(0, 0), none, clk, !same2 p q⟩ := rfl
      have e9 : Write.f 1000 ⟨(0, 0), none, clk, !same2 p q⟩ a b c d e (w7 q) 0 = some (w', none) := e3
      have e10 : (!(p.1 == q.1 && (p.2.1 == q.2.1 && (p.2.2.1 == q.2.2.1 && (p.2.2.2.1 == q.2.2.2.1 && (q.2.2.2.2.1 == q.2.2.2.2.1 && (p.2.2.2.2.2.1 == q.2.2.2.2.2.1 && (q.2.2.2.2.2.2 == q.2.2.2.2.2.2)))))))) = !same2 p q := by simp [same2]
      simp only [cond_false, open_one hl, Option.bind_some, bne_self_eq_false, Broken.f, e5, e6, e8, e9, cond_true, beq_self_eq_true, e4, e7, Bool.not_true, Bool.not_false, open_none]
      simp [same2]
theorem less (a b c d e a5 : Int) (p q : D7) (s0 : -9223372036854775808 ≤ a5) (s1 : a5 ≤ 9223372036854775807) : BbmLess.f 1000 a b c d e a5 p q = some true := by
  obtain ⟨m, h1, h2⟩ := ref_may a b c d e
  unfold BbmLess.f
  simp only [up_true, New.f, Option.bind_some, h1, cond_true]
  cases m with
  | false => rfl
  | true =>
    have hm := h2 rfl
    simp only [Bool.not_true, cond_false]
    by_cases hb : b = 0
    · subst hb; rfl
    rw [show (b == 0) = false by simpa using hb, refMay 1000 (by omega), refMay 1000 (by omega)]
    simp only [cond_false, Option.bind_some]
    by_cases hp : PteLib.MayP b p.1 p.2.1 p.2.2.1 p.2.2.2.1 p.2.2.2.2.1 p.2.2.2.2.2.1 p.2.2.2.2.2.2
    · by_cases hq : PteLib.MayP b q.1 q.2.1 q.2.2.1 q.2.2.2.1 q.2.2.2.2.1 q.2.2.2.2.2.1 q.2.2.2.2.2.2
      · rw [decide_eq_true hp, decide_eq_true hq]
        obtain ⟨x0, x1⟩ := w7_bounds hp
        obtain ⟨y0, y1⟩ := w7_bounds hq
        have ep : paviorref02_Word.f 1000 p.1 p.2.1 p.2.2.1 p.2.2.2.1 p.2.2.2.2.1 p.2.2.2.2.2.1 p.2.2.2.2.2.2 = some (w7 p) := refWord 1000 (by omega) _ _ _ _ _ _ _ hp.2.2.1 hp.2.2.2.1 hp.2.2.2.2.1 hp.2.2.2.2.2.1
        have eq : paviorref02_Word.f 1000 q.1 q.2.1 q.2.2.1 q.2.2.2.1 q.2.2.2.2.1 q.2.2.2.2.2.1 q.2.2.2.2.2.2 = some (w7 q) := refWord 1000 (by omega) _ _ _ _ _ _ _ hq.2.2.1 hq.2.2.2.1 hq.2.2.2.2.1 hq.2.2.2.2.2.1
        simp only [Bool.not_true, cond_false, ep, eq, Option.bind_some]
        rw [tmod2 x0, tmod2 y0]
        by_cases hx : w7 p % 2 = 0
        · have : wordI p.1 p.2.1 p.2.2.1 p.2.2.2.1 p.2.2.2.2.1 p.2.2.2.2.2.1 p.2.2.2.2.2.2 % 2 = 0 := hx
          simp [w7, this]
        by_cases hy : w7 q % 2 = 0
        · rw [show (w7 p % 2 == 0) = false by simpa using hx, show (w7 q % 2 == 0) = true by simpa using hy]; rfl
        have hx2 : w7 p % 2 = 1 := by omega
        have hy2 : w7 q % 2 = 1 := by omega
        obtain ⟨s, e1, e2⟩ := pick_of s0 s1 (@many_pos b)
        rw [show (w7 p % 2 == 0) = false by simpa using hx, show (w7 q % 2 == 0) = false by simpa using hy]
        simp only [cond_false, many_of hm.b0 hm.b1, Option.bind_some, e1]
        have e3 := write_shut (clk := 0) (key := (0, 0)) hm x0 x1 hx2
        have e4 : Write.f 1000 ⟨(0, 0), none, 0, false⟩ a b c d e (w7 p) 0 = some (⟨(c, d), some (0, gapOf a b e (w7 p)), 1, false⟩, none) := e3
        have e5 : gapOf a b e (w7 p) = sk a b e (w7 p) s 0 := by
          simp only [gapOf, sk]
          congr 1
          · simp
          · apply List.ext_getElem?
            intro j
            by_cases hj : j < (many b).toNat
            · rw [List.getElem?_map, List.getElem?_range hj, List.getElem?_replicate, if_pos hj]; simp
            · rw [List.getElem?_eq_none (by simp; omega), List.getElem?_eq_none (by simp; omega)]
        rw [e4]
        simp only [Option.bind_some, e5]
        have hle : many b ≤ 512 := by unfold many; repeat' split; all_goals omega
        exact less_loop hm hp hq rfl hx2 hy2 e2 1000 0 (by omega) (by omega)
      · rw [decide_eq_true hp, decide_eq_false hq]; rfl
    · rw [decide_eq_false hp]; rfl
end Go.Proofs.Ytehbhpkmlmeblaa.V
