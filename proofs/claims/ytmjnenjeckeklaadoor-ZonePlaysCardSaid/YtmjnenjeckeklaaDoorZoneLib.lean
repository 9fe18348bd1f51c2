import Derived.Test.YtmjnenjeckeklaaDoorB2
import Derived.Test.YtmjnenjeckeklaaDoorBuddyAt
import Derived.Test.YtmjnenjeckeklaaDoorBits
namespace Go.Proofs.YtmjnenjeckeklaaDoor.V
open Go Go.RowKit Go.Proofs Go.Proofs.YtmjnenjeckeklaaDoor.Q Go.Proofs.YtmjnenjeckeklaaDoorW.PrintWords
set_option linter.unusedVariables false
set_option linter.unusedSimpArgs false
set_option maxRecDepth 100000
structure ZI (n : Int) (z : Zon) : Prop where
  inv : Inv n z.s.l
  sn : z.s.n = n
  zn : z.n = n
  tl : (z.t.length : Int) = (n + 7) / 8
  cl : (z.c.length : Int) = (n + 7) / 8
theorem pick_range (c n : Int) (h0 : -9223372036854775808 ≤ c) (h1 : c ≤ 9223372036854775807) (hn : 0 < n) (hn2 : n ≤ 1000000) : ∃ r, paviorlaw08_pick.f c n = some r ∧ 0 ≤ r ∧ r < n := by
  unfold paviorlaw08_pick.f
  have hz : ¬ n = 0 := by omega
  by_cases hc : c < 0
  · rw [if_pos hc, if_neg hz]
    refine ⟨_, rfl, ?_⟩
    rw [Bits.wrap64_of (n := c + 1) (by omega) (by omega), Bits.wrap64_of (n := -(c + 1)) (by omega) (by omega)]
    refine ⟨Int.tmod_nonneg _ (by omega), ?_⟩
    have := Int.tmod_lt_of_pos (-(c + 1)) hn
    exact this
  · rw [if_neg hc, if_neg hz]
    exact ⟨_, rfl, Int.tmod_nonneg _ (by omega), Int.tmod_lt_of_pos c hn⟩
theorem grp {v : Int} (h0 : 0 ≤ v) (h1 : v < 100000) : IntKind.i64.wrap (v.tdiv 8) = v / 8 := by
  rw [Int.tdiv_eq_ediv_of_nonneg h0, wrap_small (by omega) (by omega)]
def lo (o : Int) : Int := if 3 < o then 3 else o
def op (c : List Bool) (r : Blk) : Bool := !(c.getD (r.f / 8).toNat false)
def pcs (o at_ : Int) : Nat → List Blk
  | 0 => []
  | m + 1 => ⟨at_, o⟩ :: pcs o (at_ + pw o) m
theorem pcs_succ {o a : Int} {m : Nat} : pcs o a (m + 1) = ⟨a, o⟩ :: pcs o (a + pw o) m := rfl
def many (o : Int) : Nat := if o = 5 then 4 else if o = 4 then 2 else 1
def Rms (c : List Bool) (L : List Blk) : List Blk := L.flatMap fun y => (pcs (lo y.o) y.f (many y.o)).filter (op c)
theorem lo_many {o : Int} (h0 : 0 ≤ o) (h5 : o ≤ 5) : 0 ≤ lo o ∧ lo o ≤ 3 ∧ (many o : Int) * pw (lo o) = pw o ∧ (pw (lo o) = 1 ∨ pw (lo o) = 2 ∨ pw (lo o) = 4 ∨ pw (lo o) = 8) ∧ many o ≤ 4 := by
  have : o = 0 ∨ o = 1 ∨ o = 2 ∨ o = 3 ∨ o = 4 ∨ o = 5 := by omega
  rcases this with rfl | rfl | rfl | rfl | rfl | rfl <;> decide
theorem rooms_in {n : Int} {z : Zon} (Z : ZI n z) (hn : n ≤ 512) {r1 : Sto × List Blk} {v2 : List Blk} {v3 : Int} {y : Blk} (e : r1.2.getD v3.toNat zR = y) (hy : Ok n y) :
    ∀ (m fuel : Nat) (acc : List Blk) (a : Int), m < fuel → acc.length + m ≤ 100000 → 0 ≤ a → a + m * pw (lo y.o) = y.f + pw y.o → rooms.l2 1000 z r1 v2 v3 fuel acc a = some (acc ++ (pcs (lo y.o) a m).filter (op z.c), y.f + pw y.o) := by
  obtain ⟨l0, l3, _, lp, _⟩ := lo_many hy.o0 hy.o5
  have y0 := hy.o0
  have y5 := hy.o5
  have yf := hy.f0
  have yn := hy.en
  have hc := Z.cl
  have yp := pw_le y0 y5
  have s1 := shl_pw y0 (by omega : y.o ≤ 20)
  have s2 := shl_pw l0 (by omega : lo y.o ≤ 20)
  have w1 : IntKind.i64.wrap (y.f + pw y.o) = y.f + pw y.o := wrap_small (by omega) (by omega)
  generalize hp : pw (lo y.o) = p at lp
  intro m
  induction m with
  | zero =>
    intro fuel acc a h1 h2 h3 h4
    obtain ⟨fuel, rfl⟩ : ∃ q, fuel = q + 1 := ⟨fuel - 1, by omega⟩
    have ha : a = y.f + pw y.o := by simpa using h4
    unfold rooms.l2
    rw [e, decide_eq_true y0, cond_true, s1, w1, decide_eq_false (show ¬ a < y.f + pw y.o by omega), cond_false, ha]
    simp [pcs]
  | succ m ih =>
    intro fuel acc a h1 h2 h3 h4
    obtain ⟨fuel, rfl⟩ : ∃ q, fuel = q + 1 := ⟨fuel - 1, by omega⟩
    have h4' : (a + p) + m * p = y.f + pw y.o := by
      rw [← h4]
      rw [show ((m + 1 : Nat) : Int) = (m : Int) + 1 by omega, Int.add_mul]
      omega
    have hm : 0 ≤ (m : Int) * p := Int.mul_nonneg (by omega) (by rcases lp with h | h | h | h <;> omega)
    have hp0 : 1 ≤ p ∧ p ≤ 8 := by rcases lp with h | h | h | h <;> omega
    have ha : a < y.f + pw y.o := by omega
    have w2 : IntKind.i64.wrap (a + p) = a + p := wrap_small (by omega) (by omega)
    have next := ih fuel
    unfold rooms.l2
    have elo : (if 3 < y.o then 3 else y.o) = lo y.o := rfl
    rw [e, decide_eq_true y0, cond_true, s1, w1, decide_eq_true ha, cond_true, grp h3 (by omega), decide_eq_true (show 0 ≤ a / 8 by omega), decide_eq_true (show a / 8 < (z.c.length : Int) by omega)]
    simp only [Bool.and_self, cond_true]
    rw [elo, s2, hp, w2, decide_eq_true l0]
    have hop : op z.c ⟨a, lo y.o⟩ = !(z.c.getD (a / 8).toNat false) := rfl
    cases hcl : z.c.getD (a / 8).toNat false with
    | true =>
      rw [hcl] at hop
      simp only [Bool.not_true, cond_false, cond_true]
      rw [next acc (a + p) (by omega) (by omega) (by omega) h4']
      rw [pcs_succ, hp, List.filter_cons, hop]
      rfl
    | false =>
      rw [hcl] at hop
      simp only [Bool.not_false, cond_true]
      rw [decide_eq_true (show acc.length + ([(⟨a, lo y.o⟩ : Blk)] : List Blk).length ≤ 1000000 by simp; omega), cond_true]
      rw [next (acc ++ [(⟨a, lo y.o⟩ : Blk)]) (a + p) (by omega) (by simp; omega) (by omega) h4']
      rw [pcs_succ, hp, List.filter_cons, hop]
      simp
theorem pcs_len (o a : Int) (m : Nat) : (pcs o a m).length = m := by
  induction m generalizing a with
  | zero => rfl
  | succ m ih => rw [pcs_succ, List.length_cons, ih]
theorem rooms_go {n : Int} {z : Zon} (Z : ZI n z) (hn : n ≤ 512) : ∀ (d fuel i : Nat) (acc : List Blk), z.s.l.length - i ≤ d → d < fuel → i ≤ z.s.l.length → acc.length + 4 * d ≤ 9000 →
    rooms.l1 1000 z (z.s, z.s.l) fuel acc (i : Int) = some (z, acc ++ Rms z.c (z.s.l.drop i)) := by
  have hlen := Z.inv.len hn
  intro d
  induction d with
  | zero =>
    intro fuel i acc h1 h2 h3 h4
    obtain ⟨fuel, rfl⟩ : ∃ q, fuel = q + 1 := ⟨fuel - 1, by omega⟩
    unfold rooms.l1
    rw [decide_eq_false (show ¬ (i : Int) < ((z.s, z.s.l).2.length : Int) by simp only; omega), cond_false, List.drop_eq_nil_of_le (by omega)]
    simp [Rms]
  | succ d ih =>
    intro fuel i acc h1 h2 h3 h4
    obtain ⟨fuel, rfl⟩ : ∃ q, fuel = q + 1 := ⟨fuel - 1, by omega⟩
    by_cases hi : i < z.s.l.length
    · have hy := Z.inv.ok _ (List.getElem_mem hi)
      obtain ⟨_, _, hm, _, m4⟩ := lo_many hy.o0 hy.o5
      have e : (z.s, z.s.l).2.getD ((i : Int)).toNat zR = z.s.l[i] := getD_at hi
      have hr := rooms_in Z hn (r1 := (z.s, z.s.l)) (v2 := acc) (v3 := (i : Int)) e hy (many z.s.l[i].o) 1000 acc z.s.l[i].f (by omega) (by omega) hy.f0 (by rw [hm])
      unfold rooms.l1
      rw [decide_eq_true (show (i : Int) < ((z.s, z.s.l).2.length : Int) by simp only; omega), decide_eq_true (show 0 ≤ (i : Int) by omega)]
      simp only [Bool.and_self, cond_true]
      have e' : z.s.l.getD ((i : Int)).toNat zR = z.s.l[i] := e
      rw [e', hr, Option.bind_some, wrap_small (by omega) (by omega), show (i : Int) + 1 = ((i + 1 : Nat) : Int) by omega]
      simp only []
      rw [ih fuel (i + 1) _ (by omega) (by omega) (by omega) (by
        rw [List.length_append]
        have := List.length_filter_le (op z.c) (pcs (lo z.s.l[i].o) z.s.l[i].f (many z.s.l[i].o))
        rw [pcs_len] at this
        omega)]
      rw [List.drop_eq_getElem_cons hi]
      unfold Rms
      rw [List.flatMap_cons, List.append_assoc]
    · exact ih (fuel + 1) i acc (by omega) (by omega) h3 (by omega)
theorem rooms_eq {n : Int} {z : Zon} (Z : ZI n z) (hn : n ≤ 512) : rooms.f 1000 z = some (z, Rms z.c z.s.l) := by
  have hlen := Z.inv.len hn
  unfold rooms.f
  rw [free_eq Z.inv hn, Option.bind_some]
  have := rooms_go Z hn z.s.l.length 1000 0 [] (by omega) (by omega) (by omega) (by simp; omega)
  rw [List.drop_zero, List.nil_append] at this
  exact this
theorem pcs_mem {o a : Int} {m : Nat} {r : Blk} (hp : 0 ≤ pw o) : r ∈ pcs o a m ↔ ∃ j : Nat, j < m ∧ r = ⟨a + j * pw o, o⟩ := by
  induction m generalizing a with
  | zero => simp [pcs]
  | succ m ih =>
    rw [pcs_succ, List.mem_cons, ih]
    constructor
    · rintro (rfl | ⟨j, hj, rfl⟩)
      · exact ⟨0, by omega, by simp⟩
      · exact ⟨j + 1, by omega, by rw [show ((j + 1 : Nat) : Int) = (j : Int) + 1 by omega, Int.add_mul, Int.one_mul]; congr 1; omega⟩
    · rintro ⟨j, hj, rfl⟩
      cases j with
      | zero => exact .inl (by simp)
      | succ j => exact .inr ⟨j, by omega, by rw [show ((j + 1 : Nat) : Int) = (j : Int) + 1 by omega, Int.add_mul, Int.one_mul]; congr 1; omega⟩
structure Room (n : Int) (z : Zon) (r : Blk) : Prop where
  ok : Ok n r
  o3 : r.o ≤ 3
  cov : ∀ u, In u r → Cov z.s.l u
  op : z.c.getD (r.f / 8).toNat false = false
theorem room_of {n : Int} {z : Zon} (Z : ZI n z) {r : Blk} (h : r ∈ Rms z.c z.s.l) : Room n z r := by
  obtain ⟨y, hy, hr⟩ := List.mem_flatMap.mp h
  obtain ⟨hr, ho⟩ := List.mem_filter.mp hr
  have oky := Z.inv.ok y hy
  obtain ⟨l0, l3, hm, lp, _⟩ := lo_many oky.o0 oky.o5
  have hpos : 0 ≤ pw (lo y.o) := by rcases lp with h | h | h | h <;> omega
  obtain ⟨j, hj, rfl⟩ := (pcs_mem hpos).mp hr
  have yf := oky.f0
  have ya := oky.al
  have ye := oky.en
  have hjm : (j : Int) * pw (lo y.o) + pw (lo y.o) ≤ pw y.o := by
    rw [← hm]
    have : ((j : Int) + 1) * pw (lo y.o) ≤ (many y.o : Int) * pw (lo y.o) := Int.mul_le_mul_of_nonneg_right (by omega) hpos
    rw [Int.add_mul, Int.one_mul] at this
    exact this
  have hj0 : 0 ≤ (j : Int) * pw (lo y.o) := Int.mul_nonneg (by omega) hpos
  have hal : (y.f + j * pw (lo y.o)) % pw (lo y.o) = 0 := by
    rw [Int.add_mul_emod_self_right]
    have hd : y.f % (many y.o * pw (lo y.o)) = 0 := by rw [hm]; exact ya
    exact Int.emod_eq_zero_of_dvd (Int.dvd_trans (Int.dvd_mul_left _ _) (Int.dvd_of_emod_eq_zero hd))
  refine ⟨⟨l0, by simp only; omega, by simp only; omega, hal, by simp only; omega⟩, l3, fun u hu => ⟨y, hy, ?_⟩, ?_⟩
  · have h1 := hu.1
    have h2 := hu.2
    simp only at h1 h2
    exact ⟨by omega, by omega⟩
  · unfold V.op at ho
    simpa using ho
theorem room_ex {n : Int} {z : Zon} (Z : ZI n z) {b : Blk} (ok : Ok n b) (o3 : b.o ≤ 3) (cov : ∀ u, In u b → Cov z.s.l u) (hop : z.c.getD (b.f / 8).toNat false = false) :
    ∃ r ∈ Rms z.c z.s.l, b.o ≤ r.o ∧ r.f / 8 = b.f / 8 := by
  obtain ⟨y, hy, hin⟩ := cov b.f ok.self
  have oky := Z.inv.ok y hy
  have hbo : b.o ≤ y.o := by
    rcases Int.lt_or_le y.o b.o with h | h
    · exfalso
      have nn := nest oky ok hin ok.self (by omega)
      exact no_less Z.inv ok cov hy ⟨nn.1, by have := oky.pos; omega⟩ h
    · exact h
  have b0 := ok.o0
  have y0 := oky.o0
  have y5 := oky.o5
  have bf := ok.f0
  have ba := ok.al
  have yf := oky.f0
  have ya := oky.al
  have h1 := hin.1
  have h2 := hin.2
  by_cases h3 : y.o ≤ 3
  · have hg : y.f / 8 = b.f / 8 := by
      rcases pw_cases y0 y5 with ⟨e, p⟩ | ⟨e, p⟩ | ⟨e, p⟩ | ⟨e, p⟩ | ⟨e, p⟩ | ⟨e, p⟩ <;> rw [p] at ya h2 <;> omega
    have hlo : lo y.o = y.o := by unfold lo; rw [if_neg (by omega)]
    have hmn : many y.o = 1 := by unfold many; rw [if_neg (by omega), if_neg (by omega)]
    refine ⟨y, List.mem_flatMap.mpr ⟨y, hy, List.mem_filter.mpr ⟨?_, ?_⟩⟩, hbo, hg⟩
    · rw [hlo, hmn]
      simp [pcs]
    · unfold op; rw [hg, hop]; rfl
  · have hlo : lo y.o = 3 := by unfold lo; rw [if_pos (by omega)]
    have p3 : pw 3 = 8 := rfl
    refine ⟨⟨b.f / 8 * 8, 3⟩, List.mem_flatMap.mpr ⟨y, hy, List.mem_filter.mpr ⟨?_, ?_⟩⟩, o3, by simp only; omega⟩
    · rw [hlo, pcs_mem (by rw [p3]; omega)]
      refine ⟨((b.f / 8 * 8 - y.f) / 8).toNat, ?_, ?_⟩
      · unfold many
        have : y.o = 4 ∨ y.o = 5 := by omega
        rcases this with h | h
        · rw [h] at ya h2
          rw [show pw 4 = 16 from rfl] at ya h2
          rw [if_neg (by omega), if_pos h]
          omega
        · rw [h] at ya h2
          rw [show pw 5 = 32 from rfl] at ya h2
          rw [if_pos h]
          omega
      · rw [p3]
        have : y.f % 8 = 0 := by
          have : y.o = 4 ∨ y.o = 5 := by omega
          rcases this with h | h <;> rw [h] at ya
          · rw [show pw 4 = 16 from rfl] at ya; omega
          · rw [show pw 5 = 32 from rfl] at ya; omega
        congr 1
        omega
    · unfold op
      simp only
      rw [show b.f / 8 * 8 / 8 = b.f / 8 by omega, hop]
      rfl
end Go.Proofs.YtmjnenjeckeklaaDoor.V
