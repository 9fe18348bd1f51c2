import Derived.Test.YtmjnenjeckeklaaDoorB4
import Derived.Test.YtmjnenjeckeklaaDoorZoneModel
namespace Go.Proofs.YtmjnenjeckeklaaDoor.V
open Go Go.RowKit Go.Proofs Go.Proofs.YtmjnenjeckeklaaDoor.Q Go.Proofs.YtmjnenjeckeklaaDoorW.PrintWords
set_option linter.unusedVariables false
set_option linter.unusedSimpArgs false
set_option maxRecDepth 100000
theorem mopen_go {m : ZM} {g : Int} (hl : m.s.length ≤ 512) (g0 : 0 ≤ g) (g1 : g < (m.t.length : Int)) (g2 : g ≤ 100) : ∀ (d k : Nat) (v : Int), 0 ≤ v → v ≤ 8 → (8 - v).toNat ≤ d → d < k →
    ((∀ u, g * 8 + v ≤ u → u < g * 8 + 8 → u < m.s.length → fr m.s u) ∧ MOpen.l1 1000 m g k v = some ⟨m.s, m.t.set g.toNat 1, m.c.set g.toNat false⟩) ∨ ((∃ u, g * 8 + v ≤ u ∧ u < g * 8 + 8 ∧ u < m.s.length ∧ ¬ fr m.s u) ∧ MOpen.l1 1000 m g k v = some ⟨m.s, m.t, m.c.set g.toNat false⟩) := by
  have c1 : decide (0 ≤ g) = true := decide_eq_true g0
  have c2 : decide (g < (m.t.length : Int)) = true := decide_eq_true g1
  have w1 : IntKind.i64.wrap (g * 8) = g * 8 := wrap_small (by omega) (by omega)
  intro d
  induction d with
  | zero =>
    intro k v v0 v8 h1 h2
    obtain ⟨k, rfl⟩ : ∃ q, k = q + 1 := ⟨k - 1, by omega⟩
    unfold MOpen.l1
    rw [decide_eq_false (show ¬ v < 8 by omega), cond_false, c1, c2]
    exact .inl ⟨fun u _ _ _ => by omega, rfl⟩
  | succ d ih =>
    intro k v v0 v8 h1 h2
    obtain ⟨k, rfl⟩ : ∃ q, k = q + 1 := ⟨k - 1, by omega⟩
    by_cases hv : v < 8
    · have w2 : IntKind.i64.wrap (g * 8 + v) = g * 8 + v := wrap_small (by omega) (by omega)
      have w3 : IntKind.i64.wrap (v + 1) = v + 1 := wrap_small (by omega) (by omega)
      unfold MOpen.l1
      rw [decide_eq_true hv, cond_true, w1, w2, w3, c1, c2]
      by_cases hn : g * 8 + v < (m.s.length : Int)
      · rw [decide_eq_true hn, cond_true, decide_eq_true (show 0 ≤ g * 8 + v by omega)]
        simp only [Bool.and_self, cond_true]
        cases hb : m.s.getD (g * 8 + v).toNat false with
        | false =>
          simp only [Bool.not_false, cond_true]
          exact .inr ⟨⟨g * 8 + v, by omega, by omega, hn, fun h => by rw [h.2] at hb; cases hb⟩, trivial⟩
        | true =>
          simp only [Bool.not_true, cond_false]
          rcases ih k (v + 1) (by omega) (by omega) (by omega) (by omega) with ⟨h3, h4⟩ | ⟨⟨u, h3, h5, h6, h7⟩, h4⟩
          · refine .inl ⟨fun u u0 u1 u2 => ?_, h4⟩
            rcases Int.lt_or_eq_of_le u0 with h | h
            · exact h3 u (by omega) u1 u2
            · rw [← h]; exact ⟨by omega, hb⟩
          · exact .inr ⟨⟨u, by omega, h5, h6, h7⟩, h4⟩
      · rw [decide_eq_false hn, cond_false]
        exact .inl ⟨fun u _ _ _ => by omega, rfl⟩
    · unfold MOpen.l1
      rw [decide_eq_false hv, cond_false, c1, c2]
      exact .inl ⟨fun u _ _ _ => by omega, rfl⟩
def right (e : Option Int) (bad : Int) : Prop := (bad = 0 ∧ e = none) ∨ (bad = 1 ∧ e = some 1) ∨ (bad = 5 ∧ e = some 5) ∨ (bad = 7 ∧ e = some 7)
section
variable {n a0 p : Int} {a1 : List D4} {r1 : Bool} {r3 : Zon × Option Int} {r4 m : ZM} {z : Zon} {v : Int} {y10 y13 : Bool}
theorem plays_six {y : Zon × ZM × Option Int × Int} (h : right y.2.2.1 y.2.2.2) : ZonePlays.j6 1000 a0 a1 r1 p r3 r4 z m v y10 y13 y = some true := by
  unfold ZonePlays.j6
  obtain ⟨a, b, e, bad⟩ := y
  simp only at h ⊢
  rcases h with ⟨rfl, rfl⟩ | ⟨rfl, rfl⟩ | ⟨rfl, rfl⟩ | ⟨rfl, rfl⟩ <;> rfl
theorem plays_three (gz : Gz n z m) (h0 : 1 ≤ n) (hn : n ≤ 100) (hw : ∃ q, paviorlaw08_pick.f ((a1.getD v.toNat zD).w) 7 = some q ∧ 0 ≤ q ∧ q < 7)
    (h10 : y10 = true ↔ 0 ≤ (a1.getD v.toNat zD).a ∧ (a1.getD v.toNat zD).a < (z.t.length : Int)) (h13 : y13 = true ↔ (a1.getD v.toNat zD).o ≤ 3 ∧ Ok n ⟨(a1.getD v.toNat zD).a, (a1.getD v.toNat zD).o⟩) :
    ∃ z' m' e bad, ZonePlays.j3 1000 a0 a1 r1 p r3 r4 z m v y10 y13 = some (Sum.inl (z', m', e, bad)) ∧ Gz n z' m' ∧ right e bad := by
  obtain ⟨q, hq, q0, q1⟩ := hw
  have Z := gz.zi
  have htl := Z.tl
  have hcl := Z.cl
  have hlen := gz.len
  have e4 : ZonePlays.j4 1000 a0 a1 r1 p r3 r4 z m v y10 y13 q = some (decide (q ≤ 2)) := by
    unfold ZonePlays.j4
    have : q = 0 ∨ q = 1 ∨ q = 2 ∨ (3 ≤ q) := by omega
    rcases this with rfl | rfl | rfl | h
    · rfl
    · rfl
    · rfl
    · rw [beq_eq_false_iff_ne.mpr (show q ≠ 0 by omega), beq_eq_false_iff_ne.mpr (show q ≠ 1 by omega), beq_eq_false_iff_ne.mpr (show q ≠ 2 by omega), decide_eq_false (by omega)]
      rfl
  unfold ZonePlays.j3
  rw [hq, Option.bind_some, e4, Option.bind_some]
  generalize hg : (a1.getD v.toNat zD).a = g at h10 h13
  generalize ho : (a1.getD v.toNat zD).o = o at h13
  by_cases h2 : q ≤ 2
  · rw [decide_eq_true h2, cond_true]
    generalize hso : (a1.getD v.toNat zD).s = so
    have hj5 : ∀ r20, ZonePlays.j5 1000 a0 a1 r1 p r3 r4 z m v y10 y13 q true r20 = (bif decide (so < 0) then some (m, 1, 0) else (bif decide (so > 1) then some (m, 1, 0) else (bif decide (o < 0) then some (m, 1, 0) else (bif decide (o > 3) then some (m, 1, 0) else (MTake.f 1000 m so o).bind fun (r28 : ZM × Int) => (bif decide (r28.2 < 0) then some (r28.1, 5, 0) else some (r28.1, 0, r28.2)))))) := by
      intro r20
      unfold ZonePlays.j5
      rw [hso, ho]
    by_cases hbad : (so = 0 ∨ so = 1) ∧ 0 ≤ o ∧ o ≤ 3
    · have hj : ∀ r20, ZonePlays.j5 1000 a0 a1 r1 p r3 r4 z m v y10 y13 q true r20 = (MTake.f 1000 m so o).bind fun (r28 : ZM × Int) => (bif decide (r28.2 < 0) then some (r28.1, 5, 0) else some (r28.1, 0, r28.2)) := by
        intro r20
        rw [hj5, decide_eq_false (show ¬ so < 0 by omega), decide_eq_false (show ¬ so > 1 by omega), decide_eq_false (show ¬ o < 0 by omega), decide_eq_false (show ¬ o > 3 by omega)]
        rfl
      rcases gz.take (so := so) (o := o) (by omega) hn hbad.1 hbad.2.1 hbad.2.2 with ⟨e, e'⟩ | ⟨z', m', f, e, e', f0, gz'⟩
      · rw [e, Option.bind_some, hj, e', Option.bind_some]
        exact ⟨z, m, some 5, 5, rfl, gz, .inr (.inr (.inl ⟨rfl, rfl⟩))⟩
      · rw [e, Option.bind_some, hj, e', Option.bind_some]
        simp only []
        rw [decide_eq_false (show ¬ f < 0 by omega), cond_false, Option.bind_some]
        have hff : (f != f) = false := by simp
        simp only [hff, cond_false]
        exact ⟨z', m', none, 0, rfl, gz', .inl ⟨rfl, rfl⟩⟩
    · have hj : ∀ r20, ZonePlays.j5 1000 a0 a1 r1 p r3 r4 z m v y10 y13 q true r20 = some (m, 1, 0) := by
        intro r20
        rw [hj5]
        by_cases b1 : so < 0
        · rw [decide_eq_true b1]; rfl
        · rw [decide_eq_false b1, cond_false]
          by_cases b2 : so > 1
          · rw [decide_eq_true b2]; rfl
          · rw [decide_eq_false b2, cond_false]
            by_cases b3 : o < 0
            · rw [decide_eq_true b3]; rfl
            · rw [decide_eq_false b3, cond_false, decide_eq_true (show o > 3 by omega)]; rfl
      rw [ztake_arg hbad, Option.bind_some, hj, Option.bind_some]
      exact ⟨z, m, some 1, 1, rfl, gz, .inr (.inl ⟨rfl, rfl⟩)⟩
  · rw [decide_eq_false h2, cond_false]
    have hm : m.s.length ≤ 512 := by omega
    by_cases h3 : q = 3
    · rw [beq_iff_eq.mpr h3, cond_true]
      unfold ZTakeAt.f
      by_cases b3 : o ≤ 3
      · rw [decide_eq_false (show ¬ o > 3 by omega), cond_false]
        rcases takeAt_eq Z.inv Z.sn (by omega) (k := 1000) (by omega) g o with ⟨nok, e⟩ | ⟨ok, ⟨u, hu, hc⟩, e⟩ | ⟨ok, hc, l, e, hi, hcov, _⟩
        · have : y13 = false := by cases y13 with | false => rfl | true => exact absurd (h13.mp rfl).2 nok
          rw [e, Option.bind_some, Option.bind_some, this]
          exact ⟨z, m, some 1, 1, rfl, gz, .inr (.inl ⟨rfl, rfl⟩)⟩
        · have ok' : Ok m.s.length ⟨g, o⟩ := by rw [hlen]; exact ok
          have : y13 = true := h13.mpr ⟨b3, ok⟩
          rw [e, Option.bind_some, Option.bind_some, this]
          rcases rall_eq (b := true) hm ok' with ⟨al, _⟩ | ⟨_, e2⟩
          · exact absurd ((gz.sees u).mpr ⟨by have := hu.1; have := ok.f0; simp only at *; omega, al u hu⟩) hc
          · simp only [Bool.not_true, cond_false]
            rw [e2, Option.bind_some]
            exact ⟨z, m, some 7, 7, rfl, gz, .inr (.inr (.inr ⟨rfl, rfl⟩))⟩
        · have ok' : Ok m.s.length ⟨g, o⟩ := by rw [hlen]; exact ok
          have : y13 = true := h13.mpr ⟨b3, ok⟩
          rw [e, Option.bind_some, Option.bind_some, this]
          rcases rall_eq (b := true) hm ok' with ⟨_, e2⟩ | ⟨⟨u, hu, hno⟩, _⟩
          · obtain ⟨m', hm', hml, hfr⟩ := rset_eq (b := false) hm ok'
            simp only [Bool.not_true, cond_false]
            rw [e2, Option.bind_some]
            simp only [Bool.not_true, cond_false]
            rw [hm', Option.bind_some]
            refine ⟨_, _, none, 0, rfl, ⟨Z.of hi rfl, gz.mt, gz.mc, by simp only [hml]; exact hlen, fun u => ?_⟩, .inl ⟨rfl, rfl⟩⟩
            simp only
            rw [hcov u, hfr u, gz.sees u]
            exact ⟨fun h => .inr ⟨h.2, h.1⟩, fun h => h.elim (fun h => by cases h.2) (fun h => ⟨h.2, h.1⟩)⟩
          · exact absurd ((gz.sees u).mp (hc u hu)).2 hno
      · have : y13 = false := by cases y13 with | false => rfl | true => exact absurd (h13.mp rfl).1 b3
        rw [decide_eq_true (show o > 3 by omega), cond_true, Option.bind_some, this]
        exact ⟨z, m, some 1, 1, rfl, gz, .inr (.inl ⟨rfl, rfl⟩)⟩
    · rw [beq_eq_false_iff_ne.mpr h3, cond_false]
      by_cases h4 : q = 4
      · rw [beq_iff_eq.mpr h4, cond_true]
        unfold ZGive.f
        by_cases b3 : o ≤ 3
        · rw [decide_eq_false (show ¬ o > 3 by omega), cond_false]
          rcases give_eq Z.inv Z.sn (by omega) (k := 1000) (by omega) g o with ⟨nok, e⟩ | ⟨ok, ⟨u, hu, hc⟩, e⟩ | ⟨ok, hc, l, e, hi, hcov, _⟩
          · have : y13 = false := by cases y13 with | false => rfl | true => exact absurd (h13.mp rfl).2 nok
            rw [e, Option.bind_some, Option.bind_some, this]
            exact ⟨z, m, some 1, 1, rfl, gz, .inr (.inl ⟨rfl, rfl⟩)⟩
          · have ok' : Ok m.s.length ⟨g, o⟩ := by rw [hlen]; exact ok
            have : y13 = true := h13.mpr ⟨b3, ok⟩
            rw [e, Option.bind_some, Option.bind_some, this]
            rcases rall_eq (b := false) hm ok' with ⟨al, _⟩ | ⟨_, e2⟩
            · have h1 := ((gz.sees u).mp hc).2
              rw [al u hu] at h1
              cases h1
            · simp only [Bool.not_true, cond_false]
              rw [e2, Option.bind_some]
              exact ⟨z, m, some 7, 7, rfl, gz, .inr (.inr (.inr ⟨rfl, rfl⟩))⟩
          · have ok' : Ok m.s.length ⟨g, o⟩ := by rw [hlen]; exact ok
            have : y13 = true := h13.mpr ⟨b3, ok⟩
            have hf := ok.f0
            simp only at hf
            rw [e, Option.bind_some, Option.bind_some, this]
            rcases rall_eq (b := false) hm ok' with ⟨_, e2⟩ | ⟨⟨u, hu, hno⟩, _⟩
            · obtain ⟨m', hm', hml, hfr⟩ := rset_eq (b := true) hm ok'
              simp only [Bool.not_true, cond_false]
              rw [e2, Option.bind_some]
              simp only [Bool.not_true, cond_false]
              rw [hm', Option.bind_some]
              refine ⟨_, _, none, 0, rfl, ⟨Z.of hi rfl, gz.mt, gz.mc, by simp only [hml]; exact hlen, fun u => ?_⟩, .inl ⟨rfl, rfl⟩⟩
              simp only
              rw [hcov u, hfr u, gz.sees u]
              constructor
              · rintro (h | h)
                · by_cases hb : In u ⟨g, o⟩
                  · exact .inl ⟨hb, rfl⟩
                  · exact .inr ⟨hb, h⟩
                · exact .inl ⟨h, rfl⟩
              · rintro (h | h)
                · exact .inr h.1
                · exact .inl h.2
            · have hb : m.s.getD u.toNat false = true := by cases h : m.s.getD u.toNat false with | true => rfl | false => exact absurd h hno
              exact absurd ((gz.sees u).mpr ⟨by have := hu.1; simp only at this; omega, hb⟩) (hc u hu)
        · have : y13 = false := by cases y13 with | false => rfl | true => exact absurd (h13.mp rfl).1 b3
          rw [decide_eq_true (show o > 3 by omega), cond_true, Option.bind_some, this]
          exact ⟨z, m, some 1, 1, rfl, gz, .inr (.inl ⟨rfl, rfl⟩)⟩
      · rw [beq_eq_false_iff_ne.mpr h4, cond_false]
        by_cases h5 : q = 5
        · rw [beq_iff_eq.mpr h5, cond_true]
          by_cases hg' : 0 ≤ g ∧ g < (z.t.length : Int)
          · have : y10 = true := h10.mpr hg'
            rw [zclose_eq Z hg', this, gz.mc, decide_eq_true hg'.1, decide_eq_true (show g < (z.c.length : Int) by omega)]
            simp only [Bool.and_self, Bool.not_true, cond_true, cond_false]
            cases hc : z.c.getD g.toNat false with
            | true =>
              rw [if_pos rfl]
              exact ⟨z, m, some 7, 7, rfl, gz, .inr (.inr (.inr ⟨rfl, rfl⟩))⟩
            | false =>
              rw [if_neg (by decide)]
              exact ⟨_, _, none, 0, rfl, ⟨Z.shut rfl (List.length_set ..), gz.mt, rfl, hlen, gz.sees⟩, .inl ⟨rfl, rfl⟩⟩
          · have : y10 = false := by cases y10 with | false => rfl | true => exact absurd (h10.mp rfl) hg'
            rw [zclose_no hg', this]
            exact ⟨z, m, some 1, 1, rfl, gz, .inr (.inl ⟨rfl, rfl⟩)⟩
        · rw [beq_eq_false_iff_ne.mpr h5, cond_false]
          by_cases hg' : 0 ≤ g ∧ g < (z.t.length : Int)
          · have : y10 = true := h10.mpr hg'
            rw [this, gz.mc, decide_eq_true hg'.1, decide_eq_true (show g < (z.c.length : Int) by omega)]
            rcases zopen_eq Z (by omega) hg' with ⟨hc, e⟩ | ⟨hc, b, hb, e⟩
            · rw [e, Option.bind_some, hc]
              exact ⟨z, m, some 7, 7, rfl, gz, .inr (.inr (.inr ⟨rfl, rfl⟩))⟩
            · have hmo : MOpen.f 1000 m g = some ⟨m.s, if b = true then m.t.set g.toNat 1 else m.t, m.c.set g.toNat false⟩ := by
                unfold MOpen.f
                rw [gz.mc, decide_eq_true hg'.1, decide_eq_true (show g < (z.c.length : Int) by omega)]
                simp only [Bool.and_self, cond_true]
                rcases mopen_go (m := m) (g := g) hm hg'.1 (by rw [gz.mt]; exact hg'.2) (by omega) 8 1000 0 (by omega) (by omega) (by omega) (by omega) with ⟨hall, e2⟩ | ⟨⟨u, u0, u1, u2, hno⟩, e2⟩
                · have : b = true := hb.mpr fun u u0 u1 u2 => (gz.sees u).mpr (hall u (by omega) u1 (by omega))
                  rw [e2, this, if_pos rfl, gz.mc]
                · have : b = false := by
                    cases hbb : b with
                    | false => rfl
                    | true => exact absurd ((gz.sees u).mp (hb.mp hbb u (by omega) u1 (by omega))) hno
                  rw [e2, this, if_neg (by decide), gz.mc]
              rw [e, Option.bind_some, hc]
              simp only [Bool.and_self, Bool.not_true, cond_true, cond_false]
              rw [hmo, Option.bind_some]
              refine ⟨_, _, none, 0, rfl, ⟨Z.shut (by split <;> simp) (List.length_set ..), ?_, by simp only [gz.mc], hlen, gz.sees⟩, .inl ⟨rfl, rfl⟩⟩
              simp only [gz.mt]
          · have : y10 = false := by cases y10 with | false => rfl | true => exact absurd (h10.mp rfl) hg'
            rw [zopen_no hg', this]
            exact ⟨z, m, some 1, 1, rfl, gz, .inr (.inl ⟨rfl, rfl⟩)⟩
end
theorem plays_go {n a0 p : Int} {a1 : List D4} {r3 : Zon × Option Int} {r4 : ZM} (h0 : 1 ≤ n) (hn : n ≤ 100) (ha : ∀ x ∈ a1, -9223372036854775808 ≤ x.w ∧ x.w ≤ 9223372036854775807) :
    ∀ (d k : Nat) (z : Zon) (m : ZM) (v : Int), 0 ≤ v → (60 - v).toNat ≤ d → d < k → Gz n z m → ZonePlays.l1 1000 a0 a1 true p r3 r4 k z m v = some true := by
  intro d
  induction d with
  | zero =>
    intro k z m v v0 h1 h2 gz
    obtain ⟨k, rfl⟩ : ∃ q, k = q + 1 := ⟨k - 1, by omega⟩
    unfold ZonePlays.l1
    rw [decide_eq_false (show ¬ v < 60 by omega)]
    cases decide (v < (a1.length : Int)) <;> rfl
  | succ d ih =>
    intro k z m v v0 h1 h2 gz
    obtain ⟨k, rfl⟩ : ∃ q, k = q + 1 := ⟨k - 1, by omega⟩
    by_cases hl : v < (a1.length : Int)
    · by_cases h60 : v < 60
      · have hx : (a1.getD v.toNat zD) ∈ a1 := by
          rw [List.getD_eq_getElem?_getD, List.getElem?_eq_getElem (by omega)]
          exact List.getElem_mem _
        obtain ⟨w0, w1⟩ := ha _ hx
        have hq := pick_range (a1.getD v.toNat zD).w 7 w0 w1 (by omega) (by omega)
        have hlen := gz.len
        obtain ⟨y10, e10, h10⟩ : ∃ y, ZonePlays.j1 1000 a0 a1 true p r3 r4 z m v = some y ∧ (y = true ↔ 0 ≤ (a1.getD v.toNat zD).a ∧ (a1.getD v.toNat zD).a < (z.t.length : Int)) := by
          unfold ZonePlays.j1
          rw [gz.mt]
          by_cases b1 : (a1.getD v.toNat zD).a ≥ 0
          · rw [decide_eq_true b1]
            exact ⟨_, rfl, by rw [decide_eq_true_eq]; exact ⟨fun h => ⟨b1, h⟩, fun h => h.2⟩⟩
          · rw [decide_eq_false b1]
            exact ⟨_, rfl, ⟨(fun h => (by cases h)), fun h => absurd h.1 b1⟩⟩
        obtain ⟨y13, e13, h13⟩ : ∃ y, ZonePlays.j2 1000 a0 a1 true p r3 r4 z m v y10 = some y ∧ (y = true ↔ (a1.getD v.toNat zD).o ≤ 3 ∧ Ok n ⟨(a1.getD v.toNat zD).a, (a1.getD v.toNat zD).o⟩) := by
          unfold ZonePlays.j2
          by_cases b1 : (a1.getD v.toNat zD).o ≤ 3
          · rw [decide_eq_true b1, cond_true]
            rcases rblock_eq (m := m.s) (f := (a1.getD v.toNat zD).a) (o := (a1.getD v.toNat zD).o) (by omega) with ⟨ok, e⟩ | ⟨nok, e⟩
            · rw [hlen] at ok
              rw [e]
              exact ⟨true, rfl, ⟨fun _ => ⟨b1, ok⟩, fun _ => rfl⟩⟩
            · rw [hlen] at nok
              rw [e]
              exact ⟨false, rfl, ⟨(fun h => (by cases h)), fun h => absurd h.2 nok⟩⟩
          · rw [decide_eq_false b1]
            exact ⟨false, rfl, ⟨(fun h => (by cases h)), fun h => absurd h.1 b1⟩⟩
        obtain ⟨z', m', e, bad, e3, gz', hright⟩ := plays_three (a0 := a0) (p := p) (r1 := true) (r3 := r3) (r4 := r4) gz h0 hn hq h10 h13
        unfold ZonePlays.l1
        rw [decide_eq_true hl, decide_eq_true h60, decide_eq_true v0]
        simp only [Bool.and_self, cond_true]
        rw [e10, Option.bind_some, e13, Option.bind_some, e3, Option.bind_some]
        simp only [Sum.elim_inl]
        rw [plays_six (y := (z', m', e, bad)) hright, Option.bind_some]
        simp only [Bool.not_true, cond_false]
        rw [same_eq gz' (by omega), Option.bind_some]
        simp only [Bool.not_true, cond_false]
        rw [wrap_small (by omega) (by omega)]
        exact ih k z' m' (v + 1) (by omega) (by omega) (by omega) gz'
      · unfold ZonePlays.l1
        rw [decide_eq_true hl, decide_eq_false h60]
        rfl
    · unfold ZonePlays.l1
      rw [decide_eq_false hl]
      rfl
theorem ZonePlays.plain (a0 : Int) (a1 : List D4) (s0 : -9223372036854775808 ≤ a0) (s1 : a0 ≤ 9223372036854775807) (ha : ∀ x ∈ a1, -9223372036854775808 ≤ x.w ∧ x.w ≤ 9223372036854775807) : ZonePlays.f 1000 a0 a1 = some true := by
  obtain ⟨p, hp, p0, p1⟩ := pick_range a0 70 s0 s1 (by omega) (by omega)
  have hn : IntKind.i64.wrap (1 + p) = 1 + p := wrap_small (by omega) (by omega)
  have hup : up.f 1000 = some true := by kernel_rfl
  obtain ⟨z, m, hz, hm, gz⟩ := new_same (n := 1 + p) (by omega) (by omega)
  have e0 : (!((none : Option Int) == none)) = false := rfl
  unfold ZonePlays.f
  rw [hup, Option.bind_some, hp, Option.bind_some, hn, hz, Option.bind_some]
  simp only [e0, cond_false]
  rw [hm, Option.bind_some]
  exact plays_go (n := 1 + p) (by omega) (by omega) ha 60 1000 z m 0 (by omega) (by omega) (by omega) gz
end Go.Proofs.YtmjnenjeckeklaaDoor.V
