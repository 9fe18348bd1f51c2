import Derived.Test.YtehbhpkmlmeblaaPureBbmOthers
namespace Go.Proofs.Ytehbhpkmlmeblaa.V
open Go Go.RowKit Go.Proofs Go.Proofs.Ytehbhpkmlmeblaa.Q Go.Proofs.Ytehbhpkmlmeblaa.PteLib Go.Proofs.YtehbhpkmlmeblaaW.PrintWords Go.Proofs.Ytehbhpkmlmeblaa.Bits
set_option linter.unusedVariables false
set_option linter.unusedSimpArgs false
set_option maxRecDepth 100000
def clo (a b e l : Int) : Gap := ⟨a, b, e, 0, List.replicate (many b).toNat true, l⟩
def Calm (a b c d e : Int) (w : Watch) : Prop := ∃ clk, (∃ key, w = ⟨key, none, clk, false⟩) ∨ ∃ born l, w = ⟨(c, d), some (born, clo a b e l), clk, false⟩
def Half (a b c d e : Int) (w : Watch) : Prop := Calm a b c d e w ∨ ∃ clk born x, w = ⟨(c, d), some (born, gapOf a b e x), clk, false⟩
theorem even_and {x : Int} (x0 : 0 ≤ x) (x1 : x < 18446744073709551616) : bitI .and .u64 x 1 = x % 2 := by rw [bitI_and, and1 x x0 x1]
theorem zero_and : bitI .and .u64 0 1 = 0 := by kernel_rfl
theorem many_le {b : Int} : many b ≤ 512 := by unfold many; repeat' split; all_goals omega
theorem keep_shut {a b c d e x : Int} {w : Watch} (h : MayP a b c d e) (hw : Calm a b c d e w) (x0 : 0 ≤ x) (x1 : x < 18446744073709551616) : ∃ w', Write.f 1000 w a b c d e x 0 = some (w', none) ∧ Half a b c d e w' := by
  obtain ⟨clk, hw⟩ := hw
  have hp := @many_pos b
  have hle := @many_le b
  rcases Int.emod_two_eq x with hx | hx
  · rcases hw with ⟨key, rfl⟩ | ⟨born, l, rfl⟩
    · refine ⟨⟨(c, d), none, clk, false⟩, ?_, .inl ⟨clk, .inl ⟨_, rfl⟩⟩⟩
      simp [Write.f, Write0.f, own_may h, change_l h.b0 h.b1 x0 x1, even_and x0 x1, hx, zero_and]
    · refine ⟨⟨(c, d), some (born, clo a b e l), clk, false⟩, ?_, .inl ⟨clk, .inr ⟨born, l, rfl⟩⟩⟩
      simp [Write.f, Write1.f, own_may h, change_l h.b0 h.b1 x0 x1, even_and x0 x1, hx, zero_and, clo]
  · rcases hw with ⟨key, rfl⟩ | ⟨born, l, rfl⟩
    · exact ⟨_, write_shut h x0 x1 hx, .inr ⟨_, _, _, rfl⟩⟩
    · obtain ⟨r, h1, h2, h3⟩ := order_of h.b0 h.b1
      refine ⟨⟨(c, d), some (born, gapOf a b e x), clk, false⟩, ?_, .inr ⟨clk, born, x, rfl⟩⟩
      simp only [Write.f, if_true, Write1.f, own_may h, change_l h.b0 h.b1 x0 x1, Option.bind_some, Bool.not_true, cond_false, even_and x0 x1, hx, zero_and, cond_true, h1, decide_eq_true h2, h3, decide_eq_true (show 0 ≤ many b by omega), decide_eq_true (show many b ≤ 1000000000 by omega), Bool.and_self, Option.beq_none, Option.isNone_none, beq_self_eq_true]
      rfl
theorem keep_open {a b c d e y : Int} {w : Watch} (h : MayP a b c d e) (hw : Calm a b c d e w) (y0 : 0 ≤ y) (y1 : y < 18446744073709551616) : ∃ w', Write.f 1000 w a b c d e 0 y = some (w', none) ∧ Calm a b c d e w' := by
  obtain ⟨clk, hw⟩ := hw
  rcases Int.emod_two_eq y with hy | hy
  · rcases hw with ⟨key, rfl⟩ | ⟨born, l, rfl⟩
    · refine ⟨⟨(c, d), none, clk, false⟩, ?_, clk, .inl ⟨_, rfl⟩⟩
      simp [Write.f, Write0.f, own_may h, change_r h.b0 h.b1 y0 y1, even_and y0 y1, hy, zero_and]
    · refine ⟨⟨(c, d), some (born, clo a b e l), clk, false⟩, ?_, clk, .inr ⟨born, l, rfl⟩⟩
      simp [Write.f, Write1.f, own_may h, change_r h.b0 h.b1 y0 y1, even_and y0 y1, hy, zero_and, clo]
  · rcases hw with ⟨key, rfl⟩ | ⟨born, l, rfl⟩
    · exact ⟨_, write_open h y0 y1 hy, clk, .inl ⟨_, rfl⟩⟩
    · refine ⟨⟨(c, d), none, clk, false⟩, ?_, clk, .inl ⟨_, rfl⟩⟩
      simp [Write.f, Write1.f, own_may h, change_r h.b0 h.b1 y0 y1, even_and y0 y1, hy, zero_and, clo]
theorem calm_open {a b c d e : Int} {w : Watch} (hw : Calm a b c d e w) : ∃ w', Open.f 1000 w = some (w', 0) ∧ Calm a b c d e w' := by
  obtain ⟨clk, ⟨key, rfl⟩ | ⟨born, l, rfl⟩⟩ := hw
  · exact ⟨_, open_none, clk, .inl ⟨_, rfl⟩⟩
  · exact ⟨⟨(c, d), some (born, clo a b e l), clk, false⟩, by simp [Open.f, Open1.f, clo], clk, .inr ⟨born, l, rfl⟩⟩
theorem calm_broken {a b c d e : Int} {w : Watch} (hw : Calm a b c d e w) : w.broken = false := by
  obtain ⟨clk, ⟨key, rfl⟩ | ⟨born, l, rfl⟩⟩ := hw <;> rfl
theorem set_pre {m v : Nat} {t : List Bool} (ht : t.length = m) (hv : v < m) : (List.replicate v true ++ t.drop v).set v true = List.replicate (v + 1) true ++ t.drop (v + 1) := by
  have h1 : t.drop v = (t[v]'(by omega)) :: t.drop (v + 1) := (List.getElem_cons_drop (by omega)).symm
  rw [h1, List.set_append_right _ _ (by simp)]
  simp only [List.length_replicate, Nat.sub_self, List.set_cons_zero]
  rw [List.replicate_succ']
  simp
theorem space_go {a b e l : Int} {born clk : Nat} {key : Int × Int} {g : Gap} {br : Bool} {o : Int} {t : List Bool} (ht : t.length = (many b).toNat) (hg : g.told.length = (many b).toNat) : ∀ (n v : Nat), v ≤ (many b).toNat → (many b).toNat - v < n →
    Space1.l1 1000 (key, born, g, clk, br) o n ⟨a, b, e, 0, List.replicate v true ++ t.drop v, l⟩ v = some ⟨key, some (born, clo a b e l), clk, br⟩ := by
  intro n
  induction n with
  | zero => intro v h1 h2; omega
  | succ n ih =>
    intro v h1 h2
    have hle := @many_le b
    have hlen : (List.replicate v true ++ t.drop v).length = (many b).toNat := by simp [ht]; omega
    unfold Space1.l1
    simp only [hg, hlen]
    by_cases hv : v < (many b).toNat
    · rw [decide_eq_true (show (v : Int) < ((many b).toNat : Int) by omega), decide_eq_true (show (0 : Int) ≤ v by omega)]
      simp only [Bool.and_self, cond_true, Int.toNat_natCast]
      rw [set_pre ht hv, wrap_small (x := (v : Int) + 1) (by omega) (by omega)]
      exact ih (v + 1) (by omega) (by omega)
    · rw [decide_eq_false (show ¬ (v : Int) < ((many b).toNat : Int) by omega)]
      have : v = (many b).toNat := by omega
      subst this
      simp only [cond_false, clo, List.drop_eq_nil_of_le (show t.length ≤ (many b).toNat by omega), List.append_nil]
theorem keep_space {a b c d e : Int} {w : Watch} (hw : Half a b c d e w) : ∃ w', Space.f 1000 w a = some w' ∧ Calm a b c d e w' := by
  have key : ∀ (clk born : Nat) (g : Gap), g.asid = a → g.level = b → g.first = e → g.told.length = (many b).toNat → ∃ w', Space.f 1000 ⟨(c, d), some (born, g), clk, false⟩ a = some w' ∧ Calm a b c d e w' := by
    intro clk born g h1 h2 h3 h4
    refine ⟨⟨(c, d), some (born, clo a b e g.last), clk, false⟩, ?_, clk, .inr ⟨born, g.last, rfl⟩⟩
    simp only [Space.f, Space1.f, h1, beq_self_eq_true, cond_true, h2, h3]
    have hle := @many_le b
    exact space_go (t := g.told) h4 h4 1000 0 (by omega) (by omega)
  rcases hw with ⟨clk, ⟨k, rfl⟩ | ⟨born, l, rfl⟩⟩ | ⟨clk, born, x, rfl⟩
  · exact ⟨⟨(0, 0), none, clk, false⟩, rfl, clk, .inl ⟨_, rfl⟩⟩
  · exact key clk born _ rfl rfl rfl (by simp [clo])
  · exact key clk born _ rfl rfl rfl (by simp [gapOf])
def rg (a b e x : Int) (u : Bool) (i : Nat) : Gap := ⟨a, b, e, if u then 0 else many b - i, List.replicate i true ++ List.replicate ((many b).toNat - i) u, x⟩
theorem rg_len {a b e x : Int} {u : Bool} {i : Nat} (hi : i ≤ (many b).toNat) : (rg a b e x u i).told.length = (many b).toNat := by simp [rg]; omega
theorem tell_step {a b e x : Int} {u : Bool} {i : Nat} (e0 : 0 ≤ e) (e1 : e ≤ 4095) (hi : i < (many b).toNat) : tell.f (rg a b e x u i) (IntKind.i64.wrap (e + i)) = some (rg a b e x u (i + 1)) := by
  have hle := @many_le b
  have hp := @many_pos b
  have hl : (rg a b e x u i).told.length = (many b).toNat := rg_len (by omega)
  have hg : (rg a b e x u i).told.getD i false = u := by
    simp only [rg, List.getD_eq_getElem?_getD]
    rw [List.getElem?_append_right (by simp), List.length_replicate, Nat.sub_self, List.getElem?_replicate, if_pos (by omega)]
    rfl
  have hs : (rg a b e x u i).told.set i true = List.replicate (i + 1) true ++ List.replicate ((many b).toNat - (i + 1)) u := by
    have h1 := set_pre (m := (many b).toNat) (v := i) (t := List.replicate (many b).toNat u) (by simp) hi
    simpa [rg] using h1
  have hf : (rg a b e x u i).first = e := rfl
  rw [wrap_small (x := e + i) (by omega) (by omega)]
  unfold tell.f
  rw [hf, show e + (i : Int) - e = (i : Int) by omega, wrap_small (x := (i : Int)) (by omega) (by omega), hl]
  rw [decide_eq_true (show (i : Int) ≥ 0 by omega), decide_eq_true (show (i : Int) < ((many b).toNat : Int) by omega)]
  simp only [cond_true, Bool.and_self, Int.toNat_natCast, hg, hs]
  cases u with
  | true =>
    simp only [Bool.not_true, cond_false, rg]
    simp only [List.replicate_append_replicate, if_true]
    rw [show i + ((many b).toNat - i) = i + 1 + ((many b).toNat - (i + 1)) by omega]
  | false =>
    have hw : (rg a b e x false i).left = many b - i := by simp [rg]
    rw [hw, wrap_small (x := many b - i - 1) (by omega) (by omega)]
    simp only [Bool.not_false, cond_true, rg]
    simp
    omega
theorem tell_run {a b c d e x : Int} {u a6 r1 r3 : Bool} {a5 : List Int} {r2 v10 : Watch} {v11 v12 : Int} {r14 : Watch × Option Int} {clk born : Nat} (h : MayP a b c d e) : ∀ (n i : Nat), i ≤ (many b).toNat → (many b).toNat - i < n →
    BbmKeeps.l2 1000 a b c d e a5 a6 r1 r2 r3 v10 v11 v12 r14 n ⟨(c, d), some (born, rg a b e x u i), clk, false⟩ i = some (⟨(c, d), some (born, clo a b e x), clk, false⟩, many b) := by
  intro n
  induction n with
  | zero => intro i h0 h1; omega
  | succ n ih =>
    intro i h0 h1
    have hle := @many_le b
    have hp := @many_pos b
    unfold BbmKeeps.l2
    simp only [many_of h.b0 h.b1, Option.bind_some]
    by_cases hi : i < (many b).toNat
    · have ha : (rg a b e x u i).asid = a := rfl
      have ht := tell_step (a := a) (x := x) (u := u) h.e0 h.e1 hi
      have hw := wrap_small (x := (i : Int) + 1) (by omega) (by omega)
      rw [decide_eq_true (show (i : Int) < many b by omega)]
      simp only [cond_true, Told.f, Told1.f, ha, beq_self_eq_true]
      have ht' : tell.f (⟨(rg a b e x u i).asid, (rg a b e x u i).level, (rg a b e x u i).first, (rg a b e x u i).left, (rg a b e x u i).told, (rg a b e x u i).last⟩ : Gap) (IntKind.i64.wrap (e + i)) = some (rg a b e x u (i + 1)) := ht
      rw [ha] at ht'
      rw [ht', hw]
      exact ih (i + 1) (by omega) (by omega)
    · have : i = (many b).toNat := by omega
      subst this
      rw [decide_eq_false (show ¬ (((many b).toNat : Nat) : Int) < many b by omega)]
      have hc : rg a b e x u (many b).toNat = clo a b e x := by
        simp only [rg, clo]
        cases u <;> simp <;> omega
      rw [hc, show (((many b).toNat : Nat) : Int) = many b by omega]
      rfl
theorem told_none {a b c d e : Int} {a6 r1 r3 : Bool} {a5 : List Int} {r2 v10 : Watch} {v11 v12 : Int} {r14 : Watch × Option Int} {clk : Nat} (h : MayP a b c d e) : ∀ (n i : Nat) (key : Int × Int), i ≤ (many b).toNat → (many b).toNat - i < n →
    ∃ key', BbmKeeps.l2 1000 a b c d e a5 a6 r1 r2 r3 v10 v11 v12 r14 n ⟨key, none, clk, false⟩ i = some (⟨key', none, clk, false⟩, many b) := by
  intro n
  induction n with
  | zero => intro i key h0 h1; omega
  | succ n ih =>
    intro i key h0 h1
    have hle := @many_le b
    have hp := @many_pos b
    unfold BbmKeeps.l2
    simp only [many_of h.b0 h.b1, Option.bind_some]
    by_cases hi : i < (many b).toNat
    · have hw := wrap_small (x := (i : Int) + 1) (by omega) (by omega)
      rw [decide_eq_true (show (i : Int) < many b by omega)]
      obtain ⟨key', hk⟩ := ih (i + 1) (0, 0) (by omega) (by omega)
      refine ⟨key', ?_⟩
      simp only [cond_true, Told.f, Told0.f, hw]
      exact hk
    · have : i = (many b).toNat := by omega
      subst this
      rw [decide_eq_false (show ¬ (((many b).toNat : Nat) : Int) < many b by omega), show (((many b).toNat : Nat) : Int) = many b by omega]
      exact ⟨key, rfl⟩
theorem keep_told {a b c d e : Int} {a6 r1 r3 : Bool} {a5 : List Int} {r2 v10 : Watch} {v11 v12 : Int} {r14 : Watch × Option Int} {w : Watch} (h : MayP a b c d e) (hw : Half a b c d e w) : ∃ w', BbmKeeps.l2 1000 a b c d e a5 a6 r1 r2 r3 v10 v11 v12 r14 1000 w 0 = some (w', many b) ∧ Calm a b c d e w' := by
  have hle := @many_le b
  have hp := @many_pos b
  rcases hw with ⟨clk, ⟨k, rfl⟩ | ⟨born, l, rfl⟩⟩ | ⟨clk, born, x, rfl⟩
  · obtain ⟨key', hk⟩ := told_none (a6 := a6) (r1 := r1) (r3 := r3) (a5 := a5) (r2 := r2) (v10 := v10) (v11 := v11) (v12 := v12) (r14 := r14) (clk := clk) h 1000 0 k (by omega) (by omega)
    exact ⟨_, hk, clk, .inl ⟨_, rfl⟩⟩
  · have hk := tell_run (a6 := a6) (r1 := r1) (r3 := r3) (a5 := a5) (r2 := r2) (v10 := v10) (v11 := v11) (v12 := v12) (r14 := r14) (clk := clk) (born := born) (x := l) (u := true) h 1000 0 (by omega) (by omega)
    have e1 : rg a b e l true 0 = clo a b e l := by simp [rg, clo]
    rw [e1] at hk
    exact ⟨_, hk, clk, .inr ⟨_, _, rfl⟩⟩
  · have hk := tell_run (a6 := a6) (r1 := r1) (r3 := r3) (a5 := a5) (r2 := r2) (v10 := v10) (v11 := v11) (v12 := v12) (r14 := r14) (clk := clk) (born := born) (x := x) (u := false) h 1000 0 (by omega) (by omega)
    have e1 : rg a b e x false 0 = gapOf a b e x := by simp [rg, gapOf]
    rw [e1] at hk
    exact ⟨_, hk, clk, .inr ⟨_, _, rfl⟩⟩
theorem keeps_loop {a b c d e : Int} {a6 r1 r3 : Bool} {a5 : List Int} {r2 : Watch} (h : MayP a b c d e) (hr : r1 = true) (h5 : ∀ x ∈ a5, 0 ≤ x ∧ x < 18446744073709551616) : ∀ (n i : Nat) (w : Watch) (v : Int), 0 ≤ v → v < 18446744073709551616 → Calm a b c d e w → i ≤ 12 → 12 - i < n →
    BbmKeeps.l1 1000 a b c d e a5 a6 r1 r2 r3 n w v i = some true := by
  intro n
  induction n with
  | zero => intro i w v v0 v1 hw h0 h1; omega
  | succ n ih =>
    intro i w v v0 v1 hw h0 h1
    unfold BbmKeeps.l1
    by_cases hl : ¬ i < a5.length
    · rw [decide_eq_false (show ¬ (i : Int) < (a5.length : Int) by omega), hr]; rfl
    replace hl : i < a5.length := by omega
    by_cases h12 : ¬ i < 12
    · rw [decide_eq_true (show (i : Int) < (a5.length : Int) by omega), decide_eq_false (show ¬ (i : Int) < 12 by omega), hr]; rfl
    replace h12 : i < 12 := by omega
    have hx : 0 ≤ a5.getD i 0 ∧ a5.getD i 0 < 18446744073709551616 := by
      rw [List.getD_eq_getElem?_getD, List.getElem?_eq_getElem hl]; exact h5 _ (List.getElem_mem hl)
    obtain ⟨w1, e1, c1⟩ := keep_shut h hw v0 v1
    rw [decide_eq_true (show (i : Int) < (a5.length : Int) by omega), decide_eq_true (show (i : Int) < 12 by omega), decide_eq_true (show 0 ≤ (i : Int) by omega), e1]
    simp only [cond_true, Option.bind_some, Bool.and_self, Int.toNat_natCast]
    have hwr := wrap_small (x := (i : Int) + 1) (by omega) (by omega)
    cases a6 with
    | true =>
      obtain ⟨w2, e2, c2⟩ := keep_space c1
      obtain ⟨w3, e3, c3⟩ := keep_open h c2 hx.1 hx.2
      obtain ⟨w4, e4, c4⟩ := calm_open c3
      have hb := calm_broken c3
      simp only [cond_true, e2, Option.bind_some, e3, Broken.f, hb, cond_false, e4, Option.beq_none, Option.isNone_none, Bool.not_true, bne_self_eq_false, beq_self_eq_true, hwr]
      exact ih (i + 1) w4 _ hx.1 hx.2 c4 (by omega) (by omega)
    | false =>
      obtain ⟨w2, e2, c2⟩ := keep_told (a6 := false) (r1 := r1) (r3 := r3) (a5 := a5) (r2 := r2) (v10 := w) (v11 := v) (v12 := i) (r14 := (w1, none)) h c1
      obtain ⟨w3, e3, c3⟩ := keep_open h c2 hx.1 hx.2
      obtain ⟨w4, e4, c4⟩ := calm_open c3
      have hb := calm_broken c3
      simp only [cond_false, e2, Option.bind_some, e3, Broken.f, hb, cond_true, e4, Option.beq_none, Option.isNone_none, Bool.not_true, bne_self_eq_false, beq_self_eq_true, hwr]
      exact ih (i + 1) w4 _ hx.1 hx.2 c4 (by omega) (by omega)
theorem keeps (a b c d e : Int) (a5 : List Int) (a6 : Bool) (h5 : ∀ x ∈ a5, 0 ≤ x ∧ x < 18446744073709551616) : BbmKeeps.f 1000 a b c d e a5 a6 = some true := by
  obtain ⟨m, h1, h2⟩ := ref_may a b c d e
  unfold BbmKeeps.f
  simp only [up_true, New.f, Option.bind_some, h1, cond_true]
  cases m with
  | false => rfl
  | true =>
    simp only [Bool.not_true, cond_false]
    by_cases hb : b = 0
    · subst hb; rfl
    rw [show (b == 0) = false by simpa using hb]
    exact keeps_loop (h2 rfl) rfl h5 1000 0 _ 0 (by omega) (by omega) ⟨_, .inl ⟨_, rfl⟩⟩ (by omega) (by omega)
end Go.Proofs.Ytehbhpkmlmeblaa.V
