-- Written by this session's program wip/tools/xprint.py (the kit's printer, turned by it); not the kit's own print.
import Derived.Test.YtlmjjkggoemabaaQtx0
import Derived.Test.YtlmjjkggoemabaaQtx3
import Derived.Test.YtlmjjkggoemabaaQtx4
import Derived.Test.YtlmjjkggoemabaaHClear
namespace Go.Proofs.Ytlmjjkggoemabaa.Qt
open Go.RowKit Go.Proofs.YtlmjjkggoemabaaW.PrintWords Go.Proofs.YtlmjjkggoemabaaW.PrintLast Go.Proofs.YtlmjjkggoemabaaW.PrintMore
attribute [local go_sem] max2_int min2_int max_two min_two max_three min_three max_four min_four   -- for this text's walks alone
set_option linter.unusedVariables false
set_option linter.unusedSimpArgs false

attribute [local go_sem high] eqErr_some neErr_some eqErr_left neErr_left
--ALONE HClear
/-! ### slices.DeleteFunc of entries, handed a row of its own: function 61 -/
theorem dels.rd_at (pre : List (S48)) (b : S48) (suf : List (S48)) : rd_T48 (pre ++ b :: suf) (pre.length : Int) = b := by
  unfold rd_T48
  rw [List.getD_eq_getElem?_getD]
  simp
theorem dels.wrap_of {n : Int} (h0 : -9223372036854775808 ≤ n) (h1 : n ≤ 9223372036854775807) : wrap64 n = n := by unfold wrap64; omega
theorem dels.index_loop (φ : S48 → Option Bool) (ψ : S48 → Bool) (n : Int) : ∀ (suf pre : List (S48)), (∀ x ∈ suf, φ x = some (ψ x)) → (pre ++ suf).length < 10000 → n = ((pre ++ suf).length : Int) → Ev (fun k => api_Entry_53.l0 k (pre ++ suf) φ n (pre.length : Int)) (match suf.findIdx? ψ with | some i => ((pre.length + i : Nat) : Int) | none => -1) := by
  intro suf
  induction suf with
  | nil =>
    intro pre hs hlen hn
    refine Ev.step (f := fun _ => some (-1)) (fun k => ?_) (Ev.now _)
    rw [api_Entry_53.l0, if_neg (by rw [hn]; simp)]
  | cons x suf ih =>
    intro pre hs hlen hn
    have hx := hs x (List.mem_cons_self ..)
    have hp : (pre ++ x :: suf).length = pre.length + (suf.length + 1) := by simp
    rw [List.findIdx?_cons]
    by_cases c : ψ x = true
    · rw [if_pos c]
      refine Ev.step (f := fun _ => some ((pre.length : Nat) : Int)) (fun k => ?_) (Ev.now _)
      rw [api_Entry_53.l0, if_pos (by omega), if_pos (by omega), if_pos (by omega), dels.rd_at, ap53.f, hx, Option.bind_some, if_pos c]
    · have h2 := ih (pre ++ [x]) (fun y hy => hs y (List.mem_cons_of_mem _ hy)) (by simpa using hlen) (by rw [hn]; simp)
      rw [List.append_assoc] at h2
      refine Ev.step (f := fun k => api_Entry_53.l0 k (pre ++ ([x] ++ suf)) φ n ((pre ++ [x]).length : Int)) (fun k => ?_) ?_
      · rw [api_Entry_53.l0, if_pos (by omega), if_pos (by omega), if_pos (by omega), dels.rd_at, ap53.f, hx, Option.bind_some, if_neg c, dels.wrap_of (by omega) (by omega)]
        simp
      · rw [if_neg c]
        have e : (match suf.findIdx? ψ with | some i => (((pre ++ [x]).length + i : Nat) : Int) | none => -1) = (match (Option.map (fun i => i + 1) (suf.findIdx? ψ)) with | some i => ((pre.length + i : Nat) : Int) | none => -1) := by
          cases suf.findIdx? ψ with
          | none => rfl
          | some i => exact congrArg (Nat.cast (R := Int)) (show (pre ++ [x]).length + i = pre.length + (i + 1) by rw [List.length_append, List.length_singleton]; omega)
        rw [e] at h2
        exact h2
theorem dels.index (l : List (S48)) (φ : S48 → Option Bool) (ψ : S48 → Bool) (hs : ∀ x ∈ l, φ x = some (ψ x)) (h : l.length < 10000) : ∃ K, api_Entry_53.f K l φ = some (match l.findIdx? ψ with | some i => (i : Int) | none => -1) := by
  have := dels.index_loop φ ψ (l.length : Int) l [] hs h rfl
  simp only [List.nil_append, List.length_nil, Nat.zero_add] at this
  exact Ev.rounds this
theorem dels.stay (l l1 : List (S48)) (φ : S48 → Bool) (i j : Nat) (x : S48) (hx : l[j]? = some x) (hq : φ x = true) (h2 : l1.take i = (l.take j).filter (fun x => !φ x)) (h3 : l1.drop j = l.drop j) : l1.take i = (l.take (j + 1)).filter (fun x => !φ x) ∧ l1.drop (j + 1) = l.drop (j + 1) := by
  refine ⟨?_, ?_⟩
  · rw [List.take_add_one, hx, List.filter_append, h2]
    simp [hq]
  · have := congrArg (List.drop 1) h3
    rwa [List.drop_drop, List.drop_drop] at this
theorem dels.move (l l1 : List (S48)) (φ : S48 → Bool) (i j : Nat) (x : S48) (hi : i < j) (hj : j < l1.length) (hx : l[j]? = some x) (hq : φ x = false) (h2 : l1.take i = (l.take j).filter (fun x => !φ x)) (h3 : l1.drop j = l.drop j) : (l1.set i x).take (i + 1) = (l.take (j + 1)).filter (fun x => !φ x) ∧ (l1.set i x).drop (j + 1) = l.drop (j + 1) := by
  refine ⟨?_, ?_⟩
  · rw [List.take_add_one (l := l), hx, List.filter_append, ← h2, List.take_add_one, List.take_set_of_le (Nat.le_refl i), List.getElem?_set_self (by omega)]
    simp [hq]
  · rw [List.drop_set_of_lt (by omega)]
    have := congrArg (List.drop 1) h3
    rwa [List.drop_drop, List.drop_drop] at this
theorem dels.first (l : List (S48)) (φ : S48 → Bool) (i : Nat) (h : l.findIdx? φ = some i) : i < l.length ∧ l.take i = (l.take (i + 1)).filter (fun x => !φ x) := by
  obtain ⟨hi, hp, hb⟩ := List.findIdx?_eq_some_iff_getElem.mp h
  refine ⟨hi, ?_⟩
  rw [List.take_add_one, List.getElem?_eq_getElem hi, List.filter_append]
  have : (l.take i).filter (fun x => !φ x) = l.take i := by
    rw [List.filter_eq_self]
    intro a ha
    obtain ⟨j, hj, rfl⟩ := List.getElem_of_mem ha
    rw [List.getElem_take]
    have hj' : j < i := by rw [List.length_take] at hj; omega
    simpa using hb j hj'
  rw [this]
  simp [hp]
theorem dels.all (l : List (S48)) (φ : S48 → Bool) (h : l.findIdx? φ = none) : l.filter (fun x => !φ x) = l := by
  rw [List.findIdx?_eq_none_iff] at h
  rw [List.filter_eq_self]
  intro a ha
  simp [h a ha]
theorem dels.cells {W : World} {base : Nat} {ok : Nat → Prop} {g n c : Nat} {l1 : List (S48)} (h : Kd.R k48 48 W base ok (.slice (some ⟨g, 0, none⟩) n c) l1) (j : Int) (h0 : 0 ≤ j) (h1 : j < n) (x : S48) (hx : l1[j.toNat]? = some x) : ∀ q u, [.int .i64 x.f0, .int .i64 x.f1, .int .i64 x.f2, .int .i64 x.f3, .bool x.f4, .bool x.f5][q]? = some u → W.cell? ⟨g, j.toNat * 6 + q, none⟩ = some u := by
  obtain ⟨cs, hl, hM, hc, hf⟩ := Kd.R_elem h x j h0 h1
  have e : l1.getD j.toNat x = x := by rw [List.getD_eq_getElem?_getD, hx]; rfl
  rw [e] at hM
  obtain rfl := k48_openM hM
  exact hc
theorem dels.elem {W : World} {base : Nat} {ok : Nat → Prop} {g n c : Nat} {l1 : List (S48)} (h : Kd.R k48 48 W base ok (.slice (some ⟨g, 0, none⟩) n c) l1) (j : Int) (h0 : 0 ≤ j) (h1 : j < n) (x : S48) (hx : l1[j.toNat]? = some x) : W.cell? ⟨g, j.toNat * 6, none⟩ = some (.int .i64 x.f0) ∧ W.cell? ⟨g, j.toNat * 6 + 1, none⟩ = some (.int .i64 x.f1) ∧ W.cell? ⟨g, j.toNat * 6 + 2, none⟩ = some (.int .i64 x.f2) ∧ W.cell? ⟨g, j.toNat * 6 + 3, none⟩ = some (.int .i64 x.f3) ∧ W.cell? ⟨g, j.toNat * 6 + 4, none⟩ = some (.bool x.f4) ∧ W.cell? ⟨g, j.toNat * 6 + 5, none⟩ = some (.bool x.f5) := by
  have hc := dels.cells h j h0 h1 x hx
  exact ⟨hc 0 _ rfl, hc 1 _ rfl, hc 2 _ rfl, hc 3 _ rfl, hc 4 _ rfl, hc 5 _ rfl⟩
theorem zeroE : ∀ w, (zeroValue 48).run Try.prog w = .ok (.agg #[.int .i64 0, .int .i64 0, .int .i64 0, .int .i64 0, .bool false, .bool false]) w := fun w => by kernel_rfl
theorem oneE : ∀ i, i < (Value.agg #[.int .i64 0, .int .i64 0, .int .i64 0, .int .i64 0, .bool false, .bool false]).cells.size → ((Value.agg #[.int .i64 0, .int .i64 0, .int .i64 0, .int .i64 0, .bool false, .bool false]).cells[i]!).oneCell' = true := by decide

set_option maxHeartbeats 8000000 in
set_option maxRecDepth 100000 in
theorem api_Entry_61.calls (l : List (S48)) (φ : S48 → Option Bool) (ψ : S48 → Bool) (A : Option Addr) (c : Nat) (vF : Value) (wF w : World) (c0 : l.length < 1000) (hs : ∀ x ∈ l, φ x = some (ψ x)) (hR : Kd.R k48 48 w wF.heap.size (fun _ => True) (.slice A l.length c) l) (hF : HFn.FnOfO Try.prog eF53 rF53 φ vF wF) (hB : Below wF.heap.size wF w) :
    Calls Try.prog 61 #[.slice A l.length c, vF] w fun e w' => ∃ v, e = .returned v ∧ Kd.R k48 48 w' wF.heap.size (fun _ => True) v (l.filter (fun x => !ψ x)) ∧ Below wF.heap.size wF w' := by
  · obtain ⟨K, hK⟩ := dels.index l φ ψ hs (by omega)
    have HS := Aside0.mk hs
    have HB := Aside0.mk hB
    have hFW := Aside0.mk hF
    clear hB
    cases hf : l.findIdx? ψ with
    | none =>
      rw [hf] at hK
      have HK := Aside0.mk hK
      have HO := Aside0.mk hR
      have HE := Aside0.mk (dels.all l ψ hf)
      clear hK hR hf hF c0 hs
      go_enter Try.func61, Try.ntmps61
      go_wp2_with (first | (go_at_call 53; (with_reducible refine (api_Entry_53.calls K A c l φ _ (-1) _ ?side1 ?side2 ?side3 HK.out).mono ?_); (case side1 => exact (Kd.R_reads' HO.out).2.2); (case side2 => exact (Kd.R_reads' HO.out).2.1); (case side3 => exact HFn.FnOfO.below hFW.out HB.out); rintro e w1 ⟨rfl, hb⟩; have n1 := Aside0.mk (Kd.R_below HO.out hb); have n2 := Aside0.mk (below_step HB.out hb); clear HO HB; have HO := n1; have HB := n2; clear n1 n2 hb))
      go_ret
      rw [HE.out]
      exact ⟨_, rfl, HO.out, HB.out⟩
    | some i0 =>
      rw [hf] at hK
      have HK := Aside0.mk hK
      obtain ⟨hi0, hfirst⟩ := dels.first l ψ i0 hf
      obtain ⟨ad, rfl, _⟩ := ((Kd.R_reads' hR).2.2).2.2 (by omega)
      obtain ⟨g, rfl⟩ := Kd.R_head hR
      have HO := Aside0.mk (HClear.R_only (ok' := fun k => k = g) (fun hm => by obtain rfl := k48_openM hm; exact k48_mkM _ _ _ _) hR rfl)
      have HL := Aside0.mk c0
      have HFI := Aside0.mk hfirst
      have HI0 := Aside0.mk hi0
      have W64 := Aside0.mk (show wrap64 ((i0 : Int) + 1) = (i0 : Int) + 1 from dels.wrap_of (by omega) (by omega))
      have hne : ((i0 : Int) == -1) = false := beq_eq_false_iff_ne.mpr (by omega)
      obtain ⟨gF, fnF, lbF, rfl, hfnF, hnmF, hbdF, hFF0⟩ := hF
      have hFF := Aside0.mk hFF0
      clear hK hR hf hFF0 c0 hi0 hfirst hs
      go_enter Try.func61, Try.ntmps61
      go_wp2_with (first | (go_at_call 53; (with_reducible refine (api_Entry_53.calls K (some ⟨g, 0, none⟩) c l φ _ (i0 : Int) _ ?side1 ?side2 ?side3 HK.out).mono ?_); (case side1 => exact (Kd.R_reads' HO.out).2.2); (case side2 => exact (Kd.R_reads' HO.out).2.1); (case side3 => exact HFn.FnOfO.below hFW.out HB.out); rintro e w1 ⟨rfl, hb⟩; have n1 := Aside0.mk (Kd.R_below HO.out hb); have n2 := Aside0.mk (below_step HB.out hb); clear HO HB; have HO := n1; have HB := n2; clear n1 n2 hb))
      go_loopg [5, 6, 7] l.length (fun gg v5 v6 _ W => ∃ (i j : Int) (l1 : List (S48)), v5 = .int .i64 i ∧ v6 = .int .i64 j ∧ Aside0 (0 ≤ i ∧ i < j ∧ j ≤ l.length ∧ (l.length : Int) - j ≤ gg ∧ l1.length = l.length) ∧ Aside0 (l1.take i.toNat = (l.take j.toNat).filter (fun x => !ψ x)) ∧ Aside0 (l1.drop j.toNat = l.drop j.toNat) ∧ Aside0 (Kd.R k48 48 W wF.heap.size (fun k => k = g) (.slice (some ⟨g, 0, none⟩) l.length c) l1) ∧ Aside0 (Below wF.heap.size wF W))
      case atStart => exact ⟨(i0 : Int), (i0 : Int) + 1, l, rfl, congrArg (Value.int .i64) W64.out, ⟨⟨by omega, by omega, by have := HI0.out; omega, by omega, rfl⟩⟩, ⟨by have := HFI.out; rwa [show ((i0 : Int)).toNat = i0 by omega, show ((i0 : Int) + 1).toNat = i0 + 1 by omega]⟩, ⟨rfl⟩, HO, HB⟩
      case round =>
        obtain ⟨i, j, l1, rfl, rfl, HN, H2, H3, HO, HB⟩ := hrel
        by_cases cj : j < (l.length : Int)
        · have cj0 : decide (j < (l.length : Int)) = true := decide_eq_true cj
          have hjn : j.toNat < l.length := by have := HN.out; omega
          obtain ⟨x, hx⟩ : ∃ x, l[j.toNat]? = some x := ⟨_, List.getElem?_eq_getElem hjn⟩
          have hx1 : l1[j.toNat]? = some x := by
            have := congrArg (fun q => q[0]?) H3.out
            simpa [List.getElem?_drop, hx] using this
          obtain ⟨hc0, hc1, hc2, hc3, hc4, hc5⟩ := dels.elem HO.out j (by have := HN.out; omega) cj x hx1
          have pj0 : (0 ≤ j) = True := eq_true (by have := HN.out; omega)
          have pj1 : (j < (l.length : Int)) = True := eq_true cj
          have WJ := Aside0.mk (show wrap64 (j + 1) = j + 1 from dels.wrap_of (by have := HN.out; omega) (by have := HN.out; have := HL.out; omega))
          have HX1 := Aside0.mk hx
          have HJ := Aside0.mk cj
          clear hx hx1 hjn
          cases hq : ψ x with
          | true =>
            go_wp2_with (first | ((with_reducible refine gate_dst (N := 7) rfl ?_); refine box_event ?hg (N := 7) ?hd (cs := #[.int .i64 0, .int .i64 0, .int .i64 0, .int .i64 0, .bool false, .bool false]) (t := 48) ?hr ?_; (case hd => rfl); (case hg => rfl); (case hr => first | (go_simp; done) | (go_simp; rfl)); intro gb hg w1 hbox hb; have hne : g ≠ gb := (by rw [hg]; exact fun he => absurd (Kd.R_lt HO.out g (by simp [Value.ownBlock])) (by omega)); have hge : wF.heap.size ≤ gb := (by rw [hg]; exact HB.out.size); have n1 := Aside0.mk (Kd.R_below HO.out hb); have n2 := Aside0.mk (below_step HB.out hb); clear HO HB; have HO := n1; have HB := n2; clear n1 n2; have HX := Aside0.mk hbox; clear hbox hb hg) | (refine HClear.box_store (w0 := wF) (W := w1) wF.heap.size rfl rfl 48 (.tmp 7) (.tmp 25) rfl (g := gb) (T := 48) (cs := #[.int .i64 0, .int .i64 0, .int .i64 0, .int .i64 0, .bool false, .bool false]) (.agg #[.int .i64 x.f0, .int .i64 x.f1, .int .i64 x.f2, .int .i64 x.f3, .bool x.f4, .bool x.f5]) [.int .i64 x.f0, .int .i64 x.f1, .int .i64 x.f2, .int .i64 x.f3, .bool x.f4, .bool x.f5] (by first | rfl | (simp [Act.eval, Act.put]; done)) (by first | rfl | (simp [Act.eval, Act.put]; done)) rfl (by kernel_rfl) (by simp [Value.oneCell']) HX.out rfl HB.out hge ?_; intro w2 hbox hb hgr; have n1 := Aside0.mk (Kd.R_grown HO.out hgr (fun k hk he => hne (by injection he with he; rw [← hk, he]))); clear HO HB HX; have HO := n1; have HB := Aside0.mk hb; have HX := Aside0.mk hbox; clear n1 hb hbox hgr; have hz0 : w2.cell? ⟨gb, 0, none⟩ = some (.int .i64 x.f0) := (blk_cell HX.out 0).trans rfl; have hz1 : w2.cell? ⟨gb, 1, none⟩ = some (.int .i64 x.f1) := (blk_cell HX.out 1).trans rfl; have hz2 : w2.cell? ⟨gb, 2, none⟩ = some (.int .i64 x.f2) := (blk_cell HX.out 2).trans rfl; have hz3 : w2.cell? ⟨gb, 3, none⟩ = some (.int .i64 x.f3) := (blk_cell HX.out 3).trans rfl; have hz4 : w2.cell? ⟨gb, 4, none⟩ = some (.bool x.f4) := (blk_cell HX.out 4).trans rfl; have hz5 : w2.cell? ⟨gb, 5, none⟩ = some (.bool x.f5) := (blk_cell HX.out 5).trans rfl) | ((with_reducible refine HFn.gate_calleeT (f := 1000053) (t := 26) rfl ?_); refine HFn.goesC_ (some 28) rfl rfl hfnF hnmF hbdF #[.agg #[.int .i64 x.f0, .int .i64 x.f1, .int .i64 x.f2, .int .i64 x.f3, .bool x.f4, .bool x.f5]] rfl (by first | rfl | simp [Act.eval]) (by (try simp only [List.map_toArray, List.map_cons, List.map_nil]); first | done | rfl) ?_; refine Calls.mono (hFF.out _ x _ ((HS.out x (List.mem_of_getElem? HX1.out)).trans (congrArg some hq)) HB.out) ?_; rintro e w3 ⟨rfl, hb⟩; refine ⟨_, rfl, ?_⟩; have n1 := Aside0.mk (Kd.R_below HO.out hb); have n2 := Aside0.mk (below_step HB.out hb); have n3 := Aside0.mk (blk_below HX.out hb); clear HO HB HX hz0 hz1 hz2 hz3 hz4 hz5; have HO := n1; have HB := n2; have HX := n3; clear n1 n2 n3 hb; unfold rF53; have hz0 : w3.cell? ⟨gb, 0, none⟩ = some (.int .i64 x.f0) := (blk_cell HX.out 0).trans rfl; have hz1 : w3.cell? ⟨gb, 1, none⟩ = some (.int .i64 x.f1) := (blk_cell HX.out 1).trans rfl; have hz2 : w3.cell? ⟨gb, 2, none⟩ = some (.int .i64 x.f2) := (blk_cell HX.out 2).trans rfl; have hz3 : w3.cell? ⟨gb, 3, none⟩ = some (.int .i64 x.f3) := (blk_cell HX.out 3).trans rfl; have hz4 : w3.cell? ⟨gb, 4, none⟩ = some (.bool x.f4) := (blk_cell HX.out 4).trans rfl; have hz5 : w3.cell? ⟨gb, 5, none⟩ = some (.bool x.f5) := (blk_cell HX.out 5).trans rfl))
            go_roundg (l.length - (j.toNat + 1))
            case measure => have := HN.out; have := HJ.out; omega
            case rel =>
              obtain ⟨h2, h3⟩ := dels.stay l l1 ψ i.toNat j.toNat x HX1.out hq H2.out H3.out
              have e : (j + 1).toNat = j.toNat + 1 := by have := HN.out; omega
              exact ⟨i, j + 1, l1, rfl, congrArg (Value.int .i64) WJ.out, ⟨by have := HN.out; have := HJ.out; omega⟩, ⟨by rw [e]; exact h2⟩, ⟨by rw [e]; exact h3⟩, HO, HB⟩
          | false =>
            have hin : i.toNat < l1.length := by have := HN.out; omega
            obtain ⟨y, hy⟩ : ∃ y, l1[i.toNat]? = some y := ⟨_, List.getElem?_eq_getElem hin⟩
            have HY := Aside0.mk hy
            have pi0 : (0 ≤ i) = True := eq_true (by have := HN.out; omega)
            have pi1 : (i < (l.length : Int)) = True := eq_true (by have := HN.out; omega)
            have WI := Aside0.mk (show wrap64 (i + 1) = i + 1 from dels.wrap_of (by have := HN.out; omega) (by have := HN.out; have := HL.out; omega))
            clear hin hy
            go_wp2_with (first | ((with_reducible refine gate_dst (N := 7) rfl ?_); refine box_event ?hg (N := 7) ?hd (cs := #[.int .i64 0, .int .i64 0, .int .i64 0, .int .i64 0, .bool false, .bool false]) (t := 48) ?hr ?_; (case hd => rfl); (case hg => rfl); (case hr => first | (go_simp; done) | (go_simp; rfl)); intro gb hg w1 hbox hb; have hne : g ≠ gb := (by rw [hg]; exact fun he => absurd (Kd.R_lt HO.out g (by simp [Value.ownBlock])) (by omega)); have hge : wF.heap.size ≤ gb := (by rw [hg]; exact HB.out.size); have n1 := Aside0.mk (Kd.R_below HO.out hb); have n2 := Aside0.mk (below_step HB.out hb); clear HO HB; have HO := n1; have HB := n2; clear n1 n2; have HX := Aside0.mk hbox; clear hbox hb hg) | (refine HClear.box_store (w0 := wF) (W := w1) wF.heap.size rfl rfl 48 (.tmp 7) (.tmp 25) rfl (g := gb) (T := 48) (cs := #[.int .i64 0, .int .i64 0, .int .i64 0, .int .i64 0, .bool false, .bool false]) (.agg #[.int .i64 x.f0, .int .i64 x.f1, .int .i64 x.f2, .int .i64 x.f3, .bool x.f4, .bool x.f5]) [.int .i64 x.f0, .int .i64 x.f1, .int .i64 x.f2, .int .i64 x.f3, .bool x.f4, .bool x.f5] (by first | rfl | (simp [Act.eval, Act.put]; done)) (by first | rfl | (simp [Act.eval, Act.put]; done)) rfl (by kernel_rfl) (by simp [Value.oneCell']) HX.out rfl HB.out hge ?_; intro w2 hbox hb hgr; have n1 := Aside0.mk (Kd.R_grown HO.out hgr (fun k hk he => hne (by injection he with he; rw [← hk, he]))); clear HO HB HX; have HO := n1; have HB := Aside0.mk hb; have HX := Aside0.mk hbox; clear n1 hb hbox hgr; have hz0 : w2.cell? ⟨gb, 0, none⟩ = some (.int .i64 x.f0) := (blk_cell HX.out 0).trans rfl; have hz1 : w2.cell? ⟨gb, 1, none⟩ = some (.int .i64 x.f1) := (blk_cell HX.out 1).trans rfl; have hz2 : w2.cell? ⟨gb, 2, none⟩ = some (.int .i64 x.f2) := (blk_cell HX.out 2).trans rfl; have hz3 : w2.cell? ⟨gb, 3, none⟩ = some (.int .i64 x.f3) := (blk_cell HX.out 3).trans rfl; have hz4 : w2.cell? ⟨gb, 4, none⟩ = some (.bool x.f4) := (blk_cell HX.out 4).trans rfl; have hz5 : w2.cell? ⟨gb, 5, none⟩ = some (.bool x.f5) := (blk_cell HX.out 5).trans rfl) | ((with_reducible refine HFn.gate_calleeT (f := 1000053) (t := 26) rfl ?_); refine HFn.goesC_ (some 28) rfl rfl hfnF hnmF hbdF #[.agg #[.int .i64 x.f0, .int .i64 x.f1, .int .i64 x.f2, .int .i64 x.f3, .bool x.f4, .bool x.f5]] rfl (by first | rfl | simp [Act.eval]) (by (try simp only [List.map_toArray, List.map_cons, List.map_nil]); first | done | rfl) ?_; refine Calls.mono (hFF.out _ x _ ((HS.out x (List.mem_of_getElem? HX1.out)).trans (congrArg some hq)) HB.out) ?_; rintro e w3 ⟨rfl, hb⟩; refine ⟨_, rfl, ?_⟩; have n1 := Aside0.mk (Kd.R_below HO.out hb); have n2 := Aside0.mk (below_step HB.out hb); have n3 := Aside0.mk (blk_below HX.out hb); clear HO HB HX hz0 hz1 hz2 hz3 hz4 hz5; have HO := n1; have HB := n2; have HX := n3; clear n1 n2 n3 hb; unfold rF53; have hz0 : w3.cell? ⟨gb, 0, none⟩ = some (.int .i64 x.f0) := (blk_cell HX.out 0).trans rfl; have hz1 : w3.cell? ⟨gb, 1, none⟩ = some (.int .i64 x.f1) := (blk_cell HX.out 1).trans rfl; have hz2 : w3.cell? ⟨gb, 2, none⟩ = some (.int .i64 x.f2) := (blk_cell HX.out 2).trans rfl; have hz3 : w3.cell? ⟨gb, 3, none⟩ = some (.int .i64 x.f3) := (blk_cell HX.out 3).trans rfl; have hz4 : w3.cell? ⟨gb, 4, none⟩ = some (.bool x.f4) := (blk_cell HX.out 4).trans rfl; have hz5 : w3.cell? ⟨gb, 5, none⟩ = some (.bool x.f5) := (blk_cell HX.out 5).trans rfl) | (with_reducible refine gate_store (t := 48) (p := 33) rfl ?_); go_loud (refine Kd.R_store k48 (w0 := wF) (W := w3) wF.heap.size rfl rfl 48 (.tmp 33) (.tmp 32) rfl 48 (g := g) (n := l.length) (cap := c) (o' := i.toNat * 6) i 0 l1 x (.agg #[.int .i64 x.f0, .int .i64 x.f1, .int .i64 x.f2, .int .i64 x.f3, .bool x.f4, .bool x.f5]) [.int .i64 x.f0, .int .i64 x.f1, .int .i64 x.f2, .int .i64 x.f3, .bool x.f4, .bool x.f5] [.int .i64 y.f0, .int .i64 y.f1, .int .i64 y.f2, .int .i64 y.f3, .bool y.f4, .bool y.f5] (fun k => k = g) (fun _ => False) (by first | rfl | (simp [Act.eval, Act.put]; done)) rfl (by first | rfl | (simp [Act.eval, Act.put]; done)) rfl (by kernel_rfl) (by simp [Value.oneCell']) HO.out (by have := HN.out; omega) (by have := HN.out; omega) rfl ?sc (show 0 + 6 ≤ 6 from Nat.le_refl _) ?sM (fun _ hk => hk.elim) HB.out ?_; (case sc => exact dels.cells HO.out i (by have := HN.out; omega) (by have := HN.out; omega) y HY.out); (case sM => exact k48_mkM _ _ _ x); intro w4 ho hb hgr; clear HO HB HX; have HO := Aside0.mk ho; have HB := Aside0.mk hb; clear ho hb hgr))
            go_roundg (l.length - (j.toNat + 1))
            case measure => have := HN.out; have := HJ.out; omega
            case rel =>
              obtain ⟨h2, h3⟩ := dels.move l l1 ψ i.toNat j.toNat x (by have := HN.out; omega) (by have := HN.out; have := HJ.out; omega) HX1.out hq H2.out H3.out
              have e : (j + 1).toNat = j.toNat + 1 := by have := HN.out; omega
              have e2 : (i + 1).toNat = i.toNat + 1 := by have := HN.out; omega
              exact ⟨i + 1, j + 1, l1.set i.toNat x, congrArg (Value.int .i64) WI.out, congrArg (Value.int .i64) WJ.out, ⟨by have := HN.out; have := HJ.out; rw [List.length_set]; omega⟩, ⟨by rw [e, e2]; exact h2⟩, ⟨by rw [e]; exact h3⟩, HO, HB⟩
        · have cj0 : decide (j < (l.length : Int)) = false := decide_eq_false cj
          obtain ⟨i1, hi1, hpp⟩ := Option.map_eq_some_iff.mp infoE
          have hsz : i1.size = 6 := congrArg (fun p => p.2.1) hpp
          have hcut0 := cut_from (P := Try.prog) 49 48 .i64 Try.underlying49 hi1 6 hsz (some ⟨g, 0, none⟩) l.length c i (by have := HN.out; omega) (by have := HN.out; omega)
          have hcut1 := cut_to (P := Try.prog) 49 48 .i64 Try.underlying49 hi1 (some ⟨g, 0, none⟩) l.length c i (by have := HN.out; omega) (by have := HN.out; omega) (Kd.R_reads' HO.out).2.1
          rw [if_neg (by have := HN.out; have := (Kd.R_reads' HO.out).2.1; omega), Option.map_some, add_at, Nat.zero_add] at hcut0
          obtain ⟨m1, hm1⟩ : ∃ m, i.toNat = m := ⟨_, rfl⟩
          obtain ⟨off, hoff⟩ : ∃ m, m1 * 6 = m := ⟨_, rfl⟩
          obtain ⟨m2, hm2⟩ : ∃ m, l.length - m1 = m := ⟨_, rfl⟩
          obtain ⟨c2, hc2⟩ : ∃ m, c - m1 = m := ⟨_, rfl⟩
          have HM := Aside0.mk (show m1 * 6 = off ∧ l.length - m1 = m2 ∧ c - m1 = c2 ∧ i = (m1 : Int) ∧ m1 < l.length from ⟨hoff, hm2, hc2, by have := HN.out; omega, by have := HN.out; omega⟩)
          have HE : Aside0 (l1.take m1 = l.filter (fun x => !ψ x)) := ⟨by have h2 := H2.out; have hn := HN.out; rw [show j.toNat = l.length by omega, List.take_length, hm1] at h2; exact h2⟩
          rw [hm1, hoff, hm2, hc2] at hcut0
          rw [hm1] at hcut1
          clear hm1 hoff hm2 hc2 hsz hpp hi1
          clear i1
          go_wp2_with (first | (refine HClear.clear_event k48 (w0 := wF) (W := wr) wF.heap.size rfl (.tmp 38) 49 48 (.agg #[.int .i64 0, .int .i64 0, .int .i64 0, .int .i64 0, .bool false, .bool false]) rfl Try.underlying49 zeroE rfl oneE (g := g) (off := off) (m := m2) (c := c2) (n := l.length) (cap := c) (i := m1) (xs := l1) (ok := fun k => k = g) (by first | rfl | (simp [Act.eval, Act.put]; done)) ?s1 ?s2 ?s3 ?s4 HO.out HB.out ?_; (case s1 => exact HM.out.1.symm); (case s2 => have := HM.out; omega); (case s3 => have := HM.out; omega); (case s4 => have := HM.out; have := (Kd.R_reads' HO.out).2.1; omega); intro w4 ho hb hgr; clear HO HB; have HO := Aside0.mk ho; have HB := Aside0.mk hb; clear ho hb hgr))
          go_ret
          exact ⟨_, rfl, by rw [← HE.out]; have hl : (l1.take m1).length = m1 := by { have := HM.out; have := HN.out; rw [List.length_take]; omega }
                            have := Kd.R_mono HO.out (fun _ _ => trivial : ∀ k, _ → (fun _ : Nat => True) k)
                            exact this, HB.out⟩


end Go.Proofs.Ytlmjjkggoemabaa.Qt
