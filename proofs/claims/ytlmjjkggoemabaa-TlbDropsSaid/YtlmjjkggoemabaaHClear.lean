/- Steps of the walk on rows of structs: 'clear' of a row's tail, a store into a whole block, a row told of its own block alone. -/
import Derived.Lib.SliceRun
import Derived.Test.YtlmjjkggoemabaaWMore
namespace Go.Proofs.Ytlmjjkggoemabaa.HClear
open Go.RowKit Go.Proofs.YtlmjjkggoemabaaW.PrintWords Go.Proofs.YtlmjjkggoemabaaW.PrintLast Go.Proofs.YtlmjjkggoemabaaW.PrintMore
set_option linter.unusedVariables false
section
variable {P : Program} {ops : Array Oper} {rest : List Oper} {o : Oper} {a : Act} {Q : Exit → Act → World → Prop} {α : Type}
/-- A flat row: told of its own block alone. -/
theorem R_only {d : Kd α} {e base : Nat} {ok ok' : Nat → Prop} {w : World} {g n c : Nat} {xs : List α} (hd : ∀ {ok1 ok2 : Nat → Prop} {x : α} {cs : List Value}, d.M w base ok1 x cs → d.M w base ok2 x cs) (h : d.R e w base ok (.slice (some ⟨g, 0, none⟩) n c) xs) (hok : ok' g) : d.R e w base ok' (.slice (some ⟨g, 0, none⟩) n c) xs := by
  obtain ⟨h0, inner, hown, hr⟩ := h
  exact ⟨fun k hk => by injection hk with hk; rw [← hk]; exact hok, inner, hown, hr.imp_ (fun _ _ hm => hd hm)⟩
/-- A store into a row's cells behind its elements. -/
theorem R_spare {d : Kd α} {e base g n cap off : Nat} {ok : Nat → Prop} {W : World} {xs : List α} (h : d.R e W base ok (.slice (some ⟨g, 0, none⟩) n cap) xs) (seg : List Value) (ho : n * d.sz ≤ off) (hfit : off + seg.length ≤ cap * d.sz) :
    d.R e (W.setCells g off seg) base ok (.slice (some ⟨g, 0, none⟩) n cap) xs := by
  obtain ⟨hok, inner, hown, hr⟩ := h
  obtain ⟨ho1, ho2⟩ := hown
  rcases ho2 with ⟨hv, _⟩ | ⟨g', cap', cur, hv, hb, hh, hnc', hcm, hcs, ht⟩
  · cases hv
  injection hv with ha hn hc
  injection ha with ha
  injection ha with hg
  subst hg; subst hc
  obtain ⟨cur', h3, h4, h5⟩ := setCells_row seg off W cur hh (by omega)
  have he : xs.length * d.sz = n * d.sz := by rw [hn]
  have hfar : ∀ k, k ≠ g → (W.setCells g off seg).heap[k]? = W.heap[k]? := fun k hk => setCells_far seg _ k hk
  have hgo : (Value.slice (some ⟨g, 0, none⟩) n cap).ownBlock = some g := by simp [Value.ownBlock]
  refine ⟨hok, inner, ⟨ho1, .inr ⟨g, cap, cur', by rw [hn], hb, h3, hnc', hcm, by rw [h4, hcs], ?_⟩⟩, hr.imp_ (fun _ _ hp => d.M_move (fun k hk => hfar k (fun he => hk.2 (by rw [hgo, he]))) hp)⟩
  have e1 : (cur.toList.take off).length = min off cur.size := by simp
  have e2 : xs.length * d.sz ≤ (cur.toList.take off).length := by rw [e1]; omega
  rw [h5, ← ht, List.append_assoc, List.take_append_of_le_length e2, List.take_take, Nat.min_eq_left (by omega)]
theorem zeros_len (z : Array Value) (m : Nat) : (Builtin.zeroCells z m).toList.length = m * z.size := by simp [Builtin.zeroCells]
theorem zeros_one {z : Array Value} (h1 : ∀ i, i < z.size → (z[i]!).oneCell' = true) (m : Nat) : ∀ q ∈ (Builtin.zeroCells z m).toList, q.oneCell' = true := by
  intro q hq
  simp only [Builtin.zeroCells, Array.toList_map, List.mem_map] at hq
  obtain ⟨i, hi, rfl⟩ := hq
  have hi' : i < m * z.size := by simpa using hi
  have hz : 0 < z.size := by
    rcases Nat.eq_zero_or_pos z.size with h | h
    · rw [h] at hi'; omega
    · exact h
  exact h1 _ (Nat.mod_lt _ hz)
/-- 'clear' of a row's tail, and the row cut to what is left. -/
theorem clear_event (d : Kd α) {w0 W : World} (base : Nat) (hgd : o.guard = none) (s : Operand) (t e : TypeId) (z : Value)
    (ho : o.op = .call { callee := .builtin .clear, args := #[s], argTypes := #[t] }) (ht : P.underlying t = some (.slice e)) (hz : ∀ w, (zeroValue e).run P w = .ok z w) (hzs : z.cells.size = d.sz) (h1 : ∀ i, i < z.cells.size → (z.cells[i]!).oneCell' = true)
    {g off m c n cap i : Nat} {xs : List α} {ok : Nat → Prop} (hs : a.eval s = .slice (some ⟨g, off, none⟩) m c) (hoff : off = i * d.sz) (hi : i ≤ n) (hm0 : 0 < m) (hm : i + m ≤ cap)
    (HO : d.R e W base ok (.slice (some ⟨g, 0, none⟩) n cap) xs) (HB : Below base w0 W)
    (h : ∀ w1, d.R e w1 base ok (.slice (some ⟨g, 0, none⟩) i cap) (xs.take i) → Below base w0 w1 → W.grownBy w1 (some g) → wpList P ops Q rest (a.put o.dst (.tuple #[])) w1) : wpList P ops Q (o :: rest) a W := by
  obtain ⟨hn, hnc, _⟩ := Kd.R_reads' HO
  have hbg : base ≤ g := Kd.R_base HO g (by simp [Value.ownBlock])
  have HT := Kd.R_take HO (show i ≤ xs.length by omega)
  have hlen := zeros_len z.cells m
  have hfit : off + (Builtin.zeroCells z.cells m).toList.length ≤ cap * d.sz := by
    rw [hlen, hzs, hoff, ← Nat.add_mul]
    exact Nat.mul_le_mul_right _ hm
  have HS := R_spare HT (Builtin.zeroCells z.cells m).toList (by rw [hoff]; exact Nat.le_refl _) hfit
  obtain ⟨s1, s2, s3, s4⟩ := setCells_same g (Builtin.zeroCells z.cells m).toList off W
  have hgr : W.grownBy (W.setCells g off (Builtin.zeroCells z.cells m).toList) (some g) := ⟨s1, s2, s3, by rw [s4]; exact Nat.le_refl _, fun k _ hk => setCells_far _ _ k (fun he => hk (by rw [he]))⟩
  have hB : Below base w0 (W.setCells g off (Builtin.zeroCells z.cells m).toList) := HB.trans ⟨s1, s2, s3, by rw [s4]; exact Nat.le_refl _, fun k hk => setCells_far _ _ k (by omega)⟩
  refine wpList_plain hgd fun K hK => ?_
  have hrun : (Builtin.clear_ #[t] o.type #[.slice (some ⟨g, off, none⟩) m c]).run P W = .ok (.tuple #[]) (W.setCells g off (Builtin.zeroCells z.cells m).toList) := by
    obtain ⟨_, inner, hown, hr⟩ := HO
    rcases hown.2 with ⟨hv, _⟩ | ⟨g', cap', cur, hv, hb, hh, hnc', hcm, hcs, _⟩
    · cases hv
    injection hv with ha _ hc
    injection ha with ha
    injection ha with hg'
    subst hg'; subst hc
    have hst := run_storeCells_cells (P := P) g off (Builtin.zeroCells z.cells m).toList 0 W (fun j hj => by rw [cell_of_row W g _ cur e (0, 0) hh]; simp; omega) (fun j _ => blk_frozen hh _) (zeros_one h1 m)
    simp only [Nat.add_zero] at hst
    obtain ⟨m', rfl⟩ : ∃ m', m = m' + 1 := ⟨m - 1, by omega⟩
    simp [Builtin.clear_, run_underlying ht, hz, hst]
  unfold Oper.wp
  simp [execOp, ho, resolve, invoke, builtin, hs, hrun, Result.andThen]
  exact hK _ _ (h _ HS hB hgr)
/-- A store of a whole struct into a block of its own. -/
theorem box_store {w0 W : World} (base : Nat) (hN : o.dst = none) (hgd : o.guard = none) (t : TypeId) (p x : Operand) (ho : o.op = .store t p x) {g : Nat} {T : TypeId} {cs : Array Value} (u : Value) (seg : List Value)
    (haddr : a.eval p = .pointer (some ⟨g, 0, none⟩)) (hx : a.eval x = u) (hu : u.cells.toList = seg) (ht : (P.info? t).map (·.size) = some seg.length) (h1 : ∀ q ∈ seg, q.oneCell' = true)
    (hb : W.heap[g]? = some (.cells cs T (0, 0))) (hs : cs.size = seg.length) (HB : Below base w0 W) (hg : base ≤ g)
    (h : ∀ w1, w1.heap[g]? = some (.cells seg.toArray T (0, 0)) → Below base w0 w1 → W.grownBy w1 (some g) → wpList P ops Q rest a w1) : wpList P ops Q (o :: rest) a W := by
  obtain ⟨s1, s2, s3, s4⟩ := setCells_same g seg 0 W
  obtain ⟨cur', h3, h4, h5⟩ := setCells_row seg 0 W cs hb (by omega)
  have e : cur' = seg.toArray := by
    apply Array.toList_inj.mp
    rw [h5, List.drop_eq_nil_of_le (by rw [Array.length_toList]; omega)]
    simp
  subst e
  have hgr : W.grownBy (W.setCells g 0 seg) (some g) := ⟨s1, s2, s3, by rw [s4]; exact Nat.le_refl _, fun k _ hk => setCells_far _ _ k (fun he => hk (by rw [he]))⟩
  have hB : Below base w0 (W.setCells g 0 seg) := HB.trans ⟨s1, s2, s3, by rw [s4]; exact Nat.le_refl _, fun k hk => setCells_far _ _ k (by omega)⟩
  refine wpList_plain hgd fun K hK => ?_
  have hrun : (Instr.storeAt t (.pointer (some ⟨g, 0, none⟩)) u).run P W = .ok () (W.setCells g 0 seg) := run_store_run t u seg hb hu ht (by omega) h1
  unfold Oper.wp execOp
  simp only [ho, haddr, hx, Sem.run_bind, Sem.run_pure, Result.andThen_ok, hrun]
  show K (a.put o.dst undef) _
  rw [hN]
  exact hK _ _ (h _ h3 hB hgr)
end
end Go.Proofs.Ytlmjjkggoemabaa.HClear
