/- scan.Broken tells how many free frames are in no free run of the order: at every order from 0 to 9, where the frames may be. After the worked callers of a range over a function. -/
import Derived.Test.YtlmjjkggoemabaaHChunk
namespace Go.Proofs.Ytlmjjkggoemabaa.HBroken
open Go.RowKit Go.Shelf Go.Proofs.YtlmjjkggoemabaaW.PrintWords Go.Proofs.YtlmjjkggoemabaaW.PrintLast Go.Proofs.YtlmjjkggoemabaaW.PrintMore Go.Proofs.Ytlmjjkggoemabaa.HChunk
attribute [local go_sem] Oper.semAt_some
set_option linter.unusedVariables false
set_option linter.unusedSimpArgs false

theorem cell_alloc_l {W : World} {a : Addr} {v : Value} (o : Obj) (h : W.cell? a = some v) : (W.alloc o).cell? a = some v := cell_kept h (World.grownBy_alloc W o none) (fun r e => by cases e)
theorem frozen_alloc_l {W : World} {a : Addr} {v : Value} (o : Obj) (h : W.cell? a = some v) (hf : W.frozen? a = false) : (W.alloc o).frozen? a = false := (frozen_kept h (World.grownBy_alloc W o none) (fun r e => by cases e)).trans hf

/-! ### what is counted -/
def cnt (l : List Bool) : Nat := l.countP id
def pt (f : List Bool) (p j : Nat) : List Bool := (f.drop (j * p)).take p
def one (f : List Bool) (p j : Nat) : Nat := if (pt f p j).length = p ∧ (pt f p j).contains false = false then 0 else cnt (pt f p j)
def tot (f : List Bool) (p : Nat) (pre : List Nat) : Nat := (pre.map (one f p)).sum
def rounds (len p : Nat) : Nat := (len + p - 1) / p
theorem tot_snoc (f : List Bool) (p : Nat) (pre : List Nat) (x : Nat) : tot f p (pre ++ [x]) = tot f p pre + one f p x := by simp [tot]
theorem pt_len (f : List Bool) (p j : Nat) : (pt f p j).length = min p (f.length - j * p) := by simp [pt]
theorem one_le (f : List Bool) (p j : Nat) : one f p j ≤ p := by
  unfold one
  split
  · exact Nat.zero_le _
  · have := List.countP_le_length (p := id) (l := pt f p j)
    rw [pt_len] at this
    unfold cnt
    omega
theorem tot_le (f : List Bool) (p : Nat) : ∀ pre : List Nat, tot f p pre ≤ pre.length * p
  | [] => by simp [tot]
  | x :: pre => by
    have := tot_le f p pre
    have h1 := one_le f p x
    simp only [tot, List.map_cons, List.sum_cons, List.length_cons, Nat.succ_mul] at *
    omega
theorem rounds_lt (len p : Nat) (hp : 0 < p) (k : Nat) (h : k * p < len) : k < rounds len p := by
  unfold rounds
  rw [Nat.lt_div_iff_mul_lt hp]
  have : k * p = p * k := Nat.mul_comm _ _
  omega
theorem rounds_eq (len p : Nat) (hp : 0 < p) (k : Nat) (h : ¬ k * p < len) (hk : k ≤ rounds len p) : k = rounds len p := by
  rcases Nat.lt_or_ge k (rounds len p) with h1 | h1
  · unfold rounds at h1
    rw [Nat.lt_div_iff_mul_lt hp] at h1
    have : k * p = p * k := Nat.mul_comm _ _
    omega
  · omega
theorem cnt_succ (l : List Bool) (j : Nat) (h : j < l.length) : cnt (l.take (j + 1)) = cnt (l.take j) + (if l.getD j false = true then 1 else 0) := by
  unfold cnt
  rw [List.take_add_one, List.countP_append, List.getD_eq_getElem?_getD, List.getElem?_eq_getElem h]
  simp
theorem cnt_le (l : List Bool) (j : Nat) : cnt (l.take j) ≤ l.length := by
  unfold cnt
  refine Nat.le_trans List.countP_le_length ?_
  rw [List.length_take]
  omega

/-! ### slices.Index of false -/
theorem index_loop (l : List Bool) (hl : l.length ≤ 1048576) : ∀ (suf pre : List Bool), l = pre ++ suf → ∃ r, Q.slices_Index_bool_bool.l0 (suf.length + 1) l false (l.length : Int) (pre.length : Int) = some r ∧ decide (0 ≤ r) = suf.contains false
  | [], pre, h => by
    subst h
    exact ⟨-1, by simp [Q.slices_Index_bool_bool.l0], by simp⟩
  | x :: suf, pre, h => by
    have hlen : l.length = pre.length + (suf.length + 1) := by rw [h]; simp
    have hx : rdOf false l (pre.length : Int) = x := by rw [h]; simp [rdOf]
    rw [show (x :: suf).length + 1 = (suf.length + 1) + 1 from rfl]
    simp only [Q.slices_Index_bool_bool.l0]
    rw [if_pos (by omega), if_pos (by omega), if_pos (by omega), hx]
    cases x
    · exact ⟨_, if_pos rfl, by simp⟩
    · obtain ⟨r, h1, h2⟩ := index_loop l hl suf (pre ++ [true]) (by rw [h]; simp)
      have hw : wrap64 ((pre.length : Int) + 1) = ((pre ++ [true]).length : Int) := by
        unfold wrap64; simp; omega
      exact ⟨r, by rw [if_neg (by decide), hw]; exact h1, by rw [h2]; simp⟩
theorem index_false (l : List Bool) (hl : l.length ≤ 1048576) : ∃ r, Q.slices_Index_bool_bool.f (l.length + 1) l false = some r ∧ decide (0 ≤ r) = l.contains false := by
  obtain ⟨r, h1, h2⟩ := index_loop l hl l [] rfl
  exact ⟨r, h1, h2⟩
theorem has_calls (l0 : List Bool) (hl : l0.length ≤ 1048576) (A0 : Option Addr) (c0 : Nat) (w : World) (hr : Kd.bool.C w A0 l0.length l0) (hc : l0.length ≤ c0) :
    Calls Try.prog 42 #[.slice A0 l0.length c0, .bool false] w fun e w' => e = .returned (.bool (l0.contains false)) ∧ Drawn0 w w' := by
  obtain ⟨r, h1, h2⟩ := index_false l0 hl
  have := contains_calls _ A0 c0 l0 r w hr hc h1
  rw [h2] at this
  exact this

theorem rdOf_nat (l : List Bool) (j : Nat) : rdOf false l (j : Int) = l.getD j false := by simp [rdOf]
theorem add_at (g o j : Nat) : (⟨g, o, none⟩ : Addr).add (j : Int).toNat = ⟨g, o + j, none⟩ := by
  unfold Addr.add
  rw [Int.toNat_natCast]
  split
  · subst j; rfl
  · rfl
theorem keeps_drewN (W : World) (m : Nat) : KeepsOthers W (W.drewN m) := ⟨Nat.le_refl _, fun _ _ h _ => h⟩
theorem kp_drewN {a b : Nat} (W : World) (m : Nat) : Kp a b W (W.drewN m) := ⟨fun _ h => h, fun _ h => h⟩
theorem Kp.refl {a b : Nat} (W : World) : Kp a b W W := ⟨fun _ h => h, fun _ h => h⟩
theorem Kp_set (W : World) (n1 : Nat) (v : Value) : Kp (n1 + 1) (n1 + 1 + 1) W (W.setCell ⟨n1, 0, none⟩ v) :=
  ⟨fun _ h => (World.cell?_setCell_far W ⟨n1, 0, none⟩ ⟨n1 + 1, 0, none⟩ v (show n1 ≠ n1 + 1 by omega)).trans h, fun _ h => (World.cell?_setCell_far W ⟨n1, 0, none⟩ ⟨n1 + 1 + 1, 0, none⟩ v (show n1 ≠ n1 + 1 + 1 by omega)).trans h⟩
theorem own_addr {w : World} {base e size n c : Nat} {A : Option Addr} {xs : List Value} (h : w.ownsRow base e size (.slice A n c) n xs) (hn : 0 < n) : ∃ g, A = some ⟨g, 0, none⟩ ∧ g < w.heap.size := by
  rcases h.2 with ⟨e, _⟩ | ⟨g, cap, cur, e, hg, hh, r⟩
  · cases e
    omega
  · cases e
    exact ⟨g, rfl, (Array.getElem?_eq_some_iff.1 hh).1⟩
theorem pt_reads {w : World} {g : Nat} {f : List Bool} (h : Kd.bool.C w (some ⟨g, 0, none⟩) f.length f) (p x : Nat) : Kd.bool.C w (some ⟨g, x * p, none⟩) (pt f p x).length (pt f p x) := by
  refine ⟨rfl, ?_, fun _ => ⟨_, rfl, fun j v hj => ?_⟩⟩
  · have := h.2.1
    rw [pt_len]
    omega
  · have hv : f[x * p + j]? = some v := by
      unfold pt at hj
      rw [List.getElem?_take] at hj
      split at hj
      · rw [List.getElem?_drop] at hj
        exact hj
      · cases hj
    have hlen : x * p + j < f.length := (List.getElem?_eq_some_iff.1 hv).1
    obtain ⟨ad, ha, hc⟩ := h.2.2 (by omega)
    cases ha
    obtain ⟨c, h1, h2, h3⟩ := hc _ v hv
    refine ⟨c, h1, h2, fun i u hu => ?_⟩
    have := h3 i u hu
    have e : (Addr.add ⟨g, 0, none⟩ ((x * p + j) * Kd.bool.sz + i)) = Addr.add ⟨g, x * p, none⟩ (j * Kd.bool.sz + i) := by
      have e1 : Kd.bool.sz = 1 := rfl
      rw [e1, show (x * p + j) * 1 + i = x * p + (j + i) by omega, show j * 1 + i = j + i by omega]
      simp [Addr.add]
      by_cases hji : j = 0 ∧ i = 0
      · rw [if_pos hji]
        obtain ⟨rfl, rfl⟩ := hji
        by_cases hx : x * p = 0 <;> simp [hx]
      · rw [if_neg hji, if_neg (fun h => hji h.2)]
    rw [← e]
    exact this
theorem part_eq (g : Nat) (f : List Bool) (p x : Nat) : HChunk.part g 0 f.length p x = Value.slice (some ⟨g, x * p, none⟩) (pt f p x).length (pt f p x).length := by
  unfold HChunk.part
  rw [pt_len, Nat.zero_add]

set_option maxRecDepth 100000 in
set_option maxHeartbeats 8000000 in
theorem broken_yes (k : Nat) (a0 : Int) (A1 : Option Addr) (c1 : Nat) (l1 : List Q.S41) (a2 : Int) (f m : List Bool) (w : World) (hr1 : Kd.C Q.k41 w A1 l1.length l1) (hc1 : l1.length ≤ c1)
    (hm : Q.scan_marked.f k a0 l1 [] = some (f, m, true)) (h0 : 0 ≤ a2) (h9 : a2 ≤ 9) (hf : 0 < f.length) (hf2 : f.length ≤ 1048576) :
    Calls Try.prog 17 #[.int .i64 a0, .slice A1 l1.length c1, .int .i64 a2] w fun e w' => e = .returned (.tuple #[.int .i64 (tot f (2 ^ a2.toNat) (List.range (rounds f.length (2 ^ a2.toNat))) : Nat), .nilIface]) ∧ Below w.heap.size w w' := by
  obtain ⟨p, hp⟩ : ∃ p, 2 ^ a2.toNat = p := ⟨_, rfl⟩
  have hp0 : 0 < p := by rw [← hp]; exact Nat.two_pow_pos _
  have hp9 : p ≤ 512 := by rw [← hp]; exact Nat.pow_le_pow_right (by decide) (show a2.toNat ≤ 9 by omega)
  have hsh : wrap64 ((2 : Int) ^ a2.toNat) = (p : Int) := by
    have : ((2 : Int) ^ a2.toNat) = ((2 ^ a2.toNat : Nat) : Int) := by push_cast; rfl
    rw [this, hp]
    unfold wrap64
    omega
  rw [hp]
  have hb0 := (Below.refl w.heap.size w).alloc (Nat.le_refl _) (.cells #[.int .i64 a2] 3)
  have hmc : ∀ W, Below w.heap.size w W → Calls Try.prog 37 #[.int .i64 a0, .slice A1 l1.length c1, .slice none 0 0] W fun e w' => ∃ v0 v1, e = .returned (.tuple #[v0, v1, .bool true]) ∧ Kd.bool.R 4 w' W.heap.size (fun k => some k ≠ v1.ownBlock) v0 f ∧ Below W.heap.size W w' := fun W hb =>
    (Q.scan_marked.calls k a0 A1 c1 l1 none 0 [] f m true W (Kd.C_below hr1 hb) hc1 (Kd.C_nil _ _) (Nat.le_refl _) hm).mono (fun e w' ⟨v0, v1, h1, h2, _, h3⟩ => ⟨v0, v1, h1, h2, h3⟩)
  have bO := Boxed.new w 3 (.int .i64 a2)
  refine (callsIn_wide (n := 3)).1 ?_
  refine callsIn_of_wp_marks Try.func17 rfl trivial ?_ rfl
  simp only [Try.ntmps17, List.size_toArray, List.length_cons, List.length_nil, Nat.reduceAdd, Nat.reduceSub, Array.replicate_succ, Array.replicate_zero, List.push_toArray, List.append_toArray, List.nil_append, List.cons_append]
  obtain ⟨W0, hW0⟩ : ∃ W0, w.alloc (.cells #[.int .i64 a2] 3) = W0 := ⟨_, rfl⟩
  rw [hW0] at hb0 bO
  gi_wp2_with (first
    | (refine ⟨trivial, ?_⟩; gi_at_call 37; refine (callsIn_wide.2 (hmc _ hb0)).mono ?_; rintro e w1 ⟨v0, v1, rfl, hR0, hb1⟩; obtain ⟨A, c, rfl, hAc, hC⟩ := Kd.R_reads hR0; obtain ⟨_, inner, ho, _⟩ := hR0; obtain ⟨g, rfl, hg⟩ := own_addr ho hf; have hc2 := pw_cell_below hb1 bO.cell; have hc3 := cell_alloc_l (.cells #[.int .i64 0] 3) hc2)
    | (refine ⟨trivial, ?_⟩; gi_at_call 41; refine (chunk_in 2 (some ⟨g, 0, none⟩) f.length c p (by omega) _).mono ?_; rintro e w2 ⟨rfl, rfl⟩))
  obtain ⟨n1, hn1⟩ : ∃ n1, w1.heap.size = n1 := ⟨_, rfl⟩
  have bN := Boxed.new w1 3 (.int .i64 0)
  have bS := Boxed.new (w1.alloc (.cells #[.int .i64 0] 3)) 72 (.slice (some ⟨g, 0, none⟩) f.length c)
  have bP := Boxed.new ((w1.alloc (.cells #[.int .i64 0] 3)).alloc (.cells #[.slice (some ⟨g, 0, none⟩) f.length c] 72)) 3 (.int .i64 p)
  have bN2 := (bN.alloc (.cells #[.slice (some ⟨g, 0, none⟩) f.length c] 72)).alloc (.cells #[.int .i64 p] 3)
  have bS2 := bS.alloc (.cells #[.int .i64 p] 3)
  have hbel : Below w1.heap.size w1 (((w1.alloc (.cells #[.int .i64 0] 3)).alloc (.cells #[.slice (some ⟨g, 0, none⟩) f.length c] 72)).alloc (.cells #[.int .i64 p] 3)) := (((Below.refl _ w1).alloc (Nat.le_refl _) _).alloc (by simp) _).alloc (by simp; omega) _
  rw [World.size_alloc] at bS bS2
  rw [World.size_alloc, World.size_alloc] at bP
  have hsz : (((w1.alloc (.cells #[.int .i64 0] 3)).alloc (.cells #[.slice (some ⟨g, 0, none⟩) f.length c] 72)).alloc (.cells #[.int .i64 p] 3)).heap.size = w1.heap.size + 3 := by simp
  clear hc3 bN bS
  try simp only [World.size_alloc]
  generalize (((w1.alloc (.cells #[.int .i64 0] 3)).alloc (.cells #[.slice (some ⟨g, 0, none⟩) f.length c] 72)).alloc (.cells #[.int .i64 p] 3)) = W2 at bN2 bS2 bP hbel hsz ⊢
  rw [hn1] at bN2 bS2 bP hbel hsz ⊢
  have hst := chunk_stops 2 (n1 + 1) (n1 + 1 + 1) g 0 f.length c p (rounds f.length p) hf2 hp0 (by omega) hAc (rounds_lt _ _ hp0) (rounds_eq _ _ hp0) W2 bS2.cell bP.cell
  rw [show (fun x : Nat => #[HChunk.part g 0 f.length p x]) = fun x => #[Value.slice (some ⟨g, x * p, none⟩) (pt f p x).length (pt f p x).length] from funext fun x => by rw [part_eq]] at hst
  refine wpIn_rangeFunc_ownG rfl (by decide) (gf := 58) (lb := #[.pointer (some ⟨n1 + 1, 0, none⟩), .pointer (some ⟨n1 + 1 + 1, 0, none⟩)]) rfl trivial (enters_of Try.func58 (by kernel_rfl) rfl)
    hst (fun h k => Kp.trans h k) (fun W l o o' _ hl ho _ => Kp.put W l o o' hl ho) (Below.refl _ _) (fun _ => rfl)
    (fun pre W => (W.cell? ⟨n1, 0, none⟩ = some (.int .i64 (tot f p pre : Nat)) ∧ W.frozen? ⟨n1, 0, none⟩ = false) ∧ Below n1 w1 W)
    (fun _ _ _ => False)
    (OwnFrom.and (Own.from (fun s A B row hs hg hr => ⟨cell_kept hs.1 hg hr, (frozen_kept hs.1 hg hr).trans hs.2⟩) _) (ownFrom_below (by omega) (by omega)))
    (fun _ _ _ _ _ hs _ _ => hs)
    ⟨⟨bN2.cell, bN2.frozen⟩, hbel⟩
    ?act ?assign ?body ?done ?stop
  case assign =>
    intro l x W K hK
    gi_wp2
    exact hK
  case stop =>
    rintro D c pre W _ _ h _
    exact h.elim
  case done =>
    rintro D ys W hD rfl ⟨⟨hc, hf'⟩, hB⟩ hK
    gi_wp2
    refine ⟨by simp, .inl ⟨_, _, rfl, run_takeDeferred hK, ?_⟩⟩
    refine ⟨_, results_tmp2 rfl _ _ _, rfl, ?_⟩
    rw [← hW0] at hb1
    have hb2 : Below w.heap.size w w1 := (((Below.refl _ w).alloc (Nat.le_refl _) _)).trans (hb1.mono (by simp))
    have hz : w.heap.size ≤ n1 := by have := hb2.size; omega
    exact (hb2.trans (hB.mono hz)).trans ((Below.refl _ W).grown (grownBy_putObj' W D _) (by have := hB.size; omega) (fun j e => by cases e; omega))
  case body =>
    rintro l pre x W ⟨⟨hc, hf'⟩, hB⟩ hlt
    have hord : W.cell? ⟨w.heap.size, 0, none⟩ = some (.int .i64 a2) := pw_cell_below (by rw [hn1]; exact hB) hc2
    have hCx : Kd.bool.C W (some ⟨g, x * p, none⟩) (pt f p x).length (pt f p x) := Kd.C_below (pt_reads hC p x) (by rw [hn1]; exact hB)
    have hL : (pt f p x).length ≤ 1048576 := by rw [pt_len]; omega
    have htot : tot f p pre ≤ 2097152 := by
      have h1 := tot_le f p pre
      have h2 : pre.length * p ≤ rounds f.length p * p := Nat.mul_le_mul_right p (Nat.le_of_lt hlt)
      have h3 : rounds f.length p * p ≤ f.length + p - 1 := Nat.div_mul_le_self _ _
      omega
    obtain ⟨t, ht⟩ : ∃ t, tot f p pre = t := ⟨_, rfl⟩
    have hone : ∀ v, one f p x = v → tot f p (pre ++ [x]) = t + v := fun v e => by rw [tot_snoc, ht, e]
    rw [ht] at hc htot
    unfold one at hone
    have hCx0 := pt_reads hC p x
    generalize hpt : pt f p x = q at hCx hCx0 hL hone ⊢
    have has := has_calls q hL _ q.length W hCx (Nat.le_refl _)
    by_cases hqp : q.length = p
    · subst hqp
      cases hb : q.contains false with
      | false =>
        rw [hb] at has hone
        gi_wp2_with (refine ⟨trivial, ?_⟩; gi_at_call 42; refine (CallsIn.inRound l (callsIn_wide.2 has)).mono ?_; rintro e w' ⟨rfl, ⟨md, rfl⟩⟩)
        refine ⟨(keeps_drewN W md).from _, kp_drewN W md, ⟨?_, hf'⟩, pw_below_drewN hB md⟩
        rw [hone 0 (by simp)]
        exact hc
      | true =>
        rw [hb] at has hone
        gi_wp2_with (refine ⟨trivial, ?_⟩; gi_at_call 42; refine (CallsIn.inRound l (callsIn_wide.2 has)).mono ?_; rintro e w' ⟨rfl, ⟨md, rfl⟩⟩)
        clear has
        have hc9 : (W.drewN md).cell? ⟨n1, 0, none⟩ = some (.int .i64 (t : Int)) := hc
        have hf9 : (W.drewN md).frozen? ⟨n1, 0, none⟩ = false := hf'
        have hB9 := pw_below_drewN hB md
        have hK9 := keeps_drewN W md
        have hP9 : Kp (n1 + 1) (n1 + 1 + 1) W (W.drewN md) := kp_drewN W md
        have hone2 : tot f q.length (pre ++ [x]) = t + cnt q := hone (cnt q) (by simp)
        clear hone hb hst hp hsh hlt hpt
        generalize W.drewN md = Wd at hc9 hf9 hB9 hK9 hP9 ⊢
        clear hc hf' hord hCx hB
        have hc := hc9
        have hf' := hf9
        clear hc9 hf9
        gi_loopw [50] (fun i wr => ∃ j s : Nat, j ≤ q.length ∧ i = .int .i64 j ∧ wr.cell? ⟨n1, 0, none⟩ = some (.int .i64 (s : Int)) ∧ Aside0 (s = t + cnt (q.take j)) ∧ wr.frozen? ⟨n1, 0, none⟩ = false ∧ Aside0 (Below n1 w1 wr ∧ KeepsOthers W wr ∧ Kp (n1 + 1) (n1 + 1 + 1) W wr))
          (fun i _ => q.length - (intOf i).toNat)
        case atStart => exact ⟨0, t, Nat.zero_le _, rfl, hc, ⟨by simp [cnt]⟩, hf', ⟨hB9, hK9, hP9⟩⟩
        case round =>
          obtain ⟨j, s, hj, rfl, hcj, hsj, hfj, hAj⟩ := hrel
          by_cases hlt2 : j < q.length
          · have hcell : wr.cell? ⟨g, x * q.length + j, none⟩ = some (.bool (q.getD j false)) := by
              obtain ⟨ad, ha, hz⟩ := Kd.at_bool (Kd.C_below hCx0 (show Below w1.heap.size w1 wr by rw [hn1]; exact hAj.out.1)) (j : Int) (by omega) (by omega)
              cases ha
              rw [rdOf_nat] at hz
              rw [← hz, add_at]
            have hsucc := cnt_succ q j hlt2
            have hcl := cnt_le q j
            have hjl : (j : Int) < (q.length : Int) := by omega
            have hs9 : s ≤ 8388608 := by have := hsj.out; omega
            cases hv : q.getD j false with
            | true =>
              rw [hv] at hcell hsucc
              have hw : IntKind.i64.wrap ((s : Int) + 1) = (s : Int) + 1 := by simp [IntKind.wrap, IntKind.bits, IntKind.signed]; omega
              gi_wp2
              go_roundw
              case rel => exact ⟨j + 1, s + 1, by omega, by simp, by first | exact World.cell?_setCell_same' _ _ _ (by rw [hcj]; rfl) | (rw [show ((s + 1 : Nat) : Int) = (s : Int) + 1 by omega]; exact World.cell?_setCell_same' _ _ _ (by rw [hcj]; rfl)), ⟨by have := hsj.out; simp only [if_true] at hsucc; omega⟩, by first | (rw [World.frozen?_setCell]; exact hfj) | simp [hfj], ⟨hAj.out.1.setCell (p := ⟨n1, 0, none⟩) (Nat.le_refl _) _, hAj.out.2.1.trans (KeepsOthers.setCell _ _ _), Kp.trans hAj.out.2.2 (Kp_set _ n1 _)⟩⟩
              case measure => simp [intOf]; omega
            | false =>
              rw [hv] at hcell hsucc
              gi_wp2
              go_roundw
              case rel => exact ⟨j + 1, s, by omega, by simp, hcj, ⟨by have := hsj.out; simp at hsucc; omega⟩, hfj, hAj⟩
              case measure => simp [intOf]; omega
          · obtain rfl : j = q.length := by omega
            gi_wp2
            refine ⟨hAj.out.2.1.from _, hAj.out.2.2, ⟨?_, hfj⟩, hAj.out.1⟩
            rw [hone2, hcj, hsj.out, List.take_length]
    · have hqb : ((q.length : Int) == (p : Int)) = false := by simp; omega
      gi_wp2
      refine ⟨trivial, ?_⟩
      gi_wp2
      gi_loopw [50] (fun i wr => ∃ j s : Nat, j ≤ q.length ∧ i = .int .i64 j ∧ wr.cell? ⟨n1, 0, none⟩ = some (.int .i64 (s : Int)) ∧ Aside0 (s = t + cnt (q.take j)) ∧ wr.frozen? ⟨n1, 0, none⟩ = false ∧ Aside0 (Below n1 w1 wr ∧ KeepsOthers W wr ∧ Kp (n1 + 1) (n1 + 1 + 1) W wr))
        (fun i _ => q.length - (intOf i).toNat)
      case atStart => exact ⟨0, t, Nat.zero_le _, rfl, hc, ⟨by simp [cnt]⟩, hf', ⟨hB, KeepsOthers.refl W, Kp.refl W⟩⟩
      case round =>
        obtain ⟨j, s, hj, rfl, hcj, hsj, hfj, hAj⟩ := hrel
        by_cases hlt2 : j < q.length
        · have hcell : wr.cell? ⟨g, x * p + j, none⟩ = some (.bool (q.getD j false)) := by
            obtain ⟨ad, ha, hz⟩ := Kd.at_bool (Kd.C_below hCx0 (show Below w1.heap.size w1 wr by rw [hn1]; exact hAj.out.1)) (j : Int) (by omega) (by omega)
            cases ha
            rw [rdOf_nat] at hz
            rw [← hz, add_at]
          have hsucc := cnt_succ q j hlt2
          have hcl := cnt_le q j
          have hjl : (j : Int) < (q.length : Int) := by omega
          have hs9 : s ≤ 8388608 := by have := hsj.out; omega
          cases hv : q.getD j false with
          | true =>
            rw [hv] at hcell hsucc
            have hw : IntKind.i64.wrap ((s : Int) + 1) = (s : Int) + 1 := by simp [IntKind.wrap, IntKind.bits, IntKind.signed]; omega
            gi_wp2
            go_roundw
            case rel => exact ⟨j + 1, s + 1, by omega, by simp, by first | exact World.cell?_setCell_same' _ _ _ (by rw [hcj]; rfl) | (rw [show ((s + 1 : Nat) : Int) = (s : Int) + 1 by omega]; exact World.cell?_setCell_same' _ _ _ (by rw [hcj]; rfl)), ⟨by have := hsj.out; simp only [if_true] at hsucc; omega⟩, by first | (rw [World.frozen?_setCell]; exact hfj) | simp [hfj], ⟨hAj.out.1.setCell (p := ⟨n1, 0, none⟩) (Nat.le_refl _) _, hAj.out.2.1.trans (KeepsOthers.setCell _ _ _), Kp.trans hAj.out.2.2 (Kp_set _ n1 _)⟩⟩
            case measure => simp [intOf]; omega
          | false =>
            rw [hv] at hcell hsucc
            gi_wp2
            go_roundw
            case rel => exact ⟨j + 1, s, by omega, by simp, hcj, ⟨by have := hsj.out; simp at hsucc; omega⟩, hfj, hAj⟩
            case measure => simp [intOf]; omega
        · obtain rfl : j = q.length := by omega
          gi_wp2
          refine ⟨hAj.out.2.1.from _, hAj.out.2.2, ⟨?_, hfj⟩, hAj.out.1⟩
          rw [hone (cnt q) (by rw [if_neg (fun h => hqp h.1)]), hcj, hsj.out, List.take_length]

set_option maxRecDepth 100000 in
set_option maxHeartbeats 4000000 in
theorem broken_no (k : Nat) (a0 : Int) (A1 : Option Addr) (c1 : Nat) (l1 : List Q.S41) (a2 : Int) (f m : List Bool) (ok : Bool) (w : World) (hr1 : Kd.C Q.k41 w A1 l1.length l1) (hc1 : l1.length ≤ c1)
    (hm : Q.scan_marked.f k a0 l1 [] = some (f, m, ok)) (h : ok = false ∨ a2 < 0 ∨ 9 < a2) :
    Calls Try.prog 17 #[.int .i64 a0, .slice A1 l1.length c1, .int .i64 a2] w fun e w' => e = .returned (.tuple #[.int .i64 0, Q.errW (some 1)]) ∧ Below w.heap.size w w' := by
  have hu26 := Try.underlying26
  have hu33 := Try.underlying33
  have hb0 := (Below.refl w.heap.size w).alloc (Nat.le_refl _) (.cells #[.int .i64 a2] 3)
  have hmc : ∀ W, Below w.heap.size w W → Calls Try.prog 37 #[.int .i64 a0, .slice A1 l1.length c1, .slice none 0 0] W fun e w' => ∃ v0 v1, e = .returned (.tuple #[v0, v1, .bool ok]) ∧ Aside0 (Kd.bool.R 4 w' W.heap.size (fun k => some k ≠ v1.ownBlock) v0 f) ∧ Below W.heap.size W w' := fun W hb =>
    (Q.scan_marked.calls k a0 A1 c1 l1 none 0 [] f m ok W (Kd.C_below hr1 hb) hc1 (Kd.C_nil _ _) (Nat.le_refl _) hm).mono (fun e w' ⟨v0, v1, h1, h2, _, h3⟩ => ⟨v0, v1, h1, ⟨h2⟩, h3⟩)
  have bO := Boxed.new w 3 (.int .i64 a2)
  clear hm
  obtain ⟨W0, hW0⟩ : ∃ W0, w.alloc (.cells #[.int .i64 a2] 3) = W0 := ⟨_, rfl⟩
  rw [hW0] at hb0 bO
  have hz : ∀ w1, Below W0.heap.size W0 w1 → Below w.heap.size w w1 := fun w1 h1 => hb0.trans (h1.mono hb0.size)
  rcases h with rfl | h
  · go_enter Try.func17, Try.ntmps17
    go_wp2_with (go_at_call 37; refine (hmc _ hb0).mono ?_; rintro e w1 ⟨v0, v1, rfl, hR0, hb1⟩; have hc2 := pw_cell_below hb1 bO.cell)
    go_ret2
    exact ⟨rfl, hz _ hb1⟩
  · cases ok with
    | false =>
      go_enter Try.func17, Try.ntmps17
      go_wp2_with (go_at_call 37; refine (hmc _ hb0).mono ?_; rintro e w1 ⟨v0, v1, rfl, hR0, hb1⟩; have hc2 := pw_cell_below hb1 bO.cell)
      go_ret2
      exact ⟨rfl, hz _ hb1⟩
    | true =>
      by_cases h1 : a2 < 0
      · go_enter Try.func17, Try.ntmps17
        go_wp2_with (go_at_call 37; refine (hmc _ hb0).mono ?_; rintro e w1 ⟨v0, v1, rfl, hR0, hb1⟩; have hc2 := pw_cell_below hb1 bO.cell)
        go_ret2
        exact ⟨rfl, hz _ hb1⟩
      · have h2 : 9 < a2 := by omega
        have h3 : ¬ a2 < 0 := h1
        go_enter Try.func17, Try.ntmps17
        go_wp2_with (go_at_call 37; refine (hmc _ hb0).mono ?_; rintro e w1 ⟨v0, v1, rfl, hR0, hb1⟩; have hc2 := pw_cell_below hb1 bO.cell)
        go_ret2
        exact ⟨rfl, hz _ hb1⟩

end Go.Proofs.Ytlmjjkggoemabaa.HBroken
