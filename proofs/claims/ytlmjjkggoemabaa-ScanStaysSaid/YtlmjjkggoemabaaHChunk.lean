/- slices.Chunk's closure at []bool: at every slice and every number of at least 1: what it hands on, round for round. After the worked contract of slices.Values. -/
import Derived.RangeFuncBox
import Derived.RangeFuncNested
import Derived.RangeFuncBound
import Derived.RangeFuncCalls
import Derived.RangeFuncLeaves
import Derived.Shelf.Abstract
import Derived.Shelf.RegionOpen
import Derived.WalkKit
import Derived.OwnWalkIn
import Derived.TacticsInMore
import Derived.LoopNIn
import Derived.LoopIn
import Derived.Test.YtlmjjkggoemabaaQx3
import Derived.Test.YtlmjjkggoemabaaQx4
namespace Go.Proofs.Ytlmjjkggoemabaa.HChunk
open Go.RowKit Go.Shelf Go.Proofs.YtlmjjkggoemabaaW.PrintWords Go.Proofs.YtlmjjkggoemabaaW.PrintLast Go.Proofs.YtlmjjkggoemabaaW.PrintMore
attribute [local go_sem] Oper.semAt_some
attribute [local go_sem] max2_int min2_int max_two min_two
set_option linter.unusedVariables false
set_option linter.unusedSimpArgs false

def part (b off len p j : Nat) : Value := .slice (some ⟨b, off + j * p, none⟩) (min p (len - j * p)) (min p (len - j * p))

/-- What a round keeps: the two boxes. -/
def Kp (Bs Bp : Nat) (W W' : World) : Prop := (∀ v, W.cell? ⟨Bs, 0, none⟩ = some v → W'.cell? ⟨Bs, 0, none⟩ = some v) ∧ (∀ v, W.cell? ⟨Bp, 0, none⟩ = some v → W'.cell? ⟨Bp, 0, none⟩ = some v)
theorem Kp.trans {Bs Bp : Nat} {A B C : World} (h : Kp Bs Bp A B) (k : Kp Bs Bp B C) : Kp Bs Bp A C := ⟨fun v e => k.1 v (h.1 v e), fun v e => k.2 v (h.2 v e)⟩
theorem Kp.put {Bs Bp : Nat} (W : World) (l : Nat) (o o' : Obj) (hl : W.heap[l]? = some o) (ho : o.isCells = false) : Kp Bs Bp W (W.putObj l o') :=
  ⟨fun v e => cell_kept e (grownBy_putObj' W l o') (fun r e => by cases e; exact ⟨o, hl, ho⟩), fun v e => cell_kept e (grownBy_putObj' W l o') (fun r e => by cases e; exact ⟨o, hl, ho⟩)⟩

set_option maxRecDepth 100000 in
set_option maxHeartbeats 4000000 in
theorem chunk1_in (n : Nat) (l Bs Bp b off len cap p R : Nat) (hreach : len ≤ 1048576) (hp : 0 < p) (hp2 : p ≤ 1048576) (hcap : len ≤ cap) (hR0 : ∀ k, k * p < len → k < R) (hR1 : ∀ k, ¬ (k * p < len) → k ≤ R → k = R)
    (J Jx : List Nat → World → Prop)
    (hJd : ∀ pre W m, J pre W → J pre (W.drewN m))
    (hY : ∀ pre x W, J pre W → pre.length < R → YieldAt Fence.wide (n - 1) Try.prog l #[part b off len p x] W fun e W' =>
      (e = .returned (.bool true) ∧ J (pre ++ [x]) W' ∧ Kp Bs Bp W W') ∨ (e = .returned (.bool false) ∧ Jx (pre ++ [x]) W'))
    (W : World) (hBs : W.cell? ⟨Bs, 0, none⟩ = some (.slice (some ⟨b, off, none⟩) len cap)) (hBp : W.cell? ⟨Bp, 0, none⟩ = some (.int .i64 p)) (h0 : J [] W) :
    CallsIn Fence.wide n Try.prog 58 #[.func (.yield l) #[] #[], .pointer (some ⟨Bs, 0, none⟩), .pointer (some ⟨Bp, 0, none⟩)] W fun e W' => (∃ v, e = .returned v) ∧
      ((∃ ys, ys = List.range R ∧ J ys W') ∨ (∃ pre, (∃ k, k ≤ R ∧ pre = List.range k) ∧ Jx pre W')) := by
  refine callsIn_of_wp Try.func58 rfl trivial ?_ rfl
  simp only [Try.ntmps58, List.size_toArray, List.length_cons, List.length_nil, Nat.reduceAdd, Nat.reduceSub, Array.replicate_succ, Array.replicate_zero, List.push_toArray, List.append_toArray, List.nil_append, List.cons_append]
  gi_wp2
  gi_loopw [4] (fun i wr => ∃ k : Nat, k ≤ R ∧ i = .int .i64 ((k * p : Nat) : Int) ∧ J (List.range k) wr ∧ wr.cell? ⟨Bs, 0, none⟩ = some (.slice (some ⟨b, off, none⟩) len cap) ∧ wr.cell? ⟨Bp, 0, none⟩ = some (.int .i64 p))
    (fun i _ => len - (intOf i).toNat)
  case atStart => exact ⟨0, Nat.zero_le _, by simp, h0, hBs, hBp⟩
  case round =>
    obtain ⟨k, hk, rfl, hJs, hcs, hcp⟩ := hrel
    by_cases hlt : k * p < len
    · have hkR := hR0 k hlt
      have hi : k * p + p = (k + 1) * p := by rw [Nat.succ_mul]
      have hY' := fun m => hY _ k (wr.drewN m) (hJd _ _ m hJs) (by rw [List.length_range]; exact hkR)
      unfold part at hY'
      generalize hkp : k * p = i at hlt hY' hi ⊢
      have h1 : ((i : Int)).toNat = i := by simp
      have h2 : i ≤ len := by omega
      have h3 : (i : Int) < (len : Int) := by omega
      obtain ⟨m, hm⟩ : ∃ m, min p (len - i) = m := ⟨_, rfl⟩
      rw [hm] at hY'
      have hm0 : 0 < m := by omega
      have hm1 : i + m ≤ len := by omega
      have hm2 : (if len - i < p then ((len - i : Nat) : Int) else (p : Int)) = (m : Int) := by split <;> omega
      have hw : IntKind.i64.wrap ((i : Int) + (m : Int)) = (i : Int) + (m : Int) := by simp [IntKind.wrap, IntKind.bits, IntKind.signed]; omega
      have ht : ((i : Int) + (m : Int)).toNat = i + m := by omega
      have hw2 : IntKind.i64.wrap ((i : Int) + (p : Int)) = (i : Int) + (p : Int) := by simp [IntKind.wrap, IntKind.bits, IntKind.signed]; omega
      have hz : ¬ (i + m = i) := by omega
      have hz1 : ¬ (m = 0) := by omega
      have hz2 : i + m ≤ cap := by omega
      have hz3 : i + m - i = m := by omega
      have hz4 : i ≤ i + m := by omega
      gi_wp2
      refine wpIn_wide.2 ?_
      go_quiet (fail)
      obtain ⟨fn, tmps, assign, body, hy, hR⟩ := hY' nq
      gi_wp2
      refine ⟨fun h => (by cases h), hR.mono ?_⟩
      rintro e W3 (⟨rfl, hJ3, hk3⟩ | ⟨rfl, hJx3⟩)
      · have hcs3 : W3.cell? ⟨Bs, 0, none⟩ = some (.slice (some ⟨b, off, none⟩) len cap) := hk3.1 _ hcs
        have hcp3 : W3.cell? ⟨Bp, 0, none⟩ = some (.int .i64 p) := hk3.2 _ hcp
        gi_wp2
        go_roundw
        case rel => exact ⟨k + 1, by omega, by rw [← hi]; simp, by rw [List.range_succ]; exact hJ3, hcs3, hcp3⟩
        case measure => simp [intOf]; omega
      · gi_wp2
        refine bodyPost_ret (results_none rfl _ _ _) rfl ?_
        first | exact ⟨⟨_, rfl⟩, .inr ⟨_, ⟨k + 1, by omega, (List.range_succ).symm⟩, hJx3⟩⟩ | (trace_state; sorry)
    · have hkR := hR1 k hlt hk
      generalize hkp : k * p = i at hlt ⊢
      have h3 : ¬ ((i : Int) < (len : Int)) := by omega
      gi_wp2
      go_end0
      subst hkR
      first | exact ⟨⟨_, rfl⟩, .inl ⟨_, rfl, hJs⟩⟩ | exact ⟨⟨_, rfl⟩, .inl hJs⟩ | (trace_state; sorry)

theorem grownBy_drewN (w : World) (n : Nat) : w.grownBy (w.drewN n) none := ⟨rfl, rfl, rfl, Nat.le_refl _, fun _ _ _ => rfl⟩

theorem chunk_stops (n : Nat) (Bs Bp b off len cap p R : Nat) (hreach : len ≤ 1048576) (hp : 0 < p) (hp2 : p ≤ 1048576) (hcap : len ≤ cap) (hR0 : ∀ k, k * p < len → k < R) (hR1 : ∀ k, ¬ (k * p < len) → k ≤ R → k = R) (w : World)
    (hBs : w.cell? ⟨Bs, 0, none⟩ = some (.slice (some ⟨b, off, none⟩) len cap)) (hBp : w.cell? ⟨Bp, 0, none⟩ = some (.int .i64 p)) :
    SeqStopsK Fence.wide n Try.prog 58 #[.pointer (some ⟨Bs, 0, none⟩), .pointer (some ⟨Bp, 0, none⟩)] (fun x : Nat => #[part b off len p x]) (Kp Bs Bp) (fun ys => ys = List.range R) (fun pre => ∃ k, k ≤ R ∧ pre = List.range k) R w :=
  fun l J Jx W hW hJ _ hY h0 =>
    chunk1_in n l Bs Bp b off len cap p R hreach hp hp2 hcap hR0 hR1 J Jx (fun pre W m h => hJ pre W _ none h (grownBy_drewN W m) (fun r e => by cases e)) hY W (pw_cell_below hW hBs) (pw_cell_below hW hBp) h0

set_option maxRecDepth 100000 in
set_option maxHeartbeats 1000000 in
theorem chunk_in (n : Nat) (a : Option Addr) (len cap : Nat) (p : Int) (hp : 1 ≤ p) (w : World) :
    CallsIn Fence.wide n Try.prog 41 #[.slice a len cap, .int .i64 p] w fun e w' => e = .returned (.func (.func 58) #[] #[.pointer (some ⟨w.heap.size, 0, none⟩), .pointer (some ⟨w.heap.size + 1, 0, none⟩)]) ∧ w' = (w.alloc (.cells #[.slice a len cap] 72)).alloc (.cells #[.int .i64 p] 3) := by
  refine callsIn_of_wp Try.func41 rfl trivial ?_ rfl
  simp only [Try.ntmps41, List.size_toArray, List.length_cons, List.length_nil, Nat.reduceAdd, Nat.reduceSub, Array.replicate_succ, Array.replicate_zero, List.push_toArray, List.append_toArray, List.nil_append, List.cons_append]
  gi_wp2
  go_ret
  exact ⟨rfl, rfl⟩

def contains (k : Nat) (l : List Bool) : Option Bool := (Q.slices_Index_bool_bool.f k l false).bind fun r => some (decide (0 ≤ r))
set_option maxRecDepth 100000 in
set_option maxHeartbeats 1000000 in
theorem contains_calls (k : Nat) (A0 : Option Addr) (c0 : Nat) (l0 : List Bool) (r : Int) (w : World) (hr : Kd.bool.C w A0 l0.length l0) (hc : l0.length ≤ c0) (h : Q.slices_Index_bool_bool.f k l0 false = some r) :
    Calls Try.prog 42 #[.slice A0 l0.length c0, .bool false] w fun e w' => e = .returned (.bool (decide (0 ≤ r))) ∧ Drawn0 w w' := by
  have hh := Q.slices_Index_bool_bool.calls k A0 c0 l0 false r w hr hc h
  clear h
  go_enter Try.func42, Try.ntmps42
  go_wp2_with (go_at_call 57; refine hh.mono ?_; rintro e w' ⟨rfl, ⟨m, rfl⟩⟩)
  all_goals go_ret
  all_goals exact ⟨by simp [*], ⟨_, rfl⟩⟩
end Go.Proofs.Ytlmjjkggoemabaa.HChunk
