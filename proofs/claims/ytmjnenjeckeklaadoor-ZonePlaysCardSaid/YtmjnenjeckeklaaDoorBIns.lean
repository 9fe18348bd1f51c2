import Derived.Test.YtmjnenjeckeklaaDoorB0
namespace Go.Proofs.YtmjnenjeckeklaaDoor.V
open Go Go.RowKit Go.Proofs
set_option linter.unusedVariables false
set_option linter.unusedSimpArgs false
theorem wrap_small {x : Int} (h0 : 0 ≤ x) (h1 : x < 1000000) : IntKind.i64.wrap x = x := by
  simp only [IntKind.wrap, IntKind.bits, IntKind.signed]
  simp
  omega
def Ins.f (l : List Blk) (i : Int) (x : Blk) : Option (List Blk) := bif decide (0 ≤ i) && decide (i.toNat ≤ l.length) && decide (l.length < 1000) then some (l.take i.toNat ++ x :: l.drop i.toNat) else none
theorem ins_grow {l : List Blk} {x : Blk} {n c : Nat} (hn : n < l.length) (k : Nat) (hl : l.length < 1000) (hc : l.length + 1 ≤ c) : Insert.f k c l (n : Int) x = some (l.take n ++ x :: l.drop n) := by
  have w1 : IntKind.i64.wrap ((l.length : Int) + (([x] : List Blk).length : Int)) = (l.length : Int) + 1 := wrap_small (by simp; omega) (by simp; omega)
  have w3 : IntKind.i64.wrap ((n : Int) + (([x] : List Blk).length : Int)) = (n : Int) + 1 := wrap_small (by simp; omega) (by simp; omega)
  have e1 : ((l.length : Int) + 1).toNat = l.length + 1 := by omega
  have e3 : ((n : Int) + 1).toNat = n + 1 := by omega
  have b1 : ((([x] : List Blk).length : Int) == 0) = false := rfl
  have b2 : ((n : Int) == (l.length : Int)) = false := by simp; omega
  have d0 : decide (0 ≤ (n : Int)) = true := by simp
  have d1 : decide (n ≤ l.length) = true := by simp; omega
  have d2 : decide ((l.length : Int) + 1 > (c : Int)) = false := by simp; omega
  unfold Insert.f Insert.q5 Insert.q4 Insert.q10 Insert.q2 Insert.q6 Insert.q1 Insert.q8 Insert.q7 Insert.q3 Insert.q9
  rw [w1, w3, e1, e3]
  simp only [Int.toNat_natCast, b1, b2, d0, d1, d2, Bool.and_self, cond_true, cond_false, Nat.zero_add, Nat.sub_zero, Nat.add_sub_cancel_left, List.length_map]
  generalize hA : (l.map some ++ List.replicate 1 none) = A
  have hlen : A.length = l.length + 1 := by rw [← hA]; simp
  have hm0 : (List.take (A.length - n) (List.drop n A)).length = l.length + 1 - n := by rw [List.length_take, List.length_drop, hlen]; omega
  have hmin : min (List.take (A.length - n) (List.drop n A)).length (A.length - (n + 1)) = l.length - n := by rw [hm0, hlen]; omega
  have hdA : List.drop n A = (l.drop n).map some ++ [none] := by
    rw [← hA, List.drop_append_of_le_length (by simp; omega), List.map_drop]; rfl
  have hm : List.take (l.length - n) (List.take (A.length - n) (List.drop n A)) = (l.drop n).map some := by
    rw [List.take_take, hlen, show min (l.length - n) (l.length + 1 - n) = l.length - n by omega, hdA, List.take_append_of_le_length (by simp)]
    exact List.take_of_length_le (by simp)
  have hr : List.drop (n + 1 + (l.length - n)) A = [] := List.drop_eq_nil_of_le (by omega)
  rw [hmin, hm, hr]
  generalize hB : (List.take (n + 1) A ++ ((l.drop n).map some ++ [])) = B
  have hBl : B.length = l.length + 1 := by rw [← hB]; simp [hlen]; omega
  have hB1 : List.take n B = (l.take n).map some := by
    rw [← hB, List.take_append_of_le_length (by simp [hlen]; omega), List.take_take, show min n (n + 1) = n by omega, ← hA, List.take_append_of_le_length (by simp; omega), List.map_take]
  have hB2 : List.drop (n + 1) B = (l.drop n).map some := by
    rw [← hB, List.drop_append_of_le_length (by simp [hlen]; omega), List.drop_eq_nil_of_le (by rw [List.length_take]; omega)]; simp
  have hmin2 : min ([x] : List Blk).length (B.length - n) = 1 := by rw [hBl]; simp; omega
  rw [hmin2, hB1, hB2, hBl, hlen]
  have all1 : ∀ m : List Blk, (m.map some).all Option.isSome = true := by intro m; simp
  have t1 : List.take 1 (([x] : List Blk).map some) = [x].map some := rfl
  rw [t1, all1, all1]
  have fm : ∀ m : List Blk, (m.map some).filterMap id = m := by intro m; induction m <;> simp_all
  have g : (l.take n).map some ++ (([x] : List Blk).map some ++ (l.drop n).map some) = (l.take n ++ x :: l.drop n).map some := by simp
  rw [g, all1, fm]
  simp only [Bool.and_true, decide_eq_true (show l.length ≤ l.length + 1 by omega), decide_eq_true hc, decide_eq_true (show (0 : Int) < (l.length : Int) + 1 by omega), decide_eq_true (show (0 : Int) ≤ (n : Int) + 1 by omega), decide_eq_true (show n + 1 ≤ l.length + 1 by omega), decide_eq_true (show n ≤ l.length + 1 by omega), decide_eq_true (show n + 1 + (l.length + 1 - (n + 1)) ≤ l.length + 1 by omega), decide_eq_true (show n + (l.length + 1 - n) ≤ l.length + 1 by omega), cond_true]
theorem ins_new {l : List Blk} {x : Blk} {n : Nat} (hn : n < l.length) (k : Nat) (hl : l.length < 1000) : Insert.f k l.length l (n : Int) x = some (l.take n ++ x :: l.drop n) := by
  have w1 : IntKind.i64.wrap ((l.length : Int) + (([x] : List Blk).length : Int)) = (l.length : Int) + 1 := wrap_small (by simp; omega) (by simp; omega)
  have w3 : IntKind.i64.wrap ((n : Int) + (([x] : List Blk).length : Int)) = (n : Int) + 1 := wrap_small (by simp; omega) (by simp; omega)
  have w4 : IntKind.i64.wrap ((l.length : Int) + 1 - (n : Int)) = (l.length : Int) + 1 - (n : Int) := wrap_small (by omega) (by omega)
  have e1 : ((l.length : Int) + 1).toNat = l.length + 1 := by omega
  have e3 : ((n : Int) + 1).toNat = n + 1 := by omega
  have e4 : ((l.length : Int) + 1 - (n : Int)).toNat = l.length + 1 - n := by omega
  have b1 : ((([x] : List Blk).length : Int) == 0) = false := rfl
  have b2 : ((n : Int) == (l.length : Int)) = false := by simp; omega
  have d0 : decide (0 ≤ (n : Int)) = true := by simp
  have d1 : decide (n ≤ l.length) = true := by simp; omega
  have d2 : decide ((l.length : Int) + 1 > (l.length : Int)) = true := decide_eq_true (by omega)
  unfold Insert.f Insert.q5 Insert.q4 Insert.q10 Insert.q2 Insert.q6 Insert.q1 Insert.q8 Insert.q7 Insert.q3 Insert.q9
  rw [w1, w3, w4, e1, e3, e4]
  generalize hA : (l.take ((n : Int).toNat - 0) ++ List.replicate (l.length + 1 - n) zR) = A
  simp only [Int.toNat_natCast, b1, b2, d0, d1, d2, Bool.and_self, cond_true, cond_false, Nat.zero_add, Nat.sub_zero, Nat.add_sub_cancel_left, List.length_map]
  simp only [Int.toNat_natCast, Nat.sub_zero] at hA
  have hlen : A.length = l.length + 1 := by rw [← hA]; simp; omega
  have hmin1 : min ([x] : List Blk).length (A.length - n) = 1 := by rw [hlen]; simp; omega
  rw [hmin1]
  have t1 : List.take 1 ([x] : List Blk) = [x] := rfl
  rw [t1]
  generalize hB : (List.take n A ++ ([x] ++ List.drop (n + 1) A)) = B
  have hBl : B.length = l.length + 1 := by rw [← hB]; simp [hlen]; omega
  have hmin : min (List.take (l.length - n) (List.drop n l)).length (B.length - (n + 1)) = l.length - n := by rw [hBl]; simp
  have hm : List.take (l.length - n) (List.take (l.length - n) (List.drop n l)) = l.drop n := by
    rw [List.take_take, Nat.min_self]; exact List.take_of_length_le (by simp)
  have hr : List.drop (n + 1 + (l.length - n)) B = [] := List.drop_eq_nil_of_le (by omega)
  rw [hmin, hm, hr, hBl, hlen]
  have hB1 : List.take (n + 1) B = l.take n ++ [x] := by
    rw [← hB, ← List.append_assoc, List.take_append_of_le_length (by simp [hlen]; omega), List.take_of_length_le (by simp [hlen]; omega), ← hA, List.take_append_of_le_length (by simp; omega), List.take_take, Nat.min_self]
  rw [hB1]
  simp only [Bool.and_true, Bool.true_and, decide_eq_true (show (0 : Int) < (l.length : Int) + 1 - (n : Int) by omega), decide_eq_true (show l.length < n + (l.length + 1 - n) by omega), decide_eq_true (show n + (l.length + 1 - n) ≤ 1000000 by omega), decide_eq_true (show n ≤ l.length + 1 by omega), decide_eq_true (show (0 : Int) ≤ (n : Int) + 1 by omega), decide_eq_true (show n + 1 ≤ l.length + 1 by omega), decide_eq_true (show n + (l.length + 1 - n) ≤ l.length + 1 by omega), decide_eq_true (show n + 1 + (l.length + 1 - (n + 1)) ≤ l.length + 1 by omega), cond_true]
  simp
theorem Ins.plain (k : Nat) {l : List Blk} {i : Int} {x : Blk} {r : List Blk} (h : Ins.f l i x = some r) (c0 : Nat) (hc : l.length ≤ c0) : Insert.f k c0 l i x = some r := by
  obtain ⟨hg, h⟩ := guard_some h
  obtain rfl := Option.some.inj h
  simp only [Bool.and_eq_true, decide_eq_true_eq] at hg
  obtain ⟨⟨h0, h1⟩, h2⟩ := hg
  obtain ⟨n, rfl⟩ : ∃ n : Nat, i = (n : Int) := ⟨i.toNat, by omega⟩
  simp only [Int.toNat_natCast] at h1 ⊢
  by_cases hn : n = l.length
  · subst hn
    have b1 : ((([x] : List Blk).length : Int) == 0) = false := rfl
    have d0 : decide (0 ≤ (l.length : Int)) = true := by simp
    have d1 : decide (l.length ≤ l.length) = true := by simp
    unfold Insert.f Insert.q5 Insert.q4 Insert.q10 Insert.q2 Insert.q6 Insert.q1 Insert.q8 Insert.q7 Insert.q3 Insert.q9
    simp only [Int.toNat_natCast, b1, beq_self_eq_true, d0, d1, Bool.and_self, cond_true, cond_false, List.length_map]
    have e : List.take l.length l = l := List.take_length
    rw [e, decide_eq_true (show l.length + ([x] : List Blk).length ≤ 1000000 by simp; omega), List.drop_length]
    rfl
  · by_cases hcc : l.length + 1 ≤ c0
    · exact ins_grow (by omega) k h2 hcc
    · obtain rfl : c0 = l.length := by omega
      exact ins_new (by omega) k h2
theorem Ins.ac (a0 : List Blk) (a1 : Int) (a2 : Blk) (r : List Blk) (h : Ins.f a0 a1 a2 = some r) : AC Tryd.prog 28 60 [.c (.sl true 2 (a0.map eR)), .c (.v (.int .i64 a1)), .c (.sl true 2 ([a2].map eR))] [none, none, none] [.c (.sl true 2 (r.map eR))] :=
  Insert.ac 0 a0 a1 a2 r (fun c0 hc => Ins.plain 0 h c0 hc)
end Go.Proofs.YtmjnenjeckeklaaDoor.V
