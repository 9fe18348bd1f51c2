
import Derived.Test.YtmjnenjeckeklaaWLast
import Derived.Test.YtmjnenjeckeklaaWWords
namespace Go.Proofs.YtmjnenjeckeklaaW.PrintLast
open Go.Proofs.YtmjnenjeckeklaaW.PrintWords (ag)
def nB (md : Region.Mode) (o : Oper) : List Nat := (o.after.toList.filter (fun e => Region.binds md e)).map (fun e => e.on)
def xk (md : Region.Mode) (ops : Array Oper) (i : Nat) (oi : Oper) : List Nat := (List.range ops.size).filter fun j => !(j == i) && match ops[j]? with
  | some oj => !(oj.after.any (fun e => Region.binds md e && e.on == i) || oi.apart ops oj)
  | none => false
def fU (md : Region.Mode) (ops : Array Oper) : Bool × List (List Nat × List Nat) := (Region.noSelect ops, (List.range ops.size).map fun i => match ops[i]? with
  | some o => (nB md o, xk md ops i o)
  | none => ([], []))
def iT (T : List (List Nat × List Nat)) (l : List Bool) (i : Nat) : Bool := !l.getD i true && match T[i]? with
  | some r => r.1.all (fun j => l.getD j false)
  | none => false
def kF (T : List (List Nat × List Nat)) (l : List Bool) : List Nat := (List.range T.length).filter (iT T l)
def y6 (T : List (List Nat × List Nat)) (l : List Bool) (i : Nat) : Bool := match T[i]? with
  | some r => r.2.all (fun j => l.getD j true)
  | none => false
def rM (T : List (List Nat × List Nat)) (l : List Bool) : Bool := (List.range T.length).all fun j => !l.getD j false || match T[j]? with
  | some r => r.1.all (fun k => l.getD k false)
  | none => true
def qx (T : List (List Nat × List Nat)) (i : Nat) : Nat → Nat → Bool
  | 0, _ => false
  | fuel + 1, d => match T[d]? with
    | some r => r.1.any fun j => j == i || qx T i fuel j
    | none => false
def Cl (T : List (List Nat × List Nat)) (l : List Bool) (ds : List Nat) (i : Nat) : Bool := ds.all fun d => l.getD d true || qx T i T.length d
section
variable {md : Region.Mode} {ops : Array Oper} {T : Bool × List (List Nat × List Nat)} {l l' li lj lk : Array Bool} {ds : List Nat} {i j k : Nat}
theorem gd (l : Array Bool) (j : Nat) (b : Bool) : l.getD j b = l.toList.getD j b := by simp [Array.getD_eq_getD_getElem?, List.getD_eq_getElem?_getD]
theorem vt (o : Oper) (p : Nat → Bool) : o.after.all (fun e => !Region.binds md e || p e.on) = (nB md o).all p := by
 unfold nB; rw [← Array.all_toList]
 induction o.after.toList with
 | nil => rfl
 | cons e r ih =>
  rw [List.all_cons, ih, List.filter_cons]; cases h : Region.binds md e <;> simp
theorem Du (o : Oper) (p : Nat → Bool) : o.after.any (fun e => Region.binds md e && p e.on) = (nB md o).any p := by
 unfold nB; rw [← Array.any_toList]
 induction o.after.toList with
 | nil => rfl
 | cons e r ih =>
  rw [List.any_cons, ih, List.filter_cons]; cases h : Region.binds md e <;> simp
theorem j8 : (fU md ops).2.length = ops.size := by simp [fU]
theorem nC {o : Oper} (h : ops[i]? = some o) : (fU md ops).2[i]? = some (nB md o, xk md ops i o) := by
 have hi := (Array.getElem?_eq_some_iff.1 h).1; unfold fU; rw [List.getElem?_map, List.getElem?_range hi, Option.map_some, h]
theorem nD (h : ops[i]? = none) : (fU md ops).2[i]? = none := by
 have hi : ops.size ≤ i := Array.getElem?_eq_none_iff.1 h; exact List.getElem?_eq_none (by rw [j8]; exact hi)
theorem AO : iT (fU md ops).2 l.toList i = (!l.getD i true && ((ops[i]?).map (·.after.all fun e => !Region.binds md e || l.getD e.on false)).getD false) := by
 unfold iT; rw [gd]
 cases h : ops[i]? with
 | none => rw [nD h]; rfl
 | some o =>
  rw [nC h]; simp only [Option.map_some, Option.getD_some]; rw [← vt]; simp only [gd]
theorem ja : Region.ready md ops l = kF (fU md ops).2 l.toList := by
 unfold Region.ready kF; rw [j8]; refine List.filter_congr (fun i _ => ?_); rw [AO]
theorem Cm : Region.free md ops l i = y6 (fU md ops).2 l.toList i := by
 unfold Region.free y6
 cases h : ops[i]? with
 | none => rw [nD h]
 | some oi =>
  rw [nC h]; simp only [xk]; rw [List.all_filter]; congr 1; funext j; rw [gd]
  cases hj : ops[j]? with
  | none => cases (j == i) <;> cases (l.toList.getD j true) <;> simp
  | some oj =>
   cases (j == i) <;> cases (l.toList.getD j true) <;> cases (oj.after.any (fun e => Region.binds md e && e.on == i) || oi.apart ops oj) <;> simp_all
theorem Dv : Region.pJ md ops l = rM (fU md ops).2 l.toList := by
 unfold Region.pJ rM; rw [j8]; congr 1; funext j; rw [gd]
 cases h : ops[j]? with
 | none => rw [nD h]
 | some o =>
  rw [nC h]; simp only; rw [← vt]; simp only [gd]
theorem y7 : ∀ (fuel d : Nat), Region.jh md ops i fuel d = qx (fU md ops).2 i fuel d
  | 0, _ => rfl
  | fuel + 1, d => by
    unfold Region.jh qx
    cases h : ops[d]? with
    | none => rw [nD h]
    | some o =>
      rw [nC h]
      simp only
      rw [← Du]
      congr 1
      funext e
      rw [y7 fuel]
theorem IV : Region.Cn md ops l ds i = Cl (fU md ops).2 l.toList ds i := by
 unfold Region.Cn Cl; rw [j8]; congr 1; funext d; rw [gd, y7]
theorem qQ (h : iT T.2 l.toList i = true) (hT : fU md ops = T) : (Region.ready md ops l).contains i = true := by
 subst hT; rw [ja]; unfold kF; rw [List.contains_iff_mem, List.mem_filter, List.mem_range]; refine ⟨?_, h⟩; unfold iT at h; rw [Bool.and_eq_true] at h
 cases hq : (fU md ops).2[i]? with
 | none => rw [hq] at h; simp at h
 | some r => exact (List.getElem?_eq_some_iff.1 hq).1
theorem gm (h : (l.toList.set i true == l'.toList) = true) : (l.setIfInBounds i true == l') = true := by
 rw [beq_iff_eq] at h ⊢; apply Array.ext'; rw [Array.toList_setIfInBounds]; exact h
def OU (T : Bool × List (List Nat × List Nat)) (l l' : List Bool) (i : Nat) : Bool := T.1 && y6 T.2 l i && iT T.2 l i && (l.set i true == l')
theorem bQ (hT : fU md ops = T) (h : OU T l.toList l'.toList i = true) : IW md ops l l' i = true := by
 simp only [OU, Bool.and_eq_true] at h; obtain ⟨⟨⟨h1, h2⟩, h3⟩, h4⟩ := h; have h5 := qQ h3 hT; have h6 := gm h4; subst hT; simp only [IW, Bool.and_eq_true]; exact ⟨⟨⟨h1, by rw [Cm]; exact h2⟩, h5⟩, h6⟩
def FC (T : Bool × List (List Nat × List Nat)) (ds : List Nat) (l l' : List Bool) (i : Nat) : Bool := T.1 && y6 T.2 l i && iT T.2 l i && rM T.2 l && Cl T.2 l ds i && (l.set i true == l')
theorem IX (hT : fU md ops = T) (h : FC T ds l.toList l'.toList i = true) : y9 md ops ds l l' i = true := by
 simp only [FC, Bool.and_eq_true] at h; obtain ⟨⟨⟨⟨⟨h1, h2⟩, h3⟩, h4⟩, h5⟩, h6⟩ := h; have h7 := qQ h3 hT; have h8 := gm h6; subst hT; simp only [y9, Bool.and_eq_true]; exact ⟨⟨⟨⟨⟨h1, by rw [Cm]; exact h2⟩, h7⟩, by rw [Dv]; exact h4⟩, by rw [IV]; exact h5⟩, h8⟩
theorem L5 (hT : fU md ops = T) (h : (kF T.2 l.toList == [i] && l.toList.set i true == l'.toList) = true) : xl md ops l l' i = true := by
 simp only [Bool.and_eq_true] at h; obtain ⟨h1, h2⟩ := h; subst hT; simp only [xl, Bool.and_eq_true]; exact ⟨by rw [ja]; exact h1, gm h2⟩
theorem xm (hT : fU md ops = T) (h : (kF T.2 l.toList == []) = true) : (Region.ready md ops l == []) = true := by
 subst hT; rw [ja]; exact h
def Ed (B : List Nat) (d : Nat) : List Nat → Nat
  | [] => 0
  | n :: r => (2 ^ n ||| (if n < d then B.getD n 0 else 0)) ||| Ed B d r
def iU (T : List (List Nat × List Nat)) (B : List Nat) : Bool := (List.range T.length).all fun d => match T[d]? with
  | some r => (B.getD d 0 ||| Ed B d r.1) == Ed B d r.1
  | none => false
theorem lY {B : List Nat} {d i : Nat} : ∀ {ns : List Nat}, (Ed B d ns).testBit i = true → ∃ n ∈ ns, n = i ∨ (n < d ∧ (B.getD n 0).testBit i = true)
  | [], h => by simp [Ed] at h
  | n :: r, h => by
    unfold Ed at h
    rw [Nat.testBit_or, Nat.testBit_or, Bool.or_eq_true, Bool.or_eq_true] at h
    rcases h with (h | h) | h
    · rw [Nat.testBit_two_pow] at h
      exact ⟨n, List.mem_cons_self, .inl (by simpa using h)⟩
    · by_cases hn : n < d
      · rw [if_pos hn] at h
        exact ⟨n, List.mem_cons_self, .inr ⟨hn, h⟩⟩
      · rw [if_neg hn] at h
        simp at h
    · obtain ⟨m, hm, h2⟩ := lY h
      exact ⟨m, List.mem_cons_of_mem _ hm, h2⟩
theorem vu {T : List (List Nat × List Nat)} {B : List Nat} (hB : iU T B = true) : ∀ (fuel d : Nat), d < fuel → d < T.length → (B.getD d 0).testBit i = true → qx T i fuel d = true
  | 0, d, h, _, _ => by omega
  | fuel + 1, d, h, hd, hb => by
    have h1 := List.all_eq_true.1 hB d (List.mem_range.2 hd)
    cases hr : T[d]? with
    | none => rw [hr] at h1; simp at h1
    | some r =>
      rw [hr] at h1
      simp only [beq_iff_eq] at h1
      have h2 : (Ed B d r.1).testBit i = true := by rw [← h1, Nat.testBit_or, hb, Bool.true_or]
      obtain ⟨n, hn, h3⟩ := lY h2
      unfold qx
      rw [hr]
      simp only
      rw [List.any_eq_true]
      refine ⟨n, hn, ?_⟩
      rcases h3 with rfl | ⟨h4, h5⟩
      · simp
      · rw [vu hB fuel n (by omega) (by omega) h5, Bool.or_true]
def Kz (T : List (List Nat × List Nat)) (B : List Nat) (l : List Bool) (ds : List Nat) (i : Nat) : Bool := ds.all fun d => l.getD d true || (decide (d < T.length) && (B.getD d 0).testBit i)
def KA (T : Bool × List (List Nat × List Nat)) (B : List Nat) (ds : List Nat) (l l' : List Bool) (i : Nat) : Bool := T.1 && y6 T.2 l i && iT T.2 l i && rM T.2 l && Kz T.2 B l ds i && (l.set i true == l')
theorem kX {B : List Nat} (hT : fU md ops = T) (hB : iU T.2 B = true) (h : KA T B ds l.toList l'.toList i = true) : y9 md ops ds l l' i = true := by
 refine IX hT ?_; simp only [KA, FC, Bool.and_eq_true] at h ⊢; obtain ⟨⟨⟨⟨⟨h1, h2⟩, h3⟩, h4⟩, h5⟩, h6⟩ := h; refine ⟨⟨⟨⟨⟨h1, h2⟩, h3⟩, h4⟩, ?_⟩, h6⟩; unfold Kz at h5; unfold Cl; rw [List.all_eq_true] at h5 ⊢; intro d hd; have h7 := h5 d hd; rw [Bool.or_eq_true, Bool.and_eq_true, decide_eq_true_eq] at h7; rcases h7 with h7 | ⟨h8, h9⟩
 · rw [h7, Bool.true_or]
 · rw [vu hB _ d h8 h8 h9, Bool.or_true]
theorem qy {P : Program} {Q : Exit → Act → World → Prop} {S : World → Prop} {n : Nat} {a : Act} {w : World} {B : List Nat} (hT : fU md ops = T) (hB : iU T.2 B = true) (h : ag (fU md ops = T) → ag (iU T.2 B = true) → bx P md ops Q S ds n l a w) : bx P md ops Q S ds n l a w := h ⟨hT⟩ ⟨hB⟩
end
def nZ : Code → Nat → Option (Array Oper)
  | .region id ops _, k => if id == k then some ops else none
  | .seq a b, k => match nZ a k with
    | some o => some o
    | none => nZ b k
  | .cond _ a b, k => match nZ a k with
    | some o => some o
    | none => nZ b k
  | .block _ c, k => nZ c k
  | .loop c, k => nZ c k
  | .scope c, k => nZ c k
  | .rangeFunc _ _ a b, k => match nZ a k with
    | some o => some o
    | none => nZ b k
  | _, _ => none
def opsOf (f : Func) (k : Nat) : Array Oper := ((f.body.bind fun c => nZ c k)).getD #[]
end Go.Proofs.YtmjnenjeckeklaaW.PrintLast
