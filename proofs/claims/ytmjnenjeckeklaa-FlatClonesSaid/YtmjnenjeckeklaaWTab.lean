
import Derived.Test.YtmjnenjeckeklaaWLast
import Derived.Test.YtmjnenjeckeklaaWWords
set_option linter.unusedSimpArgs false
namespace Go.Proofs.YtmjnenjeckeklaaW.PrintLast
open Go.Proofs.YtmjnenjeckeklaaW.PrintWords (fZ)
def ua (md : Region.Mode) (o : Oper) : List Nat := (o.after.toList.filter (fun e => Region.binds md e)).map (fun e => e.on)
def CH (md : Region.Mode) (ops : Array Oper) (i : Nat) (oi : Oper) : List Nat := (List.range ops.size).filter fun j => !(j == i) && match ops[j]? with
  | some oj => !(oj.after.any (fun e => Region.binds md e && e.on == i) || oi.apart ops oj)
  | none => false
def mG (md : Region.Mode) (ops : Array Oper) : Bool × List (List Nat × List Nat) := (Region.noSelect ops, (List.range ops.size).map fun i => match ops[i]? with
  | some o => (ua md o, CH md ops i o)
  | none => ([], []))
def oQ (T : List (List Nat × List Nat)) (l : List Bool) (i : Nat) : Bool := !l.getD i true && match T[i]? with
  | some r => r.1.all (fun j => l.getD j false)
  | none => false
def qO (T : List (List Nat × List Nat)) (l : List Bool) : List Nat := (List.range T.length).filter (oQ T l)
def D1 (T : List (List Nat × List Nat)) (l : List Bool) (i : Nat) : Bool := match T[i]? with
  | some r => r.2.all (fun j => l.getD j true)
  | none => false
def yB (T : List (List Nat × List Nat)) (l : List Bool) : Bool := (List.range T.length).all fun j => !l.getD j false || match T[j]? with
  | some r => r.1.all (fun k => l.getD k false)
  | none => true
def xj (T : List (List Nat × List Nat)) (i : Nat) : Nat → Nat → Bool
  | 0, _ => false
  | fuel + 1, d => match T[d]? with
    | some r => r.1.any fun j => j == i || xj T i fuel j
    | none => false
def Hz (T : List (List Nat × List Nat)) (l : List Bool) (ds : List Nat) (i : Nat) : Bool := ds.all fun d => l.getD d true || xj T i T.length d
section
variable {md : Region.Mode} {ops : Array Oper} {T : Bool × List (List Nat × List Nat)} {l l' li lj lk : Array Bool} {ds : List Nat} {i j k : Nat}
theorem gd (l : Array Bool) (j : Nat) (b : Bool) : l.getD j b = l.toList.getD j b := by simp [bq, aH]
theorem Br (o : Oper) (p : Nat → Bool) : o.after.all (fun e => !Region.binds md e || p e.on) = (ua md o).all p := by
 unfold ua; rw [← Array.all_toList]
 induction o.after.toList with
 | nil => rfl
 | cons e r ih =>
  rw [cM, ih, dr]; cases h : Region.binds md e <;> simp
theorem I5 (o : Oper) (p : Nat → Bool) : o.after.any (fun e => Region.binds md e && p e.on) = (ua md o).any p := by
 unfold ua; rw [← Array.any_toList]
 induction o.after.toList with
 | nil => rfl
 | cons e r ih =>
  rw [fP, ih, dr]; cases h : Region.binds md e <;> simp
theorem qz : (mG md ops).2.length = ops.size := by simp [mG]
theorem ud {o : Oper} (h : ops[i]? = some o) : (mG md ops).2[i]? = some (ua md o, CH md ops i o) := by
 have hi := (ck.1 h).1; unfold mG; rw [bD, dK hi, ct, h]
theorem ue (h : ops[i]? = none) : (mG md ops).2[i]? = none := by
 have hi : ops.size ≤ i := Array.getElem?_eq_none_iff.1 h; exact bH (by rw [qz]; exact hi)
theorem FQ : oQ (mG md ops).2 l.toList i = (!l.getD i true && ((ops[i]?).map (·.after.all fun e => !Region.binds md e || l.getD e.on false)).getD false) := by
 unfold oQ; rw [gd]
 cases h : ops[i]? with
 | none => rw [ue h]; rfl
 | some o =>
  rw [ud h]; simp only [ct, b7]; rw [← Br]; simp only [gd]
theorem oY : Region.ready md ops l = qO (mG md ops).2 l.toList := by
 unfold Region.ready qO; rw [qz]; refine dc (fun i _ => ?_); rw [FQ]
theorem HD : Region.free md ops l i = D1 (mG md ops).2 l.toList i := by
 unfold Region.free D1
 cases h : ops[i]? with
 | none => rw [ue h]
 | some oi =>
  rw [ud h]; simp only [CH]; rw [List.all_filter]; congr 1; funext j; rw [gd]
  cases hj : ops[j]? with
  | none => cases (j == i) <;> cases (l.toList.getD j true) <;> simp
  | some oj =>
   cases (j == i) <;> cases (l.toList.getD j true) <;> cases (oj.after.any (fun e => Region.binds md e && e.on == i) || oi.apart ops oj) <;> simp_all
theorem I6 : Region.vW md ops l = yB (mG md ops).2 l.toList := by
 unfold Region.vW yB; rw [qz]; congr 1; funext j; rw [gd]
 cases h : ops[j]? with
 | none => rw [ue h]
 | some o =>
  rw [ud h]; simp only; rw [← Br]; simp only [gd]
theorem D2 : ∀ (fuel d : Nat), Region.pn md ops i fuel d = xj (mG md ops).2 i fuel d
  | 0, _ => rfl
  | fuel + 1, d => by
    unfold Region.pn xj
    cases h : ops[d]? with
    | none => rw [ue h]
    | some o =>
      rw [ud h]
      simp only
      rw [← I5]
      congr 1
      funext e
      rw [D2 fuel]
theorem NZ : Region.HE md ops l ds i = Hz (mG md ops).2 l.toList ds i := by
 unfold Region.HE Hz; rw [qz]; congr 1; funext d; rw [gd, D2]
theorem xG (h : oQ T.2 l.toList i = true) (hT : mG md ops = T) : (Region.ready md ops l).contains i = true := by
 subst hT; rw [oY]; unfold qO; rw [cq, cm, b6]; refine ⟨?_, h⟩; unfold oQ at h; rw [ai] at h
 cases hq : (mG md ops).2[i]? with
 | none => rw [hq] at h; simp at h
 | some r => exact (br.1 hq).1
theorem mT (h : (l.toList.set i true == l'.toList) = true) : (l.setIfInBounds i true == l') = true := by
 rw [bG] at h ⊢; apply ey; rw [dB]; exact h
def TV (T : Bool × List (List Nat × List Nat)) (l l' : List Bool) (i : Nat) : Bool := T.1 && D1 T.2 l i && oQ T.2 l i && (l.set i true == l')
theorem iD (hT : mG md ops = T) (h : TV T l.toList l'.toList i = true) : N0 md ops l l' i = true := by
 simp only [TV, ai] at h; obtain ⟨⟨⟨h1, h2⟩, h3⟩, h4⟩ := h; have h5 := xG h3 hT; have h6 := mT h4; subst hT; simp only [N0, ai]; exact ⟨⟨⟨h1, by rw [HD]; exact h2⟩, h5⟩, h6⟩
def K8 (T : Bool × List (List Nat × List Nat)) (ds : List Nat) (l l' : List Bool) (i : Nat) : Bool := T.1 && D1 T.2 l i && oQ T.2 l i && yB T.2 l && Hz T.2 l ds i && (l.set i true == l')
theorem N1 (hT : mG md ops = T) (h : K8 T ds l.toList l'.toList i = true) : D3 md ops ds l l' i = true := by
 simp only [K8, ai] at h; obtain ⟨⟨⟨⟨⟨h1, h2⟩, h3⟩, h4⟩, h5⟩, h6⟩ := h; have h7 := xG h3 hT; have h8 := mT h6; subst hT; simp only [D3, ai]; exact ⟨⟨⟨⟨⟨h1, by rw [HD]; exact h2⟩, h7⟩, by rw [I6]; exact h4⟩, by rw [NZ]; exact h5⟩, h8⟩
theorem Q9 (hT : mG md ops = T) (h : (qO T.2 l.toList == [i] && l.toList.set i true == l'.toList) = true) : CI md ops l l' i = true := by
 simp only [ai] at h; obtain ⟨h1, h2⟩ := h; subst hT; simp only [CI, ai]; exact ⟨by rw [oY]; exact h1, mT h2⟩
theorem CJ (hT : mG md ops = T) (h : (qO T.2 l.toList == []) = true) : (Region.ready md ops l == []) = true := by
 subst hT; rw [oY]; exact h
def JQ (B : List Nat) (d : Nat) : List Nat → Nat
  | [] => 0
  | n :: r => (2 ^ n ||| (if n < d then B.getD n 0 else 0)) ||| JQ B d r
def oR (T : List (List Nat × List Nat)) (B : List Nat) : Bool := (List.range T.length).all fun d => match T[d]? with
  | some r => (B.getD d 0 ||| JQ B d r.1) == JQ B d r.1
  | none => false
theorem rZ {B : List Nat} {d i : Nat} : ∀ {ns : List Nat}, (JQ B d ns).testBit i = true → ∃ n ∈ ns, n = i ∨ (n < d ∧ (B.getD n 0).testBit i = true)
  | [], h => by simp [JQ] at h
  | n :: r, h => by
    unfold JQ at h
    rw [dw, dw, bI, bI] at h
    rcases h with (h | h) | h
    · rw [Nat.testBit_two_pow] at h
      exact ⟨n, aN, .inl (by simpa using h)⟩
    · by_cases hn : n < d
      · rw [aj hn] at h
        exact ⟨n, aN, .inr ⟨hn, h⟩⟩
      · rw [ag hn] at h
        simp at h
    · obtain ⟨m, hm, h2⟩ := rZ h
      exact ⟨m, aU _ hm, h2⟩
theorem Bt {T : List (List Nat × List Nat)} {B : List Nat} (hB : oR T B = true) : ∀ (fuel d : Nat), d < fuel → d < T.length → (B.getD d 0).testBit i = true → xj T i fuel d = true
  | 0, d, h, _, _ => by omega
  | fuel + 1, d, h, hd, hb => by
    have h1 := aV.1 hB d (b6.2 hd)
    cases hr : T[d]? with
    | none => rw [hr] at h1; simp at h1
    | some r =>
      rw [hr] at h1
      simp only [bG] at h1
      have h2 : (JQ B d r.1).testBit i = true := by rw [← h1, dw, hb, dY]
      obtain ⟨n, hn, h3⟩ := rZ h2
      unfold xj
      rw [hr]
      simp only
      rw [ec]
      refine ⟨n, hn, ?_⟩
      rcases h3 with rfl | ⟨h4, h5⟩
      · simp
      · rw [Bt hB fuel n (by omega) (by omega) h5, fR]
def PI (T : List (List Nat × List Nat)) (B : List Nat) (l : List Bool) (ds : List Nat) (i : Nat) : Bool := ds.all fun d => l.getD d true || (decide (d < T.length) && (B.getD d 0).testBit i)
def PJ (T : Bool × List (List Nat × List Nat)) (B : List Nat) (ds : List Nat) (l l' : List Bool) (i : Nat) : Bool := T.1 && D1 T.2 l i && oQ T.2 l i && yB T.2 l && PI T.2 B l ds i && (l.set i true == l')
theorem rf {B : List Nat} (hT : mG md ops = T) (hB : oR T.2 B = true) (h : PJ T B ds l.toList l'.toList i = true) : D3 md ops ds l l' i = true := by
 refine N1 hT ?_; simp only [PJ, K8, ai] at h ⊢; obtain ⟨⟨⟨⟨⟨h1, h2⟩, h3⟩, h4⟩, h5⟩, h6⟩ := h; refine ⟨⟨⟨⟨⟨h1, h2⟩, h3⟩, h4⟩, ?_⟩, h6⟩; unfold PI at h5; unfold Hz; rw [aV] at h5 ⊢; intro d hd; have h7 := h5 d hd; rw [bI, ai, au] at h7; rcases h7 with h7 | ⟨h8, h9⟩
 · rw [h7, dY]
 · rw [Bt hB _ d h8 h8 h9, fR]
theorem xk {P : Program} {Q : Exit → Act → World → Prop} {S : World → Prop} {n : Nat} {a : Act} {w : World} {B : List Nat} (hT : mG md ops = T) (hB : oR T.2 B = true) (h : fZ (mG md ops = T) → fZ (oR T.2 B = true) → g5 P md ops Q S ds n l a w) : g5 P md ops Q S ds n l a w := h ⟨hT⟩ ⟨hB⟩
end
def uJ : Code → Nat → Option (Array Oper)
  | .region id ops _, k => if id == k then some ops else none
  | .seq a b, k => match uJ a k with
    | some o => some o
    | none => uJ b k
  | .cond _ a b, k => match uJ a k with
    | some o => some o
    | none => uJ b k
  | .block _ c, k => uJ c k
  | .loop c, k => uJ c k
  | .scope c, k => uJ c k
  | .rangeFunc _ _ a b, k => match uJ a k with
    | some o => some o
    | none => uJ b k
  | _, _ => none
def opsOf (f : Func) (k : Nat) : Array Oper := ((f.body.bind fun c => uJ c k)).getD #[]
end Go.Proofs.YtmjnenjeckeklaaW.PrintLast
