/- V, first text: what a cell holds, told without addresses; what it is that a value in a world shows it; a place within it. -/
import Derived.Below
import Derived.Orders
import Derived.LoopN
import Derived.Deep.MidRow
import Derived.Tactics
import Derived.IntWalk
namespace Go.Proofs.Ytfbjhioefkimbaa.V
open Go
set_option linter.unusedVariables false
set_option linter.unusedSimpArgs false

/-- What is told by a word of one's own: of values that own blocks. -/
structure Opq where
  rep : World → Value → List Nat → Prop
  frame : ∀ {w w' : World} {v : Value} {F : List Nat}, rep w v F → (∀ b ∈ F, w'.heap[b]? = w.heap[b]?) → rep w' v F
  lt : ∀ {w : World} {v : Value} {F : List Nat}, rep w v F → ∀ b ∈ F, b < w.heap.size
  one : ∀ {w : World} {v : Value} {F : List Nat}, rep w v F → v.cells = #[v] ∧ v.oneCell' = true
  isp : Bool
  ptr : isp = true → ∀ {w : World} {v : Value} {F : List Nat}, rep w v F → ∃ b, v = .pointer (some ⟨b, 0, none⟩)
/-- What one cell of memory holds: a plain value; an error over a named int; a slice with its rows of cells, one's own or read only; a pointer to a variable with its cells; what a word of one's own tells; what is nobody's any more. -/
inductive C where
  | v (x : Value)
  | err (t : Option Int)
  | sl (own : Bool) (sz : Nat) (rows : List (List C))
  | pt (own : Bool) (cs : List C)
  | x (q : Opq)
  | dead
  deriving Inhabited

def errV (ET : TypeId) : Option Int → Value
  | none => .nilIface
  | some n => .iface ET (.int .i64 n)
/-- No address in it. -/
def plainV : Value → Bool
  | .bool _ | .int _ _ | .string _ | .nilIface | .nilFunc | .pointer none | .map _ | .iface _ (.int _ _) | .iface _ (.string _) | .slice none 0 0 => true
  | _ => false

/-- Whose a block is: one's own (then it is counted), or one of those that nobody writes. -/
def Whose (R : Nat → Prop) (own : Bool) (b : Nat) (F F' : List Nat) : Prop := (own = true ∧ F' = b :: F) ∨ (own = false ∧ R b ∧ F = [] ∧ F' = [])

mutual
inductive RepC (ET : TypeId) (w : World) (R : Nat → Prop) : Value → C → List Nat → Prop
  | v {x : Value} (h : plainV x = true) : RepC ET w R x (.v x) []
  | err (t : Option Int) : RepC ET w R (errV ET t) (.err t) []
  | nil (o : Bool) (sz : Nat) : RepC ET w R (.slice none 0 0) (.sl o sz []) []
  | sl {b off len cap sz : Nat} {own : Bool} {arr : Array Value} {et : TypeId × Nat × Nat} {rows : List (List C)} {F F' : List Nat} (hb : w.heap[b]? = some (.cells arr et.1 et.2))
      (hlen : rows.length = len) (hcap : len ≤ cap) (hsz : 0 < sz) (hfit : off + cap * sz ≤ arr.size) (hrow : ∀ r ∈ rows, r.length = sz)
      (hrep : RepL ET w R ((arr.toList.drop off).take (len * sz)) rows.flatten F) (ho : Whose R own b F F') (hz : own = true → et.2 = (0, 0)) : RepC ET w R (.slice (some ⟨b, off, none⟩) len cap) (.sl own sz rows) F'
  | pt {b : Nat} {own : Bool} {arr : Array Value} {et : TypeId} {cs : List C} {F F' : List Nat} (hb : w.heap[b]? = some (.cells arr et (0, 0)))
      (hrep : RepL ET w R arr.toList cs F) (ho : Whose R own b F F') : RepC ET w R (.pointer (some ⟨b, 0, none⟩)) (.pt own cs) F'
  | x {v : Value} {q : Opq} {F : List Nat} (h : q.rep w v F) : RepC ET w R v (.x q) F
  | dead (x : Value) : RepC ET w R x .dead []
inductive RepL (ET : TypeId) (w : World) (R : Nat → Prop) : List Value → List C → List Nat → Prop
  | nil : RepL ET w R [] [] []
  | cons {x : Value} {c : C} {xs : List Value} {cs : List C} {F G : List Nat} (h : RepC ET w R x c F) (t : RepL ET w R xs cs G) : RepL ET w R (x :: xs) (c :: cs) (F ++ G)
end

section
variable {ET : TypeId} {w w' : World} {R : Nat → Prop}
theorem Whose.mono {R' : Nat → Prop} {own : Bool} {b : Nat} {F F' : List Nat} (h : Whose R own b F F') (hR : ∀ b, R b → R' b) : Whose R' own b F F' := by
  rcases h with h | ⟨h1, h2, h3⟩
  · exact .inl h
  · exact .inr ⟨h1, hR _ h2, h3⟩
theorem Whose.mem {own : Bool} {b : Nat} {F F' : List Nat} (h : Whose R own b F F') : b ∈ F' ∨ R b := by
  rcases h with ⟨_, rfl⟩ | ⟨_, h, _⟩
  · exact .inl (List.mem_cons_self ..)
  · exact .inr h
theorem Whose.sub {own : Bool} {b : Nat} {F F' : List Nat} (h : Whose R own b F F') : ∀ x ∈ F, x ∈ F' := by
  rcases h with ⟨_, rfl⟩ | ⟨_, _, rfl, rfl⟩
  · exact fun x hx => List.mem_cons_of_mem _ hx
  · exact fun x hx => hx

/-- What is shown stays shown where its own blocks, and those that nobody writes, stay. -/
theorem RepC.frame {R' : Nat → Prop} {x : Value} {c : C} {F : List Nat} (h : RepC ET w R x c F) : (∀ b, R b → R' b) → (∀ b, (b ∈ F ∨ R b) → w'.heap[b]? = w.heap[b]?) → RepC ET w' R' x c F := by
  refine RepC.rec (motive_1 := fun x c F _ => (∀ b, R b → R' b) → (∀ b, (b ∈ F ∨ R b) → w'.heap[b]? = w.heap[b]?) → RepC ET w' R' x c F) (motive_2 := fun xs cs F _ => (∀ b, R b → R' b) → (∀ b, (b ∈ F ∨ R b) → w'.heap[b]? = w.heap[b]?) → RepL ET w' R' xs cs F)
    ?_ ?_ ?_ ?_ ?_ ?_ ?_ ?_ ?_ h
  · intro x h _ _; exact .v h
  · intro t _ _; exact .err t
  · intro o sz _ _; exact .nil o sz
  · intro b off len cap sz own arr et rows F F' hb hlen hcap hsz hfit hrow _ ho hz ih hR hw
    exact .sl ((hw b ho.mem).trans hb) hlen hcap hsz hfit hrow (ih hR (fun k hk => hw k (hk.imp (ho.sub k) id))) (ho.mono hR) hz
  · intro b own arr et cs F F' hb _ ho ih hR hw
    exact .pt ((hw b ho.mem).trans hb) (ih hR (fun k hk => hw k (hk.imp (ho.sub k) id))) (ho.mono hR)
  · intro v q F h _ hw; exact .x (q.frame h (fun b hb => hw b (.inl hb)))
  · intro x _ _; exact .dead x
  · intro _ _; exact .nil
  · intro x c xs cs F G _ _ ih1 ih2 hR hw
    exact .cons (ih1 hR (fun k hk => hw k (hk.imp (fun h => List.mem_append_left _ h) id))) (ih2 hR (fun k hk => hw k (hk.imp (fun h => List.mem_append_right _ h) id)))
theorem RepL.frame {R' : Nat → Prop} {xs : List Value} {cs : List C} {F : List Nat} (h : RepL ET w R xs cs F) : (∀ b, R b → R' b) → (∀ b, (b ∈ F ∨ R b) → w'.heap[b]? = w.heap[b]?) → RepL ET w' R' xs cs F := by
  induction cs generalizing xs F with
  | nil => intro _ _; cases h; exact .nil
  | cons c cs ih =>
    intro hR hw
    cases h with
    | cons h t => exact .cons (h.frame hR (fun k hk => hw k (hk.imp (fun h => List.mem_append_left _ h) id))) (ih t hR (fun k hk => hw k (hk.imp (fun h => List.mem_append_right _ h) id)))
theorem RepL.length {xs : List Value} {cs : List C} {F : List Nat} (h : RepL ET w R xs cs F) : xs.length = cs.length := by
  induction cs generalizing xs F with
  | nil => cases h; rfl
  | cons c cs ih => cases h with | cons h t => simp [ih t]
theorem RepL.append {xs ys : List Value} {cs ds : List C} {F G : List Nat} (h : RepL ET w R xs cs F) (k : RepL ET w R ys ds G) : RepL ET w R (xs ++ ys) (cs ++ ds) (F ++ G) := by
  induction cs generalizing xs F with
  | nil => cases h; simpa using k
  | cons c cs ih => cases h with | cons h t => rw [List.cons_append, List.cons_append, List.append_assoc]; exact .cons h (ih t)
theorem RepL.split {xs : List Value} {cs ds : List C} {F : List Nat} (h : RepL ET w R xs (cs ++ ds) F) : ∃ ys zs F1 F2, xs = ys ++ zs ∧ F = F1 ++ F2 ∧ RepL ET w R ys cs F1 ∧ RepL ET w R zs ds F2 := by
  induction cs generalizing xs F with
  | nil => exact ⟨[], xs, [], F, rfl, rfl, .nil, h⟩
  | cons c cs ih =>
    cases h with
    | @cons x _ xs _ F G h t =>
      obtain ⟨ys, zs, F1, F2, rfl, rfl, h1, h2⟩ := ih t
      exact ⟨x :: ys, zs, F ++ F1, F2, rfl, (List.append_assoc ..).symm, .cons h h1, h2⟩
/-- One cell of a row, and what the row is with another in its place. -/
theorem RepL.at_ {xs : List Value} {cs : List C} {F : List Nat} {j : Nat} {c : C} (h : RepL ET w R xs cs F) (hj : cs[j]? = some c) :
    ∃ x F1 Fj F2, xs[j]? = some x ∧ F = F1 ++ (Fj ++ F2) ∧ RepC ET w R x c Fj ∧
      (∀ (w' : World) (y : Value) (d : C) (Fd : List Nat), (∀ b, (b ∈ F1 ∨ b ∈ F2 ∨ R b) → w'.heap[b]? = w.heap[b]?) → RepC ET w' R y d Fd → RepL ET w' R (xs.set j y) (cs.set j d) (F1 ++ (Fd ++ F2))) := by
  induction cs generalizing xs F j with
  | nil => simp at hj
  | cons c0 cs ih =>
    cases h with
    | @cons x0 _ xs _ F0 G h t =>
      cases j with
      | zero =>
        simp only [List.getElem?_cons_zero, Option.some.injEq] at hj
        subst hj
        refine ⟨x0, [], F0, G, rfl, rfl, h, fun w' y d Fd hw hd => ?_⟩
        rw [List.nil_append]
        exact .cons hd (t.frame (fun _ h => h) (fun b hb => hw b (hb.elim (fun h => .inr (.inl h)) (fun h => .inr (.inr h)))))
      | succ j =>
        obtain ⟨x, F1, Fj, F2, hx, rfl, hc, hs⟩ := ih t (by simpa using hj)
        refine ⟨x, F0 ++ F1, Fj, F2, by simpa using hx, by simp, hc, fun w' y d Fd hw hd => ?_⟩
        rw [List.set_cons_succ, List.set_cons_succ, List.append_assoc]
        exact .cons (h.frame (fun _ h => h) (fun b hb => hw b (hb.elim (fun h => .inl (List.mem_append_left _ h)) (fun h => .inr (.inr h))))) (hs w' y d Fd (fun b hb => hw b (hb.elim (fun h => .inl (List.mem_append_right _ h)) (fun h => .inr h))) hd)

/-! ### Places -/
/-- A step from a value to a row of cells: behind a pointer; an element (of so many cells) of a slice. -/
inductive Sel where
  | d
  | i (k sz : Nat)
  deriving DecidableEq
def walkV : Value → Sel → Option (Nat × Nat)
  | .pointer (some ⟨b, o, none⟩), .d => some (b, o)
  | .slice (some ⟨b, o, none⟩) _ _, .i k sz => some (b, o + k * sz)
  | _, _ => none
def walk (w : World) (v : Value) (s : Sel) : List (Nat × Sel) → Option (Nat × Nat)
  | [] => walkV v s
  | (j, s') :: p => (walkV v s).bind fun q => (w.cell? ⟨q.1, q.2 + j, none⟩).bind fun v' => walk w v' s' p
def selC : C → Sel → Option (List C)
  | .pt _ cs, .d => some cs
  | .sl _ sz rows, .i k sz' => if sz' = sz then rows[k]? else none
  | _, _ => none
def getP (c : C) (s : Sel) : List (Nat × Sel) → Option (List C)
  | [] => selC c s
  | (j, s') :: p => (selC c s).bind fun cs => (cs[j]?).bind fun c' => getP c' s' p
def setS : C → Sel → List C → C
  | .pt o _, .d, cs => .pt o cs
  | .sl o sz rows, .i k _, cs => .sl o sz (rows.set k cs)
  | c, _, _ => c
def ownC : C → Bool
  | .pt o _ | .sl o _ _ => o
  | _ => false
def setP (c : C) (s : Sel) : List (Nat × Sel) → List C → C
  | [], new => setS c s new
  | (j, s') :: p, new =>
    match selC c s with
    | some cs => match cs[j]? with
      | some c' => setS c s (cs.set j (setP c' s' p new))
      | none => c
    | none => c
/-- All on the way is one's own. -/
def ownP (c : C) (s : Sel) : List (Nat × Sel) → Bool
  | [] => ownC c
  | (j, s') :: p => ownC c && match selC c s with
    | some cs => match cs[j]? with
      | some c' => ownP c' s' p
      | none => false
    | none => false

theorem flatten_at {α : Type} {sz : Nat} {rows : List (List α)} (hrow : ∀ r ∈ rows, r.length = sz) {k : Nat} {cs : List α} (hk : rows[k]? = some cs) :
    rows.flatten = (rows.take k).flatten ++ (cs ++ (rows.drop (k + 1)).flatten) ∧ (rows.take k).flatten.length = k * sz ∧ (rows.drop (k + 1)).flatten.length = (rows.length - (k + 1)) * sz := by
  have hk2 : k < rows.length := by
    rcases Nat.lt_or_ge k rows.length with h | h
    · exact h
    · rw [List.getElem?_eq_none h] at hk; cases hk
  have hsum : ∀ l : List (List α), (∀ r ∈ l, r.length = sz) → l.flatten.length = l.length * sz := by
    intro l hl
    induction l with
    | nil => simp
    | cons r l ih =>
      rw [List.flatten_cons, List.length_append, ih (fun r hr => hl r (List.mem_cons_of_mem _ hr)), hl r (List.mem_cons_self ..), List.length_cons, Nat.add_mul, Nat.one_mul, Nat.add_comm]
  refine ⟨?_, ?_, ?_⟩
  · have : rows = rows.take k ++ cs :: rows.drop (k + 1) := by
      rw [List.getElem?_eq_some_iff] at hk
      obtain ⟨h1, h2⟩ := hk
      rw [← h2, List.getElem_cons_drop, List.take_append_drop]
    conv => lhs; rw [this]
    simp
  · rw [hsum _ (fun r hr => hrow r (List.mem_of_mem_take hr)), List.length_take, Nat.min_eq_left (Nat.le_of_lt hk2)]
  · rw [hsum _ (fun r hr => hrow r (List.mem_of_mem_drop hr)), List.length_drop]
theorem flatten_len {α : Type} {sz : Nat} {l : List (List α)} (hl : ∀ r ∈ l, r.length = sz) : l.flatten.length = l.length * sz := by
  induction l with
  | nil => simp
  | cons r l ih => rw [List.flatten_cons, List.length_append, ih (fun r hr => hl r (List.mem_cons_of_mem _ hr)), hl r (List.mem_cons_self ..), List.length_cons, Nat.add_mul, Nat.one_mul, Nat.add_comm]
end
end Go.Proofs.Ytfbjhioefkimbaa.V
namespace Go.Proofs.Ytfbjhioefkimbaa.V
open Go
set_option linter.unusedVariables false
set_option linter.unusedSimpArgs false
section
variable {ET : TypeId} {w w' : World} {R : Nat → Prop}

theorem win {α : Type} {l a x b : List α} {off n : Nat} (h : (l.drop off).take n = a ++ (x ++ b)) (hn : off + n ≤ l.length) :
    (l.drop (off + a.length)).take x.length = x ∧ off + a.length + x.length ≤ l.length ∧ ∀ y : List α, y.length = x.length → ((l.take (off + a.length) ++ (y ++ l.drop (off + a.length + x.length))).drop off).take n = a ++ (y ++ b) := by
  have hlen : n = a.length + (x.length + b.length) := by
    have := congrArg List.length h
    rw [List.length_take, List.length_drop, List.length_append, List.length_append] at this
    omega
  have hl : l = l.take off ++ ((a ++ (x ++ b)) ++ l.drop (off + n)) := by
    rw [← h, ← List.drop_drop, List.take_append_drop, List.take_append_drop]
  generalize hP : l.take off = P at hl
  generalize hS : l.drop (off + n) = S at hl
  have hPl : P.length = off := by rw [← hP, List.length_take]; omega
  subst hl
  subst hPl
  have e1 : (P ++ (a ++ (x ++ b) ++ S)).take (P.length + a.length) = P ++ a := by
    rw [show P ++ (a ++ (x ++ b) ++ S) = (P ++ a) ++ (x ++ (b ++ S)) by simp, ← List.length_append, List.take_left]
  have e2 : (P ++ (a ++ (x ++ b) ++ S)).drop (P.length + a.length + x.length) = b ++ S := by
    rw [show P ++ (a ++ (x ++ b) ++ S) = (P ++ (a ++ x)) ++ (b ++ S) by simp, show P.length + a.length + x.length = (P ++ (a ++ x)).length by simp; omega, List.drop_left]
  have e3 : (P ++ (a ++ (x ++ b) ++ S)).drop (P.length + a.length) = x ++ (b ++ S) := by
    rw [show P ++ (a ++ (x ++ b) ++ S) = (P ++ a) ++ (x ++ (b ++ S)) by simp, ← List.length_append, List.drop_left]
  refine ⟨by rw [e3, List.take_left], by simp; omega, fun y hy => ?_⟩
  rw [e1, e2, List.append_assoc, List.drop_left, hlen, show a ++ (y ++ (b ++ S)) = (a ++ (y ++ b)) ++ S by simp, show a.length + (x.length + b.length) = (a ++ (y ++ b)).length by simp; omega, List.take_left]

/-- What one row is, and what becomes of the value with another in its place: one step. -/
theorem RepC.lens0 {v : Value} {c : C} {F : List Nat} {s : Sel} {cs : List C} (h : RepC ET w R v c F) (hs : selC c s = some cs) :
    ∃ b o arr, ∃ et : TypeId × Nat × Nat, ∃ Fo Fi, walkV v s = some (b, o) ∧ w.heap[b]? = some (.cells arr et.1 et.2) ∧ o + cs.length ≤ arr.size ∧ RepL ET w R ((arr.toList.drop o).take cs.length) cs Fi ∧
      ((ownC c = true ∧ F.Perm (Fo ++ Fi) ∧ b ∈ Fo) ∨ (ownC c = false ∧ R b ∧ F = [] ∧ Fi = [])) ∧ (ownC c = true → et.2 = (0, 0)) ∧
      (ownC c = true → F.Nodup → ∀ (w' : World) (arr' : Array Value) (ys : List Value) (ds : List C) (Fd : List Nat), ds.length = cs.length → w'.heap[b]? = some (.cells arr' et.1 (0, 0)) →
        arr'.toList = arr.toList.take o ++ (ys ++ arr.toList.drop (o + cs.length)) → (∀ b' ∈ Fo, b' ≠ b → w'.heap[b']? = w.heap[b']?) → (∀ b', R b' → w'.heap[b']? = w.heap[b']?) → RepL ET w' R ys ds Fd →
        ∃ F2, RepC ET w' R v (setS c s ds) F2 ∧ F2.Perm (Fo ++ Fd)) := by
  cases h with
  | v h => cases s <;> simp [selC] at hs
  | err t => cases s <;> simp [selC] at hs
  | dead x => cases s <;> simp [selC] at hs
  | x h => cases s <;> simp [selC] at hs
  | nil o sz => cases s <;> simp [selC] at hs
  | @pt b own arr et cs0 F1 F' hb hrep ho =>
    cases s with
    | i k sz => simp [selC] at hs
    | d =>
      simp only [selC, Option.some.injEq] at hs
      subst hs
      have hl := hrep.length
      have hwin : (arr.toList.drop 0).take cs0.length = arr.toList := by rw [List.drop_zero, ← hl]; exact List.take_length ..
      refine ⟨b, 0, arr, (et, 0, 0), [b], F1, rfl, hb, by rw [Nat.zero_add, ← hl]; simp, by rw [hwin]; exact hrep, ?_, fun _ => rfl, ?_⟩
      · rcases ho with ⟨h1, rfl⟩ | ⟨h1, h2, rfl, rfl⟩
        · exact .inl ⟨h1, List.Perm.refl _, List.mem_singleton.mpr rfl⟩
        · exact .inr ⟨h1, h2, rfl, rfl⟩
      · intro hown _ w' arr' ys ds Fd hds hb' harr hfo hR hys
        have hown' : own = true := hown
        refine ⟨b :: Fd, .pt hb' ?_ (.inl ⟨hown', rfl⟩), List.Perm.refl _⟩
        rw [harr, List.take_zero, List.nil_append, Nat.zero_add, ← hl, List.drop_length, List.append_nil]
        exact hys
  | @sl b off len cap sz own arr et rows F1 F' hb hlen hcap hsz hfit hrow hrep ho hz0 =>
    cases s with
    | d => simp [selC] at hs
    | i k sz' =>
      simp only [selC] at hs
      by_cases hz : sz' = sz
      · rw [if_pos hz] at hs
        subst hz
        obtain ⟨hfl, hA, hB⟩ := flatten_at hrow hs
        have hcs : cs.length = sz' := hrow _ (List.mem_of_getElem? hs)
        rw [hfl] at hrep
        obtain ⟨ya, zs, FA, FZ, e1, rfl, hya, hzs⟩ := hrep.split
        obtain ⟨yx, yb, Fi, FB, rfl, rfl, hyx, hyb⟩ := hzs.split
        have hlt : off + len * sz' ≤ arr.toList.length := by
          have := Nat.mul_le_mul_right sz' hcap
          simp; omega
        obtain ⟨w1, w2, w3⟩ := win e1 hlt
        have la : ya.length = k * sz' := by rw [hya.length, hA]
        have lx : yx.length = cs.length := hyx.length
        rw [la, lx] at w1 w2
        refine ⟨b, off + k * sz', arr, et, b :: (FA ++ FB), Fi, rfl, hb, by simpa using w2, by rw [w1]; exact hyx, ?_, hz0, ?_⟩
        · rcases ho with ⟨h1, rfl⟩ | ⟨h1, h2, h3, rfl⟩
          · refine .inl ⟨h1, ?_, List.mem_cons_self ..⟩
            rw [List.cons_append]
            refine List.Perm.cons _ ?_
            rw [List.append_assoc]
            exact List.Perm.append_left _ List.perm_append_comm
          · obtain ⟨_, h4⟩ := List.append_eq_nil_iff.mp h3
            exact .inr ⟨h1, h2, rfl, (List.append_eq_nil_iff.mp h4).1⟩
        · intro hown hnd w' arr' ys ds Fd hds hb' harr hfo hR hys
          have hown' : own = true := hown
          rcases ho with ⟨h1, rfl⟩ | ⟨h1, _⟩
          case inr => rw [hown'] at h1; cases h1
          have hnb : ∀ b' ∈ FA ++ FB, b' ≠ b := by
            intro b' hb1 e
            rw [List.nodup_cons] at hnd
            apply hnd.1
            rw [← e]
            rcases List.mem_append.mp hb1 with h | h
            · exact List.mem_append_left _ h
            · exact List.mem_append_right _ (List.mem_append_right _ h)
          have hsz2 : arr'.size = arr.size := by
            have := congrArg List.length harr
            rw [Array.length_toList, List.length_append, List.length_append, List.length_take, List.length_drop, hys.length, hds] at this
            simp at this w2
            omega
          refine ⟨b :: (FA ++ (Fd ++ FB)), .sl (rows := rows.set k ds) (et := (et.1, (0, 0))) hb' (by rw [List.length_set]; exact hlen) hcap hsz (by rw [hsz2]; exact hfit) ?_ ?_ (.inl ⟨hown', rfl⟩) (fun _ => rfl), ?_⟩
          · intro r hr
            rcases List.mem_or_eq_of_mem_set hr with h | h
            · exact hrow r h
            · rw [h, hds, hcs]
          · have hk2 : k < rows.length := by
              rcases Nat.lt_or_ge k rows.length with h | h
              · exact h
              · rw [List.getElem?_eq_none h] at hs; cases hs
            have e2 : (rows.set k ds).flatten = (rows.take k).flatten ++ (ds ++ (rows.drop (k + 1)).flatten) := by
              rw [List.set_eq_take_append_cons_drop, if_pos hk2]
              simp
            have e3 : (arr'.toList.drop off).take (len * sz') = ya ++ (ys ++ yb) := by
              rw [harr]
              have := w3 ys (by rw [hys.length, hds, lx])
              rw [la, lx] at this
              exact this
            rw [e2, e3]
            refine (hya.frame (fun _ h => h) ?_).append (hys.append (hyb.frame (fun _ h => h) ?_))
            · intro b' hb1
              rcases hb1 with h | h
              · exact hfo b' (List.mem_cons_of_mem _ (List.mem_append_left _ h)) (hnb b' (List.mem_append_left _ h))
              · exact hR b' h
            · intro b' hb1
              rcases hb1 with h | h
              · exact hfo b' (List.mem_cons_of_mem _ (List.mem_append_right _ h)) (hnb b' (List.mem_append_right _ h))
              · exact hR b' h
          · rw [List.cons_append]
            refine List.Perm.cons _ ?_
            rw [List.append_assoc]
            exact List.Perm.append_left _ List.perm_append_comm
      · rw [if_neg hz] at hs; cases hs
/-- A row of cells, read. -/
theorem RepC.read : ∀ (p : List (Nat × Sel)) {v : Value} {c : C} {F : List Nat} {s : Sel} {cs : List C}, RepC ET w R v c F → getP c s p = some cs →
    ∃ b o arr, ∃ et : TypeId × Nat × Nat, ∃ Fi, walk w v s p = some (b, o) ∧ w.heap[b]? = some (.cells arr et.1 et.2) ∧ o + cs.length ≤ arr.size ∧ RepL ET w R ((arr.toList.drop o).take cs.length) cs Fi ∧ (∀ x ∈ Fi, x ∈ F) ∧ (b ∈ F ∨ R b) := by
  intro p
  induction p with
  | nil =>
    intro v c F s cs h hg
    obtain ⟨b, o, arr, et, Fo, Fi, h1, h2, h3, h4, h5, _⟩ := h.lens0 hg
    refine ⟨b, o, arr, et, Fi, h1, h2, h3, h4, ?_, ?_⟩
    · intro x hx
      rcases h5 with ⟨_, hp, _⟩ | ⟨_, _, _, rfl⟩
      · exact hp.mem_iff.mpr (List.mem_append_right _ hx)
      · cases hx
    · rcases h5 with ⟨_, hp, hb⟩ | ⟨_, hr, _⟩
      · exact .inl (hp.mem_iff.mpr (List.mem_append_left _ hb))
      · exact .inr hr
  | cons q p ih =>
    obtain ⟨j, s'⟩ := q
    intro v c F s cs h hg
    simp only [getP, Option.bind_eq_some_iff] at hg
    obtain ⟨cs0, hs0, c', hc', hg'⟩ := hg
    obtain ⟨b, o, arr, et, Fo, Fi, h1, h2, h3, h4, h5, _⟩ := h.lens0 hs0
    obtain ⟨x, F1, Fj, F2, hx, hFi, hrx, _⟩ := h4.at_ hc'
    obtain ⟨b2, o2, arr2, et2, Fi2, k1, k2, k3, k4, k5, k6⟩ := ih hrx hg'
    have hsub : ∀ y ∈ Fj, y ∈ F := by
      intro y hy
      have hy2 : y ∈ Fi := by rw [hFi]; exact List.mem_append_right _ (List.mem_append_left _ hy)
      rcases h5 with ⟨_, hp, _⟩ | ⟨_, _, _, e⟩
      · exact hp.mem_iff.mpr (List.mem_append_right _ hy2)
      · rw [e] at hy2; cases hy2
    refine ⟨b2, o2, arr2, et2, Fi2, ?_, k2, k3, k4, fun y hy => hsub y (k5 y hy), k6.imp (hsub _) id⟩
    have hj : j < cs0.length := by
      rcases Nat.lt_or_ge j cs0.length with h | h
      · exact h
      · rw [List.getElem?_eq_none h] at hc'; cases hc'
    have hcell : w.cell? ⟨b, o + j, none⟩ = some x := by
      simp only [World.cell?, h2]
      rw [List.getElem?_take_of_lt hj, List.getElem?_drop] at hx
      simpa using hx
    simp only [walk, h1, Option.bind_some, hcell]
    exact k1
/-- A row of cells, and what becomes of the value with another in its place. -/
theorem RepC.lens : ∀ (p : List (Nat × Sel)) {v : Value} {c : C} {F : List Nat} {s : Sel} {cs : List C}, RepC ET w R v c F → F.Nodup → getP c s p = some cs → ownP c s p = true →
    ∃ b o arr et Fo Fi, walk w v s p = some (b, o) ∧ w.heap[b]? = some (.cells arr et (0, 0)) ∧ o + cs.length ≤ arr.size ∧ RepL ET w R ((arr.toList.drop o).take cs.length) cs Fi ∧ F.Perm (Fo ++ Fi) ∧ b ∈ Fo ∧
      (∀ (w' : World) (arr' : Array Value) (ys : List Value) (ds : List C) (Fd : List Nat), ds.length = cs.length → w'.heap[b]? = some (.cells arr' et (0, 0)) →
        arr'.toList = arr.toList.take o ++ (ys ++ arr.toList.drop (o + cs.length)) → (∀ b' ∈ Fo, b' ≠ b → w'.heap[b']? = w.heap[b']?) → (∀ b', R b' → w'.heap[b']? = w.heap[b']?) → RepL ET w' R ys ds Fd →
        ∃ F2, RepC ET w' R v (setP c s p ds) F2 ∧ F2.Perm (Fo ++ Fd)) := by
  intro p
  induction p with
  | nil =>
    intro v c F s cs h hnd hg ho
    obtain ⟨b, o, arr, et, Fo, Fi, h1, h2, h3, h4, h5, hz, h6⟩ := h.lens0 hg
    have ho' : ownC c = true := ho
    rw [hz ho'] at h2
    rcases h5 with ⟨_, hp, hb⟩ | ⟨h, _⟩
    · exact ⟨b, o, arr, et.1, Fo, Fi, h1, h2, h3, h4, hp, hb, h6 ho' hnd⟩
    · rw [ho'] at h; cases h
  | cons q p ih =>
    obtain ⟨j, s'⟩ := q
    intro v c F s cs h hnd hg ho
    simp only [getP, Option.bind_eq_some_iff] at hg
    obtain ⟨cs0, hs0, c', hc', hg'⟩ := hg
    simp only [ownP, hs0, hc', Bool.and_eq_true] at ho
    obtain ⟨ho1, ho2⟩ := ho
    obtain ⟨b, o, arr, et, Fo, Fi, h1, h2, h3, h4, h5, hz, h6⟩ := h.lens0 hs0
    rw [hz ho1] at h2
    rcases h5 with ⟨_, hp, hb⟩ | ⟨h, _⟩
    case inr => rw [ho1] at h; cases h
    have hup := h6 ho1 hnd
    obtain ⟨x, F1, Fj, F2, hx, rfl, hrx, hset⟩ := h4.at_ hc'
    have hnd2 : (Fo ++ (F1 ++ (Fj ++ F2))).Nodup := hp.nodup_iff.mp hnd
    have hndj : Fj.Nodup := ((List.nodup_append.mp (List.nodup_append.mp (List.nodup_append.mp hnd2).2.1).2.1)).1
    obtain ⟨b2, o2, arr2, et2, Fo2, Fi2, k1, k2, k3, k4, k5, k6, k7⟩ := ih hrx hndj hg' ho2
    have hj : j < cs0.length := by
      rcases Nat.lt_or_ge j cs0.length with h | h
      · exact h
      · rw [List.getElem?_eq_none h] at hc'; cases hc'
    have hcell : w.cell? ⟨b, o + j, none⟩ = some x := by
      simp only [World.cell?, h2]
      rw [List.getElem?_take_of_lt hj, List.getElem?_drop] at hx
      simpa using hx
    have hin : b2 ∈ Fj := k5.mem_iff.mpr (List.mem_append_left _ k6)
    have hbb : b ≠ b2 := by
      rintro rfl
      exact (List.nodup_append.mp hnd2).2.2 b hb b (List.mem_append_right _ (List.mem_append_left _ hin)) rfl
    have hdis : ∀ y ∈ Fj, ∀ z, z ∈ Fo ∨ z ∈ F1 ∨ z ∈ F2 → z ≠ y := by
      intro y hy z hz e
      subst e
      obtain ⟨_, n2, n3⟩ := List.nodup_append.mp hnd2
      obtain ⟨_, n4, n5⟩ := List.nodup_append.mp n2
      obtain ⟨_, _, n6⟩ := List.nodup_append.mp n4
      rcases hz with h | h | h
      · exact n3 z h z (List.mem_append_right _ (List.mem_append_left _ hy)) rfl
      · exact n5 z h z (List.mem_append_left _ hy) rfl
      · exact n6 z hy z h rfl
    refine ⟨b2, o2, arr2, et2, Fo ++ (F1 ++ (Fo2 ++ F2)), Fi2, ?_, k2, k3, k4, ?_, List.mem_append_right _ (List.mem_append_right _ (List.mem_append_left _ k6)), ?_⟩
    · simp only [walk, h1, Option.bind_some, hcell]
      exact k1
    · refine hp.trans ?_
      rw [List.append_assoc]
      refine List.Perm.append_left _ ?_
      rw [List.append_assoc]
      refine List.Perm.append_left _ ?_
      rw [List.append_assoc]
      refine (List.Perm.append_right F2 k5).trans ?_
      rw [List.append_assoc]
      exact List.Perm.append_left _ List.perm_append_comm
    · intro w' arr' ys ds Fd hds hb' harr hfo hR hys
      obtain ⟨F3, hc3, hp3⟩ := k7 w' arr' ys ds Fd hds hb' harr (fun b' h1 h2 => hfo b' (List.mem_append_right _ (List.mem_append_right _ (List.mem_append_left _ h1))) h2) hR hys
      have hout : ∀ z, z ∈ Fo ∨ z ∈ F1 ∨ z ∈ F2 → w'.heap[z]? = w.heap[z]? := by
        intro z hz
        refine hfo z ?_ (hdis b2 hin z hz)
        rcases hz with h | h | h
        · exact List.mem_append_left _ h
        · exact List.mem_append_right _ (List.mem_append_left _ h)
        · exact List.mem_append_right _ (List.mem_append_right _ (List.mem_append_right _ h))
      have hrow := hset w' x (setP c' s' p ds) F3 (fun z hz => hz.elim (fun h => hout z (.inr (.inl h))) (fun h => h.elim (fun h => hout z (.inr (.inr h))) (fun h => hR z h))) hc3
      have hxs : ((arr.toList.drop o).take cs0.length).set j x = (arr.toList.drop o).take cs0.length := by
        rw [List.getElem?_eq_some_iff] at hx
        obtain ⟨hx1, hx2⟩ := hx
        rw [← hx2]
        exact List.set_getElem_self _
      rw [hxs] at hrow
      have harr0 : arr.toList = arr.toList.take o ++ ((arr.toList.drop o).take cs0.length ++ arr.toList.drop (o + cs0.length)) := by
        rw [← List.drop_drop, List.take_append_drop, List.take_append_drop]
      obtain ⟨F4, hc4, hp4⟩ := hup w' arr _ (cs0.set j (setP c' s' p ds)) _ (by rw [List.length_set]) ((hout b (.inl hb)).trans h2) harr0 (fun z hz _ => hout z (.inl hz)) hR hrow
      refine ⟨F4, ?_, hp4.trans ?_⟩
      · simp only [setP, hs0, hc']
        exact hc4
      · rw [List.append_assoc]
        refine List.Perm.append_left _ ?_
        rw [List.append_assoc]
        refine List.Perm.append_left _ ?_
        refine (List.Perm.append_right F2 hp3).trans ?_
        rw [List.append_assoc, List.append_assoc]
        exact List.Perm.append_left _ List.perm_append_comm
end
end Go.Proofs.Ytfbjhioefkimbaa.V
namespace Go.Proofs.Ytfbjhioefkimbaa.V
open Go Go.RowKit
set_option linter.unusedVariables false
set_option linter.unusedSimpArgs false

/-- A value: of one cell, or a struct's cells. -/
inductive U where
  | c (x : C)
  | agg (cs : List C)
  | fn (f : FuncId) (caps : List C)
  deriving Inhabited
/-- A captured variable: the pointer in a temporary; or a value. -/
inductive Cap where
  | ref (r : Nat)
  | val (x : C)
/-- What a temporary holds: nothing that is known; a value; results; an address within what another temporary holds (or it itself); a slice of what another temporary's slice (or a slice within it) holds; a function with what it captured. -/
inductive T where
  | junk
  | u (x : U)
  | tup (xs : List U)
  | addr (r : Nat) (s : Sel) (p : List (Nat × Sel)) (off : Nat)
  | view (r : Nat) (pl : Option (Sel × List (Nat × Sel) × Nat)) (sz lo n : Nat)
  | whole (r : Nat) (pl : Option (Sel × List (Nat × Sel) × Nat)) (sz n : Nat)
  | fn (f : FuncId) (caps : List Cap)
instance : Inhabited T := ⟨.junk⟩

inductive RepU (ET : TypeId) (w : World) (R : Nat → Prop) : Value → U → List Nat → Prop
  | c {x : Value} {c : C} {F : List Nat} (h : RepC ET w R x c F) : RepU ET w R x (.c c) F
  | agg {arr : Array Value} {cs : List C} {F : List Nat} (h : RepL ET w R arr.toList cs F) : RepU ET w R (.agg arr) (.agg cs) F
  | fn {f : FuncId} {arr : Array Value} {cs : List C} (h : RepL ET w R arr.toList cs []) : RepU ET w R (.func (.func f) #[] arr) (.fn f cs) []
inductive RepUs (ET : TypeId) (w : World) (R : Nat → Prop) : List Value → List U → List Nat → Prop
  | nil : RepUs ET w R [] [] []
  | cons {x : Value} {u : U} {xs : List Value} {us : List U} {F G : List Nat} (h : RepU ET w R x u F) (t : RepUs ET w R xs us G) : RepUs ET w R (x :: xs) (u :: us) (F ++ G)
/-- A part of a slice. -/
def SubSl (sz : Nat) (sv : Value) (lo n : Nat) (v : Value) : Prop :=
  (sv = .slice none 0 0 ∧ v = .slice none 0 0 ∧ lo = 0 ∧ n = 0) ∨
  ∃ b o L cap, sv = .slice (some ⟨b, o, none⟩) L cap ∧ L ≤ cap ∧ lo + n ≤ L ∧
    ((v = .slice (some ⟨b, o + lo * sz, none⟩) n (cap - lo)) ∨ (n = 0 ∧ lo = cap ∧ ∃ o', o' ≤ o + lo * sz ∧ v = .slice (some ⟨b, o', none⟩) 0 0))
def slAt (w : World) (tmps : Array Value) (r : Nat) : Option (Sel × List (Nat × Sel) × Nat) → Option Value
  | none => some (tmps.getD r undef)
  | some (s, p, off) => (walk w (tmps.getD r undef) s p).bind fun q => w.cell? ⟨q.1, q.2 + off, none⟩
inductive RepT (ET : TypeId) (w : World) (R : Nat → Prop) (tmps : Array Value) : Value → T → List Nat → Prop
  | junk (v : Value) : RepT ET w R tmps v .junk []
  | u {v : Value} {x : U} {F : List Nat} (h : RepU ET w R v x F) : RepT ET w R tmps v (.u x) F
  | tup {arr : Array Value} {us : List U} {F : List Nat} (h : RepUs ET w R arr.toList us F) : RepT ET w R tmps (.tuple arr) (.tup us) F
  | addr {r off b o : Nat} {s : Sel} {p : List (Nat × Sel)} (h : walk w (tmps.getD r undef) s p = some (b, o)) : RepT ET w R tmps (.pointer (some ⟨b, o + off, none⟩)) (.addr r s p off) []
  | view {r sz lo n : Nat} {pl : Option (Sel × List (Nat × Sel) × Nat)} {sv v : Value} (h : slAt w tmps r pl = some sv) (hs : SubSl sz sv lo n v) : RepT ET w R tmps v (.view r pl sz lo n) []
  | whole {r sz n : Nat} {pl : Option (Sel × List (Nat × Sel) × Nat)} {v : Value} (h : slAt w tmps r pl = some v) (hs : SubSl sz v 0 n v) : RepT ET w R tmps v (.whole r pl sz n) []
  | fn {f : FuncId} {caps : List Cap} {arr : Array Value} (hl : arr.size = caps.length)
      (h : ∀ (i : Nat) (c : Cap), caps[i]? = some c → ∃ v, arr[i]? = some v ∧ match c with | .ref r => v = tmps.getD r undef | .val x => RepC ET w R v x []) : RepT ET w R tmps (.func (.func f) #[] arr) (.fn f caps) []

abbrev St := Nat → T
def St.of (l : List (Nat × T)) : St := fun i => (l.lookup i).getD .junk
/-- Put over: what a list says, else what stood. -/
def over (σ : St) (A : List (Nat × T)) : St := fun i => (A.lookup i).getD (σ i)

/-- What is the same through a whole function: the world that it began in, its own blocks there, those that nobody writes; how many temporaries there are. -/
structure Ctx where
  ET : TypeId
  w0 : World
  R : Nat → Prop
  E : List Nat
  n : Nat
  pins : List Nat
  vs : Nat → Value
/-- A temporary that may be put. -/
def okT (K : Ctx) (d : Nat) : Bool := Nat.blt d K.n && !K.pins.contains d
/-- From a world to another one: all blocks that were there, but for some, are the same. -/
structure Keeps (w : World) (E : List Nat) (w' : World) : Prop where
  os : w'.os = w.os
  tape : w'.tape = w.tape
  output : w'.output = w.output
  size : w.heap.size ≤ w'.heap.size
  block : ∀ b, b < w.heap.size → b ∉ E → w'.heap[b]? = w.heap[b]?
theorem Keeps.refl (w : World) (E : List Nat) : Keeps w E w := ⟨rfl, rfl, rfl, Nat.le_refl _, fun _ _ _ => rfl⟩
theorem Keeps.trans {w w1 w2 : World} {E E1 : List Nat} (h : Keeps w E w1) (k : Keeps w1 E1 w2) (hE : ∀ b ∈ E1, b ∈ E ∨ w.heap.size ≤ b) : Keeps w E w2 := by
  refine ⟨k.os.trans h.os, k.tape.trans h.tape, k.output.trans h.output, Nat.le_trans h.size k.size, fun b hb hn => ?_⟩
  refine (k.block b (Nat.lt_of_lt_of_le hb h.size) (fun hm => ?_)).trans (h.block b hb hn)
  rcases hE b hm with h | h
  · exact hn h
  · omega
theorem Keeps.of_below {w w' : World} (h : Below w.heap.size w w') (E : List Nat) : Keeps w E w' := ⟨h.os, h.tape, h.output, h.size, fun b hb _ => h.block b hb⟩
theorem Keeps.below {w w' : World} (h : Keeps w [] w') : Below w.heap.size w w' := ⟨h.os, h.tape, h.output, h.size, fun b hb => h.block b hb (by simp)⟩

/-- The state shows what is told of it, with these blocks as each temporary's own. -/
structure SimF (K : Ctx) (σ : St) (a : Act) (w : World) (Fs : Nat → List Nat) : Prop where
  rep : ∀ i, RepT K.ET w K.R a.tmps (a.tmps.getD i undef) (σ i) (Fs i)
  nd : ∀ i, (Fs i).Nodup
  dis : ∀ i j b, b ∈ Fs i → b ∈ Fs j → i = j
  own : ∀ i b, b ∈ Fs i → ¬ K.R b ∧ (b ∈ K.E ∨ K.w0.heap.size ≤ b)
  keeps : Keeps K.w0 K.E w
  ro : ∀ b, K.R b → b < K.w0.heap.size ∧ b ∉ K.E
  size : a.tmps.size = K.n
  pin : ∀ i, K.pins.contains i = true → a.tmps.getD i undef = K.vs i
  defers : a.defers = []
def Sim (K : Ctx) (σ : St) (a : Act) (w : World) : Prop := ∃ Fs, SimF K σ a w Fs

section
variable {ET : TypeId} {w w' : World} {R : Nat → Prop} {K : Ctx}
theorem blk_lt {w : World} {b : Nat} {o : Obj} (h : w.heap[b]? = some o) : b < w.heap.size := by
  rcases Nat.lt_or_ge b w.heap.size with h' | h'
  · exact h'
  · rw [Array.getElem?_eq_none h'] at h; cases h
theorem cell_blk {w w' : World} {ad : Addr} (h : w'.heap[ad.block]? = w.heap[ad.block]?) : w'.cell? ad = w.cell? ad := by unfold World.cell?; rw [h]
theorem cell_lt {w : World} {ad : Addr} {v : Value} (h : w.cell? ad = some v) : ad.block < w.heap.size := by
  unfold World.cell? at h
  split at h
  · rename_i hb; exact blk_lt hb
  · cases h

/-- All own blocks are there. -/
theorem RepC.lt {x : Value} {c : C} {F : List Nat} (h : RepC ET w R x c F) : ∀ b ∈ F, b < w.heap.size := by
  refine RepC.rec (motive_1 := fun x c F _ => ∀ b ∈ F, b < w.heap.size) (motive_2 := fun xs cs F _ => ∀ b ∈ F, b < w.heap.size) ?_ ?_ ?_ ?_ ?_ ?_ ?_ ?_ ?_ h
  · intro x h b hb; cases hb
  · intro t b hb; cases hb
  · intro o sz b hb; cases hb
  · intro b off len cap sz own arr et rows F F' hb hlen hcap hsz hfit hrow _ ho hz ih x hx
    rcases ho with ⟨_, rfl⟩ | ⟨_, _, _, rfl⟩
    · rcases List.mem_cons.mp hx with rfl | h
      · exact blk_lt hb
      · exact ih x h
    · cases hx
  · intro b own arr et cs F F' hb _ ho ih x hx
    rcases ho with ⟨_, rfl⟩ | ⟨_, _, _, rfl⟩
    · rcases List.mem_cons.mp hx with rfl | h
      · exact blk_lt hb
      · exact ih x h
    · cases hx
  · intro v q F h; exact q.lt h
  · intro x b hb; cases hb
  · intro b hb; cases hb
  · intro x c xs cs F G _ _ ih1 ih2 b hb
    rcases List.mem_append.mp hb with h | h
    · exact ih1 b h
    · exact ih2 b h
theorem RepL.lt {xs : List Value} {cs : List C} {F : List Nat} (h : RepL ET w R xs cs F) : ∀ b ∈ F, b < w.heap.size := by
  induction cs generalizing xs F with
  | nil => cases h; simp
  | cons c cs ih =>
    cases h with
    | cons h t =>
      intro b hb
      rcases List.mem_append.mp hb with h1 | h1
      · exact h.lt b h1
      · exact ih t b h1
theorem RepU.lt {x : Value} {u : U} {F : List Nat} (h : RepU ET w R x u F) : ∀ b ∈ F, b < w.heap.size := by
  cases h with
  | c h => exact h.lt
  | agg h => exact h.lt
  | fn h => simp
theorem RepUs.lt {xs : List Value} {us : List U} {F : List Nat} (h : RepUs ET w R xs us F) : ∀ b ∈ F, b < w.heap.size := by
  induction us generalizing xs F with
  | nil => cases h; simp
  | cons c cs ih =>
    cases h with
    | cons h t =>
      intro b hb
      rcases List.mem_append.mp hb with h1 | h1
      · exact h.lt b h1
      · exact ih t b h1
theorem RepT.lt {tmps : Array Value} {x : Value} {t : T} {F : List Nat} (h : RepT ET w R tmps x t F) : ∀ b ∈ F, b < w.heap.size := by
  cases h with
  | u h => exact h.lt
  | tup h => exact h.lt
  | _ => simp
theorem RepU.frame {x : Value} {u : U} {F : List Nat} {R' : Nat → Prop} (h : RepU ET w R x u F) (hR : ∀ b, R b → R' b) (hw : ∀ b, (b ∈ F ∨ R b) → w'.heap[b]? = w.heap[b]?) : RepU ET w' R' x u F := by
  cases h with
  | c h => exact .c (h.frame hR hw)
  | agg h => exact .agg (h.frame hR hw)
  | fn h => exact .fn (h.frame hR hw)
theorem RepUs.frame {xs : List Value} {us : List U} {F : List Nat} {R' : Nat → Prop} (h : RepUs ET w R xs us F) (hR : ∀ b, R b → R' b) (hw : ∀ b, (b ∈ F ∨ R b) → w'.heap[b]? = w.heap[b]?) : RepUs ET w' R' xs us F := by
  induction us generalizing xs F with
  | nil => cases h; exact .nil
  | cons c cs ih =>
    cases h with
    | cons h t => exact .cons (h.frame hR (fun k hk => hw k (hk.imp (fun h => List.mem_append_left _ h) id))) (ih t (fun k hk => hw k (hk.imp (fun h => List.mem_append_right _ h) id)))

/-! ### Walks in another world -/
theorem walk_same {p : List (Nat × Sel)} {v : Value} {s : Sel} {q : Nat × Nat} (hw : ∀ b, b < w.heap.size → w'.heap[b]? = w.heap[b]?) (h : walk w v s p = some q) : walk w' v s p = some q := by
  induction p generalizing v s with
  | nil => exact h
  | cons x p ih =>
    obtain ⟨j, s'⟩ := x
    simp only [walk, Option.bind_eq_some_iff] at h ⊢
    obtain ⟨q0, h0, v', hv, h1⟩ := h
    exact ⟨q0, h0, v', (cell_blk (hw _ (cell_lt hv))).trans hv, ih h1⟩
/-- a value that no walk goes through -/
def stopV : Value → Bool
  | .pointer (some _) => false
  | .slice _ _ _ => false
  | _ => true
theorem walkV_stop {v : Value} {s : Sel} {q : Nat × Nat} (h : walkV v s = some q) : stopV v = false := by
  cases v with
  | pointer a => cases a with
    | none => cases s <;> simp [walkV] at h
    | some a => rfl
  | slice a l c => rfl
  | _ => cases s <;> simp [walkV] at h
theorem walk_stop {p : List (Nat × Sel)} {v : Value} {s : Sel} {q : Nat × Nat} (h : walk w v s p = some q) : stopV v = false := by
  cases p with
  | nil => exact walkV_stop h
  | cons x p =>
    obtain ⟨j, s'⟩ := x
    simp only [walk, Option.bind_eq_some_iff] at h
    obtain ⟨q0, h0, _⟩ := h
    exact walkV_stop h0
/-- Walks don't mind what becomes of cells that they can't go through. -/
theorem walk_scalar {p : List (Nat × Sel)} {v : Value} {s : Sel} {q : Nat × Nat} (hw : ∀ ad v, w.cell? ad = some v → stopV v = false → w'.cell? ad = some v) (h : walk w v s p = some q) : walk w' v s p = some q := by
  induction p generalizing v s with
  | nil => exact h
  | cons x p ih =>
    obtain ⟨j, s'⟩ := x
    simp only [walk, Option.bind_eq_some_iff] at h ⊢
    obtain ⟨q0, h0, v', hv, h1⟩ := h
    exact ⟨q0, h0, v', hw _ _ hv (walk_stop h1), ih h1⟩
end
end Go.Proofs.Ytfbjhioefkimbaa.V
namespace Go.Proofs.Ytfbjhioefkimbaa.V
open Go Go.RowKit
set_option linter.unusedVariables false
set_option linter.unusedSimpArgs false

def refs : T → Nat → Bool
  | .addr r _ _ _, d => r == d
  | .view r _ _ _ _, d => r == d
  | .whole r _ _ _, d => r == d
  | .fn _ caps, d => caps.any fun | .ref r => r == d | .val _ => false
  | _, _ => false
/-- What leads to a temporary that is put anew is known no more. -/
def killR (d : Nat) (t : T) : T := if refs t d then .junk else t
/-- What leads through memory is known no more. -/
def killD : T → T
  | .addr r s [] off => .addr r s [] off
  | .addr _ _ (_ :: _) _ => .junk
  | .view r none sz lo n => .view r none sz lo n
  | .view _ (some _) _ _ _ => .junk
  | .whole r none sz n => .whole r none sz n
  | .whole _ (some _) _ _ => .junk
  | t => t
def put (σ : St) (d : Nat) (t : T) : St := fun i => if i = d then t else killR d (σ i)
def upd (σ : St) (d : Nat) (t : T) : St := fun i => if i = d then t else σ i
def updF (Fs : Nat → List Nat) (d : Nat) (F : List Nat) : Nat → List Nat := fun i => if i = d then F else Fs i

section
variable {ET : TypeId} {w w' : World} {R : Nat → Prop} {K : Ctx} {σ : St} {a : Act} {Fs : Nat → List Nat}

theorem RepT.turn {tmps tmps' : Array Value} {v : Value} {t : T} {F : List Nat} (h : RepT ET w R tmps v t F) (hF : ∀ b, (b ∈ F ∨ R b) → w'.heap[b]? = w.heap[b]?)
    (hw : ∀ (s : Sel) (p : List (Nat × Sel)) (v : Value) (q : Nat × Nat), walk w v s p = some q → walk w' v s p = some q) (hc : ∀ ad sv sz lo n v, w.cell? ad = some sv → SubSl sz sv lo n v → w'.cell? ad = some sv)
    (ht : ∀ r, refs t r = true → tmps'.getD r undef = tmps.getD r undef) : RepT ET w' R tmps' v t F := by
  cases h with
  | junk => exact .junk _
  | u h => exact .u (h.frame (fun _ h => h) hF)
  | tup h => exact .tup (h.frame (fun _ h => h) hF)
  | @addr r off b o s p h => exact .addr (by rw [ht r (by simp [refs])]; exact hw _ _ _ _ h)
  | @view r sz lo n pl sv v h hs =>
    refine .view ?_ hs
    cases pl with
    | none => simp only [slAt] at h ⊢; rw [ht r (by simp [refs])]; exact h
    | some q =>
      obtain ⟨s, p, off⟩ := q
      simp only [slAt, Option.bind_eq_some_iff] at h ⊢
      obtain ⟨q, h1, h2⟩ := h
      exact ⟨q, by rw [ht r (by simp [refs])]; exact hw _ _ _ _ h1, hc _ _ _ _ _ _ h2 hs⟩
  | @whole r sz n pl v h hs =>
    refine .whole ?_ hs
    cases pl with
    | none => simp only [slAt] at h ⊢; rw [ht r (by simp [refs])]; exact h
    | some q =>
      obtain ⟨s, p, off⟩ := q
      simp only [slAt, Option.bind_eq_some_iff] at h ⊢
      obtain ⟨q, h1, h2⟩ := h
      exact ⟨q, by rw [ht r (by simp [refs])]; exact hw _ _ _ _ h1, hc _ _ _ _ _ _ h2 hs⟩
  | @fn f caps arr hl h =>
    refine .fn hl (fun i c hi => ?_)
    obtain ⟨x, h1, h2⟩ := h i c hi
    refine ⟨x, h1, ?_⟩
    cases c with
    | ref r =>
      simp only at h2 ⊢
      rw [ht r ?_]; exact h2
      simp only [refs, List.any_eq_true]
      exact ⟨.ref r, List.mem_of_getElem? hi, by simp⟩
    | val x => exact RepC.frame h2 (fun _ h => h) (fun b hb => hF b (hb.imp (fun h => by cases h) id))
theorem RepT.kill {tmps : Array Value} {v : Value} {t : T} {F : List Nat} {d : Nat} (h : RepT ET w R tmps v t F) : RepT ET w R tmps v (killR d t) F := by
  unfold killR
  split
  · rename_i hr
    have : F = [] := by cases h <;> simp_all [refs]
    subst this
    exact .junk _
  · exact h
theorem killR_refs {d : Nat} {t : T} : refs (killR d t) d = false := by
  unfold killR
  split
  · rfl
  · rename_i h; simpa using h
theorem killR_sub {d : Nat} {t : T} {r : Nat} (h : refs (killR d t) r = true) : r ≠ d := by
  rintro rfl
  rw [killR_refs] at h
  cases h

theorem getD_put {tmps : Array Value} {d i : Nat} {v : Value} (h : i ≠ d) : (tmps.setIfInBounds d v).getD i undef = tmps.getD i undef := by
  simp [Array.getD_eq_getD_getElem?, Array.getElem?_setIfInBounds_ne (Ne.symm h)]
theorem getD_same {tmps : Array Value} {d : Nat} {v : Value} (h : d < tmps.size) : (tmps.setIfInBounds d v).getD d undef = v := by
  simp [Array.getD_eq_getD_getElem?, h]

/-- A temporary is put; memory was at most made. -/
theorem okT_lt {d : Nat} (h : okT K d = true) : d < K.n := by
  simp only [okT, Bool.and_eq_true] at h
  exact Nat.blt_eq.mp h.1
theorem okT_pin {d : Nat} (h : okT K d = true) {i : Nat} (hi : K.pins.contains i = true) : i ≠ d := by
  rintro rfl
  simp [okT] at h hi
  exact h.2 hi
theorem SimF.put (h : SimF K σ a w Fs) {d : Nat} {v : Value} {t : T} {F : List Nat} (hd : okT K d = true) (hk : Keeps w [] w') (hF : ∀ b ∈ F, w.heap.size ≤ b) (hnd : F.Nodup)
    (ht : RepT K.ET w' K.R (a.tmps.setIfInBounds d v) v t F) : SimF K (put σ d t) (a.put (some d) v) w' (updF Fs d F) := by
  have hall : ∀ b, b < w.heap.size → w'.heap[b]? = w.heap[b]? := fun b hb => hk.block b hb (by simp)
  have hlt : ∀ i, ∀ b ∈ Fs i, b < w.heap.size := fun i => (h.rep i).lt
  have hRs : ∀ b, K.R b → b < w.heap.size := fun b hb => Nat.lt_of_lt_of_le (h.ro b hb).1 h.keeps.size
  refine ⟨?_, ?_, ?_, ?_, h.keeps.trans hk (by simp), h.ro, by rw [← h.size]; simp [Act.put], fun i hi => by simp only [Act.put]; rw [getD_put (okT_pin hd hi)]; exact h.pin i hi, h.defers⟩
  · intro i
    by_cases hi : i = d
    · subst hi
      simp only [V.put, updF, if_true, Act.put]
      rw [getD_same (by rw [h.size]; exact okT_lt hd)]
      exact ht
    · simp only [V.put, updF, if_neg hi, Act.put]
      rw [getD_put hi]
      refine (h.rep i).kill.turn (fun b hb => ?_) (fun s p v q => walk_same hall) (fun ad sv sz lo n v hc _ => (cell_blk (hall _ (cell_lt hc))).trans hc) (fun r hr => getD_put (killR_sub hr))
      rcases hb with hb | hb
      · exact hall b (hlt i b hb)
      · exact hall b (hRs b hb)
  · intro i
    unfold updF
    split
    · exact hnd
    · exact h.nd i
  · intro i j b hi hj
    unfold updF at hi hj
    split at hi <;> split at hj
    · rename_i h1 h2; rw [h1, h2]
    · have := hlt j b hj; have := hF b hi; omega
    · have := hlt i b hi; have := hF b hj; omega
    · exact h.dis i j b hi hj
  · intro i b hi
    unfold updF at hi
    split at hi
    · have h1 := hF b hi
      refine ⟨fun hr => ?_, .inr (Nat.le_trans h.keeps.size h1)⟩
      have := hRs b hr; omega
    · exact h.own i b hi
/-- What a temporary holds is taken out. -/
theorem SimF.out (h : SimF K σ a w Fs) (i : Nat) : SimF K (upd σ i .junk) a w (updF Fs i []) := by
  refine ⟨?_, ?_, ?_, ?_, h.keeps, h.ro, h.size, h.pin, h.defers⟩
  · intro j
    unfold upd updF
    split
    · exact .junk _
    · exact h.rep j
  · intro j; unfold updF; split
    · exact List.nodup_nil
    · exact h.nd j
  · intro j k b hj hk
    unfold updF at hj hk
    split at hj
    · cases hj
    · split at hk
      · cases hk
      · exact h.dis j k b hj hk
  · intro j b hj
    unfold updF at hj
    split at hj
    · cases hj
    · exact h.own j b hj
/-- And laid in. -/
theorem SimF.in_ (h : SimF K σ a w Fs) {i : Nat} {t : T} {F : List Nat} (ht : RepT K.ET w K.R a.tmps (a.tmps.getD i undef) t F) (hnd : F.Nodup) (hdis : ∀ j, j ≠ i → ∀ b ∈ F, b ∉ Fs j)
    (hown : ∀ b ∈ F, ¬ K.R b ∧ (b ∈ K.E ∨ K.w0.heap.size ≤ b)) : SimF K (upd σ i t) a w (updF Fs i F) := by
  refine ⟨?_, ?_, ?_, ?_, h.keeps, h.ro, h.size, h.pin, h.defers⟩
  · intro j
    unfold upd updF
    split
    · rename_i e; rw [e]; exact ht
    · exact h.rep j
  · intro j; unfold updF; split
    · exact hnd
    · exact h.nd j
  · intro j k b hj hk
    unfold updF at hj hk
    split at hj <;> split at hk
    · rename_i h1 h2; rw [h1, h2]
    · rename_i h1 h2; exact absurd hk (hdis k h2 b hj)
    · rename_i h1 h2; exact absurd hj (hdis j h1 b hk)
    · exact h.dis j k b hj hk
  · intro j b hj
    unfold updF at hj
    split at hj
    · exact hown b hj
    · exact h.own j b hj
theorem RepT.killD {tmps : Array Value} {v : Value} {t : T} {F : List Nat} (h : RepT ET w R tmps v t F) : RepT ET w R tmps v (killD t) F := by
  cases h with
  | @addr r off b o s p h =>
    cases p with
    | nil => exact .addr h
    | cons x p => exact .junk _
  | @view r sz lo n pl sv v h hs =>
    cases pl with
    | none => exact .view h hs
    | some q => exact .junk _
  | @whole r sz n pl v h hs =>
    cases pl with
    | none => exact .whole h hs
    | some q => exact .junk _
  | junk => exact .junk _
  | u h => exact .u h
  | tup h => exact .tup h
  | fn hl h => exact .fn hl h
/-- The world turns: none of one's own blocks, nor of those that nobody writes; what leads through memory is known no more. -/
theorem SimF.world (h : SimF K σ a w Fs) {E1 : List Nat} (hk : Keeps w E1 w') (hE : ∀ b ∈ E1, b ∈ K.E ∨ K.w0.heap.size ≤ b) (hs : ∀ i, ∀ b ∈ Fs i, b ∉ E1) (hR : ∀ b ∈ E1, ¬ K.R b) : SimF K (fun i => killD (σ i)) a w' Fs := by
  have hlt : ∀ i, ∀ b ∈ Fs i, b < w.heap.size := fun i => (h.rep i).lt
  have hRs : ∀ b, K.R b → b < w.heap.size := fun b hb => Nat.lt_of_lt_of_le (h.ro b hb).1 h.keeps.size
  have hF : ∀ i b, (b ∈ Fs i ∨ K.R b) → w'.heap[b]? = w.heap[b]? := by
    intro i b hb
    rcases hb with hb | hb
    · exact hk.block b (hlt i b hb) (hs i b hb)
    · exact hk.block b (hRs b hb) (fun h1 => hR b h1 hb)
  refine ⟨fun i => ?_, h.nd, h.dis, h.own, h.keeps.trans hk hE, h.ro, h.size, h.pin, h.defers⟩
  have h1 := (h.rep i).killD
  have hF' := hF i
  clear hF
  generalize Fs i = F at h1 hF'
  revert h1
  generalize hv : a.tmps.getD i undef = v
  generalize ht : V.killD (σ i) = t
  intro h1
  cases h1 with
  | junk => exact .junk _
  | u h => exact .u (h.frame (fun _ h => h) (fun b hb => by
      rcases hb with hb | hb
      · rename_i hh
        exact hF' b (.inl hb)
      · exact hF' b (.inr hb)))
  | tup h => exact .tup (h.frame (fun _ h => h) (fun b hb => by
      rcases hb with hb | hb
      · exact hF' b (.inl hb)
      · exact hF' b (.inr hb)))
  | @addr r off b o s p h =>
    cases p with
    | nil => exact .addr h
    | cons x p => cases hh : σ i with
      | addr r' s' p' off' => rw [hh] at ht; cases p' <;> simp [V.killD] at ht
      | view r' pl' _ _ _ => rw [hh] at ht; cases pl' <;> simp [V.killD] at ht
      | whole r' pl' _ _ => rw [hh] at ht; cases pl' <;> simp [V.killD] at ht
      | _ => rw [hh] at ht; simp [V.killD] at ht
  | @view r sz lo n pl sv v h hs =>
    cases pl with
    | none => exact .view h hs
    | some q => cases hh : σ i with
      | addr r' s' p' off' => rw [hh] at ht; cases p' <;> simp [V.killD] at ht
      | view r' pl' _ _ _ => rw [hh] at ht; cases pl' <;> simp [V.killD] at ht
      | whole r' pl' _ _ => rw [hh] at ht; cases pl' <;> simp [V.killD] at ht
      | _ => rw [hh] at ht; simp [V.killD] at ht
  | @whole r sz n pl v h hs =>
    cases pl with
    | none => exact .whole h hs
    | some q => cases hh : σ i with
      | addr r' s' p' off' => rw [hh] at ht; cases p' <;> simp [V.killD] at ht
      | view r' pl' _ _ _ => rw [hh] at ht; cases pl' <;> simp [V.killD] at ht
      | whole r' pl' _ _ => rw [hh] at ht; cases pl' <;> simp [V.killD] at ht
      | _ => rw [hh] at ht; simp [V.killD] at ht
  | @fn f caps arr hl h =>
    refine .fn hl (fun i c hi => ?_)
    obtain ⟨x, h1, h2⟩ := h i c hi
    refine ⟨x, h1, ?_⟩
    cases c with
    | ref r => exact h2
    | val x => exact RepC.frame h2 (fun _ h => h) (fun b hb => hF' b (hb.imp (fun h => by cases h) id))
/-- The world turns in cells that nothing leads through. -/
theorem SimF.worldS (h : SimF K σ a w Fs) {E1 : List Nat} (hk : Keeps w E1 w') (hE : ∀ b ∈ E1, b ∈ K.E ∨ K.w0.heap.size ≤ b) (hs : ∀ i, ∀ b ∈ Fs i, b ∉ E1) (hR : ∀ b ∈ E1, ¬ K.R b)
    (hc : ∀ ad v, w.cell? ad = some v → stopV v = false → w'.cell? ad = some v) : SimF K σ a w' Fs := by
  have hlt : ∀ i, ∀ b ∈ Fs i, b < w.heap.size := fun i => (h.rep i).lt
  have hRs : ∀ b, K.R b → b < w.heap.size := fun b hb => Nat.lt_of_lt_of_le (h.ro b hb).1 h.keeps.size
  refine ⟨fun i => ?_, h.nd, h.dis, h.own, h.keeps.trans hk hE, h.ro, h.size, h.pin, h.defers⟩
  refine (h.rep i).turn (fun b hb => ?_) (fun s p v q => walk_scalar hc) (fun ad sv sz lo n v h1 h2 => hc ad sv h1 ?_) (fun _ _ => rfl)
  · rcases hb with hb | hb
    · exact hk.block b (hlt i b hb) (hs i b hb)
    · exact hk.block b (hRs b hb) (fun h1 => hR b h1 hb)
  · rcases h2 with ⟨rfl, _⟩ | ⟨b, o, L, cap, rfl, _⟩ <;> rfl
/-- What is known may be forgotten. -/
theorem SimF.weaken (h : SimF K σ a w Fs) {σ' : St} (hs : ∀ i, σ' i = σ i ∨ σ' i = .junk) : ∃ Fs', SimF K σ' a w Fs' := by
  classical
  refine ⟨fun i => if σ' i = σ i then Fs i else [], ?_, ?_, ?_, ?_, h.keeps, h.ro, h.size, h.pin, h.defers⟩
  · intro i
    by_cases e : σ' i = σ i
    · simp only [if_pos e]; rw [e]; exact h.rep i
    · simp only [if_neg e]
      rcases hs i with h1 | h1
      · exact absurd h1 e
      · rw [h1]; exact .junk _
  · intro i; split
    · exact h.nd i
    · exact List.nodup_nil
  · intro i j b hi hj
    split at hi
    · split at hj
      · exact h.dis i j b hi hj
      · cases hj
    · cases hi
  · intro i b hi
    split at hi
    · exact h.own i b hi
    · cases hi
theorem Sim.weaken (h : Sim K σ a w) {σ' : St} (hs : ∀ i, σ' i = σ i ∨ σ' i = .junk) : Sim K σ' a w := by
  obtain ⟨Fs, h⟩ := h
  exact h.weaken hs
end
end Go.Proofs.Ytfbjhioefkimbaa.V
namespace Go.Proofs.Ytfbjhioefkimbaa.V
open Go Go.RowKit
set_option linter.unusedVariables false
set_option linter.unusedSimpArgs false

/-- One operation: from a told state to another one; it never panics. -/
def Step (P : Program) (K : Ctx) (σ : St) (o : Oper) (σ' : St) : Prop := ∀ a w, Sim K σ a w → o.wp P a w (fun a' w' => Sim K σ' a' w') (fun _ _ _ => False)
theorem Oper.wp_all {P : Program} {o : Oper} {a : Act} {w : World} {N N' : Act → World → Prop} {Q : Exit → Act → World → Prop} (h : o.wp P a w N (fun _ _ _ => False)) (hn : ∀ a w, N a w → N' a w) : o.wp P a w N' Q := by
  unfold Oper.wp at *
  generalize (execOp a.eval o).run P w = r at *
  cases r with
  | ok n w' =>
    cases n <;> simp only [Oper.upon] at h ⊢ <;> first
      | exact hn _ _ h
      | exact Calls.mono h (fun e w'' he => by
          cases e with
          | returned v => exact hn _ _ he
          | panicked c => exact he.elim
          | outgrown => obtain ⟨_, _, h⟩ := he; exact h.elim)
      | exact Rows.mono h (fun _ _ he => hn _ _ he)
      | exact h
  | halt x w' => cases x <;> simp only [Oper.upon] at h ⊢ <;> exact h.elim

def copyC : C → Bool
  | .v _ | .err _ => true
  | .sl o _ _ | .pt o _ => !o
  | .x _ | .dead => false
def copyU : U → Bool
  | .c x => copyC x
  | .agg cs => cs.all copyC
  | .fn _ _ => true
/-- What a copy of a temporary holds: the value; or a way to it. -/
def aliasT (i : Nat) : T → T
  | .u (.c (.sl true sz rows)) => .whole i none sz rows.length
  | .u (.c (.pt true _)) => .addr i .d [] 0
  | .u (.c (.x q)) => if q.isp then .addr i .d [] 0 else .junk
  | .u x => if copyU x then .u x else .junk
  | .tup _ => .junk
  | t => t

section
variable {P : Program} {ET : TypeId} {w w' : World} {R : Nat → Prop} {K : Ctx} {σ : St} {a : Act} {Fs : Nat → List Nat} {o : Oper} {d : Nat}

theorem RepC.copy {x : Value} {c : C} {F : List Nat} (h : RepC ET w R x c F) (hc : copyC c = true) : F = [] := by
  cases h with
  | v h => rfl
  | err t => rfl
  | nil o sz => rfl
  | sl _ _ _ _ _ _ _ ho _ =>
    rcases ho with ⟨h1, _⟩ | ⟨_, _, _, h⟩
    · subst h1; simp [copyC] at hc
    · exact h
  | pt _ _ ho =>
    rcases ho with ⟨h1, _⟩ | ⟨_, _, _, h⟩
    · subst h1; simp [copyC] at hc
    · exact h
  | x h => simp [copyC] at hc
  | dead x => rfl
theorem RepL.copy {xs : List Value} {cs : List C} {F : List Nat} (h : RepL ET w R xs cs F) (hc : cs.all copyC = true) : F = [] := by
  induction cs generalizing xs F with
  | nil => cases h; rfl
  | cons c cs ih =>
    cases h with
    | cons h t =>
      simp only [List.all_cons, Bool.and_eq_true] at hc
      rw [h.copy hc.1, ih t hc.2]; rfl
theorem RepU.copy {x : Value} {u : U} {F : List Nat} (h : RepU ET w R x u F) (hc : copyU u = true) : F = [] := by
  cases h with
  | c h => exact h.copy hc
  | agg h => exact h.copy hc
  | fn h => rfl
theorem RepT.alias_ {tmps : Array Value} {i : Nat} {t : T} {F : List Nat} {v : Value} (hv : tmps.getD i undef = v) (h : RepT ET w R tmps v t F) : RepT ET w R tmps v (aliasT i t) [] := by
  cases h with
  | junk => exact .junk _
  | tup h => exact .junk _
  | addr h => exact .addr h
  | view h hs => exact .view h hs
  | whole h hs => exact .whole h hs
  | fn hl h => exact .fn hl h
  | @u v x F hu =>
    cases x with
    | fn f cs => cases hu with | fn h => exact .u (.fn h)
    | agg cs =>
      simp only [aliasT]
      split
      · rename_i hc
        rw [hu.copy hc] at hu
        exact .u hu
      · exact .junk _
    | c x =>
      cases hu with
      | c hc =>
        cases hc with
        | v h => exact .u (.c (.v h))
        | err t => exact .u (.c (.err t))
        | dead x => exact .junk _
        | @x _ q _ h =>
          simp only [aliasT]
          split
          case isFalse => exact .junk _
          case isTrue hp =>
          obtain ⟨b, hb⟩ := q.ptr hp h
          subst hb
          have := RepT.addr (ET := ET) (w := w) (R := R) (tmps := tmps) (r := i) (off := 0) (s := .d) (p := []) (b := b) (o := 0) (by rw [hv]; rfl)
          rw [Nat.add_zero] at this
          exact this
        | nil o sz => cases o with
          | true => exact .whole (by simp only [slAt]; rw [hv]) (.inl ⟨rfl, rfl, rfl, rfl⟩)
          | false => exact .u (.c (.nil false sz))
        | @sl b off len cap sz own arr et rows F1 F' hb hlen hcap hsz hfit hrow hrep ho hz =>
          cases own with
          | true =>
            subst hlen
            exact .whole (by simp only [slAt]; rw [hv]) (.inr ⟨b, off, _, cap, rfl, hcap, by omega, .inl (by simp)⟩)
          | false =>
            have hF : F = [] := by
              rcases ho with ⟨h1, _⟩ | ⟨_, _, _, h⟩
              · cases h1
              · exact h
            subst hF
            exact .u (.c (.sl hb hlen hcap hsz hfit hrow hrep ho hz))
        | @pt b own arr et cs F1 F' hb hrep ho =>
          cases own with
          | true =>
            have := RepT.addr (ET := ET) (w := w) (R := R) (tmps := tmps) (r := i) (off := 0) (s := .d) (p := []) (b := b) (o := 0) (by rw [hv]; rfl)
            rw [Nat.add_zero] at this
            exact this
          | false =>
            have hF : F = [] := by
              rcases ho with ⟨h1, _⟩ | ⟨_, _, _, h⟩
              · cases h1
              · exact h
            subst hF
            exact .u (.c (.pt hb hrep ho))
theorem RepT.alias {tmps : Array Value} {i : Nat} {t : T} {F : List Nat} (h : RepT ET w R tmps (tmps.getD i undef) t F) : RepT ET w R tmps (tmps.getD i undef) (aliasT i t) [] := h.alias_ rfl

theorem RepT.to_put {tmps : Array Value} {d : Nat} {v x : Value} {t : T} {F : List Nat} (h : RepT ET w R tmps v t F) (hr : refs t d = false) : RepT ET w R (tmps.setIfInBounds d x) v t F :=
  h.turn (fun _ _ => rfl) (fun _ _ _ _ h => h) (fun _ _ _ _ _ _ h _ => h) (fun r hr' => getD_put (by rintro rfl; rw [hr] at hr'; cases hr'))

/-- A slice's way, as a part. -/
def viewOf : T → Option (Nat × Option (Sel × List (Nat × Sel) × Nat) × Nat × Nat × Nat)
  | .view r pl sz lo n => some (r, pl, sz, lo, n)
  | .whole r pl sz n => some (r, pl, sz, 0, n)
  | _ => none
theorem RepT.viewOf {tmps : Array Value} {v : Value} {t : T} {F : List Nat} {r sz lo n : Nat} {pl : Option (Sel × List (Nat × Sel) × Nat)} (h : RepT ET w R tmps v t F) (ht : V.viewOf t = some (r, pl, sz, lo, n)) : ∃ sv, slAt w tmps r pl = some sv ∧ SubSl sz sv lo n v := by
  cases h with
  | view h hs =>
    simp only [V.viewOf, Option.some.injEq, Prod.mk.injEq] at ht
    obtain ⟨rfl, rfl, rfl, rfl, rfl⟩ := ht
    exact ⟨_, h, hs⟩
  | whole h hs =>
    simp only [V.viewOf, Option.some.injEq, Prod.mk.injEq] at ht
    obtain ⟨rfl, rfl, rfl, rfl, rfl⟩ := ht
    exact ⟨_, h, hs⟩
  | _ => simp [V.viewOf] at ht
/-- An operation that yields a value and at most makes memory. -/
theorem step_value {t : T} (hd : o.dst = some d) (hn : okT K d = true) (hr : refs t d = false)
    (h : ∀ a w Fs, SimF K σ a w Fs → ∃ v w' F, (execOp a.eval o).run P w = .ok (.value v) w' ∧ Keeps w [] w' ∧ RepT K.ET w' K.R a.tmps v t F ∧ (∀ b ∈ F, w.heap.size ≤ b) ∧ F.Nodup) : Step P K σ o (put σ d t) := by
  rintro a w ⟨Fs, hs⟩
  obtain ⟨v, w', F, hx, hk, ht, hF, hnd⟩ := h a w Fs hs
  simp only [Oper.wp, hx, Oper.upon_value, hd]
  exact ⟨_, hs.put hn hk hF hnd (ht.to_put hr)⟩
theorem step_quiet {t : T} (hd : o.dst = some d) (hn : okT K d = true) (hr : refs t d = false)
    (h : ∀ a w Fs, SimF K σ a w Fs → ∃ v, (execOp a.eval o).run P w = .ok (.value v) w ∧ RepT K.ET w K.R a.tmps v t []) : Step P K σ o (put σ d t) :=
  step_value hd hn hr (fun a w Fs hs => by
    obtain ⟨v, hx, ht⟩ := h a w Fs hs
    exact ⟨v, w, [], hx, .refl _ _, ht, by simp, List.nodup_nil⟩)

/-! ### Operands -/
/-- What an operand holds, in a told state. -/
inductive OpT (K : Ctx) (σ : St) : Operand → T → Prop
  | tmp {i : Nat} {t : T} (h : aliasT i (σ i) = t) : OpT K σ (.tmp i) t
  | v {x : Value} (h : plainV x = true) : OpT K σ (.const x) (.u (.c (.v x)))
  | nil : OpT K σ (.const .nilIface) (.u (.c (.err none)))
  | err {n : Int} {e : TypeId} (h : K.ET = e) : OpT K σ (.const (.iface e (.int .i64 n))) (.u (.c (.err (some n))))
  | sl (sz : Nat) : OpT K σ (.const (.slice none 0 0)) (.u (.c (.sl true sz [])))
theorem OpT.rep {x : Operand} {t : T} (h : OpT K σ x t) (hs : SimF K σ a w Fs) : RepT K.ET w K.R a.tmps (a.eval x) t [] := by
  cases h with
  | tmp h => rw [← h]; exact (hs.rep _).alias
  | v h => exact .u (.c (.v h))
  | nil => exact .u (.c (.err none))
  | err h => subst h; exact .u (.c (.err (some _)))
  | sl sz => exact .u (.c (.nil true sz))
/-- A whole number's value, and the like. -/
theorem RepT.v_eq {tmps : Array Value} {v x : Value} {F : List Nat} (h : RepT ET w R tmps v (.u (.c (.v x))) F) : v = x ∧ plainV x = true := by
  cases h with | u h => cases h with | c h => cases h with | v h => exact ⟨rfl, h⟩

end
end Go.Proofs.Ytfbjhioefkimbaa.V
namespace Go.Proofs.Ytfbjhioefkimbaa.V
open Go Go.RowKit
set_option linter.unusedVariables false
set_option linter.unusedSimpArgs false

/-! ### What the program's tables say of a type -/
def OneT (P : Program) (t : TypeId) : Prop := (∃ q, P.underlying t = some q ∧ q.isRow = false) ∧ (P.info? t).map (·.size) = some 1
def AggT (P : Program) (t : TypeId) (n : Nat) : Prop := (∃ q, P.underlying t = some q ∧ q.isRow = true) ∧ (P.info? t).map (·.size) = some n ∧ 0 < n
def FieldT (P : Program) (s f off : Nat) : Prop := ∃ fields fd i, P.underlying s = some (.struct fields) ∧ fields[f]? = some fd ∧ fd.offset = off ∧ P.info? fd.type = some i ∧ i.size ≠ 0
def SliceT (P : Program) (t sz bytes : Nat) : Prop := ∃ e i, P.underlying t = some (.slice e) ∧ P.info? e = some i ∧ i.size = sz ∧ i.bytes = bytes ∧ 0 < sz

section
variable {P : Program} {ET : TypeId} {w w' : World} {R : Nat → Prop} {K : Ctx} {σ : St} {a : Act} {Fs : Nat → List Nat} {o : Oper} {d : Nat}

theorem run_isAgg {t : TypeId} {q : TypeDesc} (h : P.underlying t = some q) (w : World) : (isAgg t).run P w = .ok q.isRow w := by
  unfold isAgg
  rw [Sem.run_bind, run_underlying h w]
  cases q <;> rfl
theorem run_load1 {t : TypeId} (h : OneT P t) {ad : Addr} {x : Value} (hx : w.cell? ad = some x) : (Instr.loadAt t (.pointer (some ad))).run P w = .ok x w := by
  obtain ⟨⟨q, hq, hr⟩, _⟩ := h
  simp only [Instr.loadAt, Instr.sureAddr, loadVar, Sem.run_bind, Sem.run_pure, Result.andThen_ok, run_isAgg hq, hr]
  simp [load, Sem.run, hx]
theorem run_loadA {t n : Nat} (h : AggT P t n) {b o : Nat} {arr : Array Value} {et : TypeId} {fz : Nat × Nat} (hb : w.heap[b]? = some (.cells arr et fz)) (hn : o + n ≤ arr.size) :
    (Instr.loadAt t (.pointer (some ⟨b, o, none⟩))).run P w = .ok (.agg ((arr.toList.drop o).take n).toArray) w := by
  obtain ⟨⟨q, hq, hr⟩, hi, _⟩ := h
  refine run_loadAt_mid w b o t _ q ?_ hq hr ?_
  · intro j v hv
    simp only [World.cell?, hb]
    rw [List.getElem?_take] at hv
    split at hv
    · rw [List.getElem?_drop] at hv; simpa using hv
    · cases hv
  · rw [hi, List.length_take, List.length_drop]
    congr 1
    simp
    omega

theorem getD_eval {i : Nat} : a.eval (.tmp i) = a.tmps.getD i undef := rfl
/-- Where an address leads. -/
theorem SimF.place (hs : SimF K σ a w Fs) {i r off : Nat} {s : Sel} {p : List (Nat × Sel)} {c : C} {cs : List C} (hi : aliasT i (σ i) = .addr r s p off) (hr : σ r = .u (.c c)) (hg : getP c s p = some cs) :
    ∃ b o arr, ∃ et : TypeId × Nat × Nat, ∃ Fi, a.eval (.tmp i) = .pointer (some ⟨b, o + off, none⟩) ∧ w.heap[b]? = some (.cells arr et.1 et.2) ∧ o + cs.length ≤ arr.size ∧ RepL K.ET w K.R ((arr.toList.drop o).take cs.length) cs Fi ∧ walk w (a.tmps.getD r undef) s p = some (b, o) := by
  have h := (OpT.tmp hi).rep hs
  have hR := hs.rep r
  rw [hr] at hR
  generalize hv : a.eval (.tmp i) = v at h
  cases h with
  | @addr _ _ b o' _ _ h =>
    generalize hv0 : a.tmps.getD r undef = v0 at hR h ⊢
    cases hR with
    | u hu =>
      cases hu with
      | c hc =>
        obtain ⟨b2, o2, arr, et, Fi, h1, h2, h3, h4, _⟩ := RepC.read p hc hg
        rw [h1] at h
        injection h with h
        injection h with e1 e2
        subst e1; subst e2
        exact ⟨_, _, arr, et, Fi, rfl, h2, h3, h4, h1⟩
theorem window_cell {b o n j : Nat} {arr : Array Value} {et : TypeId} {fz : Nat × Nat} {x : Value} (hb : w.heap[b]? = some (.cells arr et fz)) (hx : ((arr.toList.drop o).take n)[j]? = some x) : w.cell? ⟨b, o + j, none⟩ = some x := by
  simp only [World.cell?, hb]
  rw [List.getElem?_take] at hx
  split at hx
  · rw [List.getElem?_drop] at hx; simpa using hx
  · cases hx
theorem s_load1 {t i r off : Nat} {s : Sel} {p : List (Nat × Sel)} {c x : C} {cs : List C} (ho : o.op = .load t (.tmp i)) (ht : OneT P t) (hi : aliasT i (σ i) = .addr r s p off) (hr : σ r = .u (.c c)) (hg : getP c s p = some cs)
    (hx : cs[off]? = some x) (hc : copyC x = true) (hd : o.dst = some d) (hn : okT K d = true) : Step P K σ o (put σ d (.u (.c x))) :=
  step_quiet hd hn rfl (fun a w Fs hs => by
    obtain ⟨b, o', arr, et, Fi, h1, h2, h3, h4, _⟩ := hs.place hi hr hg
    obtain ⟨y, F1, Fj, F2, hy, _, hrx, _⟩ := h4.at_ hx
    rw [hrx.copy hc] at hrx
    have hcell := window_cell h2 hy
    refine ⟨y, ?_, .u (.c hrx)⟩
    simp only [execOp, ho, h1, Sem.run_bind, run_load1 ht hcell, Result.andThen_ok, Sem.run_pure])
theorem s_loadA {t i r off n : Nat} {s : Sel} {p : List (Nat × Sel)} {c : C} {cs xs : List C} (ho : o.op = .load t (.tmp i)) (ht : AggT P t n) (hi : aliasT i (σ i) = .addr r s p off) (hr : σ r = .u (.c c)) (hg : getP c s p = some cs)
    (hx : (cs.drop off).take n = xs) (hl : xs.length = n) (hc : xs.all copyC = true) (hd : o.dst = some d) (hn : okT K d = true) : Step P K σ o (put σ d (.u (.agg xs))) :=
  step_quiet hd hn rfl (fun a w Fs hs => by
    obtain ⟨b, o', arr, et, Fi, h1, h2, h3, h4, _⟩ := hs.place hi hr hg
    have hle : off + n ≤ cs.length := by
      have := ht.2.2
      rw [← hx, List.length_take, List.length_drop] at hl
      omega
    obtain ⟨ya, yz, F1, F2, e1, e2, hya0, hz⟩ := RepL.split (cs := cs.take off) (ds := cs.drop off) (by rw [List.take_append_drop]; exact h4)
    obtain ⟨yx, yb, F3, F4, e3, e4, hxx, _⟩ := RepL.split (cs := (cs.drop off).take n) (ds := (cs.drop off).drop n) (by rw [List.take_append_drop]; exact hz)
    rw [hx] at hxx
    have hF := hxx.copy hc
    subst hF
    have hya : ya.length = off := by rw [hya0.length, List.length_take]; omega
    have hyx : yx.length = n := by rw [hxx.length, hl]
    have hw : (arr.toList.drop (o' + off)).take n = yx := by
      have e5 : ((arr.toList.drop o').take cs.length).drop off = yx ++ yb := by rw [e1, e3, ← hya, List.drop_left]
      have e6 : (((arr.toList.drop o').take cs.length).drop off).take n = yx := by rw [e5, ← hyx, List.take_left]
      rw [← e6, List.drop_take, List.drop_drop, List.take_take, Nat.min_eq_left (by omega)]
    refine ⟨.agg yx.toArray, ?_, .u (.agg (by simpa using hxx))⟩
    have := run_loadA (P := P) ht h2 (show o' + off + n ≤ arr.size by omega)
    rw [hw] at this
    simp only [execOp, ho, h1, Sem.run_bind, this, Result.andThen_ok, Sem.run_pure])
theorem RepC.sub {v : Value} {own : Bool} {sz : Nat} {rows : List (List C)} {F : List Nat} (h : RepC ET w R v (.sl own sz rows) F) : SubSl sz v 0 rows.length v := by
  cases h with
  | nil o sz => exact .inl ⟨rfl, rfl, rfl, rfl⟩
  | @sl b off len cap _ _ arr et _ F1 F' hb hlen hcap hsz hfit hrow hrep ho =>
    subst hlen
    exact .inr ⟨b, off, _, cap, rfl, hcap, by omega, .inl (by simp)⟩
/-- A slice that lies in memory: a way to it. -/
theorem s_loadS {t i r off sz : Nat} {own : Bool} {s : Sel} {p : List (Nat × Sel)} {c : C} {cs : List C} {rows : List (List C)} (ho : o.op = .load t (.tmp i)) (ht : OneT P t) (hi : aliasT i (σ i) = .addr r s p off) (hr : σ r = .u (.c c)) (hg : getP c s p = some cs)
    (hx : cs[off]? = some (.sl own sz rows)) (hd : o.dst = some d) (hn : okT K d = true) (hrd : (r == d) = false) : Step P K σ o (put σ d (.whole r (some (s, p, off)) sz rows.length)) :=
  step_quiet hd hn hrd (fun a w Fs hs => by
    obtain ⟨b, o', arr, et, Fi, h1, h2, h3, h4, h5⟩ := hs.place hi hr hg
    obtain ⟨y, F1, Fj, F2, hy, _, hrx, _⟩ := h4.at_ hx
    have hcell := window_cell h2 hy
    refine ⟨y, ?_, .whole ?_ hrx.sub⟩
    · simp only [execOp, ho, h1, Sem.run_bind, run_load1 ht hcell, Result.andThen_ok, Sem.run_pure]
    · simp only [slAt, h5, Option.bind_some]; exact hcell)
theorem walk_append {p : List (Nat × Sel)} {v v' : Value} {s s' : Sel} {b o' j : Nat} {q : Nat × Nat} (h : walk w v s p = some (b, o')) (hc : w.cell? ⟨b, o' + j, none⟩ = some v') (hq : walkV v' s' = some q) : walk w v s (p ++ [(j, s')]) = some q := by
  induction p generalizing v s with
  | nil =>
    have h' : walkV v s = some (b, o') := h
    simp only [List.nil_append, walk, h', Option.bind_some, hc]
    exact hq
  | cons x p ih =>
    obtain ⟨k, s2⟩ := x
    simp only [walk, Option.bind_eq_some_iff] at h
    obtain ⟨q0, h0, v2, hv, h1⟩ := h
    simp only [List.cons_append, walk, h0, Option.bind_some, hv]
    exact ih h1
/-- A pointer that lies in memory: a way behind it. -/
theorem s_loadP {t i r off : Nat} {own : Bool} {s : Sel} {p : List (Nat × Sel)} {c : C} {cs cs' : List C} (ho : o.op = .load t (.tmp i)) (ht : OneT P t) (hi : aliasT i (σ i) = .addr r s p off) (hr : σ r = .u (.c c)) (hg : getP c s p = some cs)
    (hx : cs[off]? = some (.pt own cs')) (hd : o.dst = some d) (hn : okT K d = true) (hrd : (r == d) = false) : Step P K σ o (put σ d (.addr r s (p ++ [(off, .d)]) 0)) :=
  step_quiet hd hn hrd (fun a w Fs hs => by
    obtain ⟨b, o', arr, et, Fi, h1, h2, h3, h4, h5⟩ := hs.place hi hr hg
    obtain ⟨y, F1, Fj, F2, hy, _, hrx, _⟩ := h4.at_ hx
    have hcell := window_cell h2 hy
    cases hrx with
    | @pt b2 _ arr2 et2 _ F1' F' hb2 hrep ho2 =>
      refine ⟨_, ?_, .addr (b := b2) (o := 0) (off := 0) (walk_append h5 hcell rfl)⟩
      simp only [execOp, ho, h1, Sem.run_bind, run_load1 ht hcell, Result.andThen_ok, Sem.run_pure])
theorem s_field {s f foff i r off : Nat} {sl : Sel} {p : List (Nat × Sel)} (ho : o.op = .fieldAddr s (.tmp i) f) (hf : FieldT P s f foff) (hi : aliasT i (σ i) = .addr r sl p off) (hd : o.dst = some d) (hn : okT K d = true) (hrd : (r == d) = false) : Step P K σ o (put σ d (.addr r sl p (off + foff))) :=
  step_quiet hd hn hrd (fun a w Fs hs => by
    have h := (OpT.tmp hi).rep hs
    generalize hv : a.eval (.tmp i) = v at h
    cases h with
    | @addr _ _ b o' _ _ h =>
      obtain ⟨fields, fd, inf, hu, hfd, hoff, hinf, hsz⟩ := hf
      refine ⟨.pointer (some ⟨b, o' + (off + foff), none⟩), ?_, .addr h⟩
      have hsize : (sizeOf fd.type).run P w = .ok inf.size w := by simp [sizeOf, typeInfo, hinf]
      simp only [execOp, ho, hv, Instr.fieldAt, Instr.sureAddr, fieldPlace, Sem.run_bind, run_underlying hu, Result.andThen_ok, hfd, Sem.run_pure, hsize, if_neg hsz, Addr.add_mid, hoff, Nat.add_assoc])
/-- An element of a slice: the way to it. -/
def elemT (r : Nat) (pl : Option (Sel × List (Nat × Sel) × Nat)) (k sz : Nat) : T :=
  match pl with
  | none => .addr r (.i k sz) [] 0
  | some (s, p, off) => .addr r s (p ++ [(off, .i k sz)]) 0
theorem run_indexAt_some {t sz bytes : Nat} (hu : SliceT P t sz bytes) {b o' n cap : Nat} {k : IntKind} {e : Int} (h0 : 0 ≤ e) (h1 : e < n) (w : World) :
    (Instr.indexAt t (.slice (some ⟨b, o', none⟩) n cap) (.int k e)).run P w = .ok (.pointer (some ⟨b, o' + e.toNat * sz, none⟩)) w := by
  obtain ⟨el, inf, hu, hinf, hsz, _, _⟩ := hu
  have hsize : (sizeOf el).run P w = .ok sz w := by simp [sizeOf, typeInfo, hinf, hsz]
  simp only [Instr.indexAt, asIntOf, Sem.run_bind, Sem.run_pure, Result.andThen_ok, run_underlying hu]
  rw [if_pos ⟨h0, h1⟩]
  simp only [Sem.run_bind, hsize, Result.andThen_ok, Sem.run_pure, Addr.add_mid]
theorem s_indexV {t i r sz bytes lo n k : Nat} {pl : Option (Sel × List (Nat × Sel) × Nat)} {x : Operand} {ik : IntKind} {e : Int} (ho : o.op = .indexAddr t (.tmp i) x) (hu : SliceT P t sz bytes) (hi : viewOf (aliasT i (σ i)) = some (r, pl, sz, lo, n)) (hx : OpT K σ x (.u (.c (.v (.int ik e)))))
    (h0 : 0 ≤ e) (h1 : e < n) (hk : lo + e.toNat = k) (hd : o.dst = some d) (hn : okT K d = true) (hrd : (r == d) = false) : Step P K σ o (put σ d (elemT r pl k sz)) :=
  step_quiet hd hn (by cases pl <;> exact hrd) (fun a w Fs hs => by
    obtain ⟨sv, hsl, hsub⟩ := ((OpT.tmp rfl).rep hs (x := .tmp i)).viewOf hi
    have hxv := (hx.rep hs).v_eq.1
    generalize hv : a.eval (.tmp i) = v at hsub
    · rcases hsub with ⟨_, _, _, h⟩ | ⟨b, o', L, cap, rfl, hcap, hlo, h⟩
      · subst h; omega
      · rcases h with rfl | ⟨h, _⟩
        · refine ⟨.pointer (some ⟨b, o' + lo * sz + e.toNat * sz, none⟩), ?_, ?_⟩
          · have := run_indexAt_some (P := P) hu (b := b) (o' := o' + lo * sz) (n := n) (cap := cap - lo) (k := ik) h0 h1 w
            simp only [execOp, ho, hv, hxv, Sem.run_bind, this, Result.andThen_ok, Sem.run_pure]
          · have e1 : o' + lo * sz + e.toNat * sz = o' + k * sz + 0 := by rw [← hk, Nat.add_mul]; omega
            rw [e1]
            cases pl with
            | none =>
              simp only [slAt, Option.some.injEq] at hsl
              exact .addr (by rw [hsl]; rfl)
            | some q =>
              obtain ⟨s, p, off⟩ := q
              simp only [slAt, Option.bind_eq_some_iff] at hsl
              obtain ⟨⟨b2, o2⟩, h2, h3⟩ := hsl
              exact .addr (walk_append h2 h3 rfl)
        · subst h; omega)
theorem s_indexU {t i sz bytes : Nat} {own : Bool} {rows : List (List C)} {x : Operand} {ik : IntKind} {e : Int} (ho : o.op = .indexAddr t (.tmp i) x) (hu : SliceT P t sz bytes) (hi : σ i = .u (.c (.sl own sz rows))) (hx : OpT K σ x (.u (.c (.v (.int ik e)))))
    (h0 : 0 ≤ e) (h1 : e < rows.length) (hd : o.dst = some d) (hn : okT K d = true) (hrd : (i == d) = false) : Step P K σ o (put σ d (.addr i (.i e.toNat sz) [] 0)) :=
  step_quiet hd hn hrd (fun a w Fs hs => by
    have h := hs.rep i
    rw [hi] at h
    have hxv := (hx.rep hs).v_eq.1
    generalize hv : a.tmps.getD i undef = v at h
    generalize Fs i = F at h
    cases h with
    | u h => cases h with
      | c h =>
        cases h with
        | nil => simp at h1; omega
        | @sl b off len cap _ _ arr et _ F1 F' hb hlen hcap hsz hfit hrow hrep ho2 =>
          subst hlen
          refine ⟨.pointer (some ⟨b, off + e.toNat * sz + 0, none⟩), ?_, .addr (by rw [hv]; rfl)⟩
          have := run_indexAt_some (P := P) hu (b := b) (o' := off) (n := rows.length) (cap := cap) (k := ik) h0 h1 w
          simp only [execOp, ho, getD_eval, hv, hxv, Sem.run_bind, this, Result.andThen_ok, Sem.run_pure, Nat.add_zero])
end
end Go.Proofs.Ytfbjhioefkimbaa.V
namespace Go.Proofs.Ytfbjhioefkimbaa.V
open Go Go.RowKit
set_option linter.unusedVariables false
set_option linter.unusedSimpArgs false

def constT (ET : TypeId) : Value → T
  | .nilIface => .u (.c (.err none))
  | .iface e (.int .i64 n) => if e = ET then .u (.c (.err (some n))) else .junk
  | v => if plainV v then .u (.c (.v v)) else .junk
def opT (ET : TypeId) (σ : St) : Operand → T
  | .tmp i => aliasT i (σ i)
  | .const v => constT ET v
  | _ => .junk
def bitI (op : BinOp) (k : IntKind) (x y : Int) : Int :=
  let a := BitVec.ofInt k.bits x
  let b := BitVec.ofInt k.bits y
  match op with
  | .and => k.wrap (a &&& b).toNat
  | .or => k.wrap (a ||| b).toNat
  | .xor => k.wrap (a ^^^ b).toNat
  | _ => k.wrap (a &&& ~~~b).toNat
def intB (op : BinOp) (k : IntKind) (x y : Int) : Option Value :=
  match op with
  | .add => some (.int k (k.wrap (x + y)))
  | .sub => some (.int k (k.wrap (x - y)))
  | .mul => some (.int k (k.wrap (x * y)))
  | .and => some (.int k (bitI .and k x y))
  | .or => some (.int k (bitI .or k x y))
  | .xor => some (.int k (bitI .xor k x y))
  | .andNot => some (.int k (bitI .andNot k x y))
  | .eql => some (.bool (x == y))
  | .neq => some (.bool (x != y))
  | .lss => some (.bool (decide (x < y)))
  | .leq => some (.bool (decide (x ≤ y)))
  | .gtr => some (.bool (decide (x > y)))
  | .geq => some (.bool (decide (x ≥ y)))
  | _ => none
def kindEq : IntKind → IntKind → Bool
  | .i8, .i8 | .i16, .i16 | .i32, .i32 | .i64, .i64 | .u8, .u8 | .u16, .u16 | .u32, .u32 | .u64, .u64 => true
  | _, _ => false
theorem kindEq_eq {a b : IntKind} (h : kindEq a b = true) : a = b := by cases a <;> cases b <;> first | rfl | cases h
def pureT (ET : TypeId) (σ : St) : Op → Option T
  | .move x | .assign x => match opT ET σ x with
    | .junk => none
    | t => some t
  | .nilCheck x => match opT ET σ x with
    | .addr r s p off => some (.addr r s p off)
    | _ => none
  | .binOp op _ x y _ => match opT ET σ x, opT ET σ y with
    | .u (.c (.v (.int k a))), .u (.c (.v (.int k' b))) => if kindEq k k' then (intB op k a b).map fun v => .u (.c (.v v)) else none
    | _, _ => none
  | .unOp .not _ x => match opT ET σ x with
    | .u (.c (.v (.bool b))) => some (.u (.c (.v (.bool (!b)))))
    | _ => none
  | .pick c x y => match opT ET σ c with
    | .u (.c (.v (.bool true))) => match opT ET σ x with
      | .junk => none
      | t => some t
    | .u (.c (.v (.bool false))) => match opT ET σ y with
      | .junk => none
      | t => some t
    | _ => none
  | .extract (.tmp i) j => match σ i with
    | .tup us => match us[j]? with
      | some u => if copyU u then some (.u u) else none
      | none => none
    | _ => none
  | _ => none

section
variable {P : Program} {ET : TypeId} {w w' : World} {R : Nat → Prop} {K : Ctx} {σ : St} {a : Act} {Fs : Nat → List Nat} {o : Oper} {d : Nat}

theorem constT_rep {v : Value} {t : T} {tmps : Array Value} (h : constT ET v = t) (ht : t ≠ .junk) : RepT ET w R tmps v t [] := by
  subst h
  unfold constT at *
  split
  · exact .u (.c (.err none))
  · split
    · rename_i e; subst e; exact .u (.c (.err (some _)))
    · rename_i e; simp [e] at ht
  · split
    · rename_i hp; exact .u (.c (.v hp))
    · exact .junk _
theorem opT_rep (hs : SimF K σ a w Fs) {x : Operand} {t : T} (h : opT K.ET σ x = t) (ht : t ≠ .junk) : RepT K.ET w K.R a.tmps (a.eval x) t [] := by
  cases x with
  | tmp i => rw [← h]; exact (hs.rep i).alias
  | const v => exact constT_rep h ht
  | global g => exact absurd h.symm (by simpa [opT] using ht)
  | func f => exact absurd h.symm (by simpa [opT] using ht)
theorem opT_v (hs : SimF K σ a w Fs) {x : Operand} {v : Value} (h : opT K.ET σ x = .u (.c (.v v))) : a.eval x = v := (opT_rep hs h (by simp)).v_eq.1
theorem intB_run {op : BinOp} {k : IntKind} {x y : Int} {v : Value} (h : intB op k x y = some v) (t : TypeId) (w : World) : (binOp op t (.int k x) (.int k y)).run P w = .ok v w ∧ plainV v = true := by
  cases op <;> simp only [intB, Option.some.injEq] at h <;> first
    | (cases h; done)
    | (subst h
       refine ⟨?_, rfl⟩
       simp [binOp, Op.intArith, Op.intBits, Op.intCmp, bitI, pure, Sem.run])
theorem eqGuard_int (op : BinOp) (t : TypeId) (x y : Operand) (k : IntKind) (p : Int) (b : Value) (w : World) : (eqGuard op t x y (.int k p) b).run P w = .ok () w := by
  cases op <;> rfl
theorem RepUs.at_ {l : List Value} {us : List U} {F : List Nat} {j : Nat} {u : U} (hus : RepUs ET w R l us F) (hu : us[j]? = some u) (hc : copyU u = true) : ∃ y, l[j]? = some y ∧ RepU ET w R y u [] := by
  induction us generalizing l F j with
  | nil => simp at hu
  | cons u0 us ih =>
    cases hus with
    | @cons x0 _ xs _ F0 G hh tt =>
      cases j with
      | zero =>
        simp only [List.getElem?_cons_zero, Option.some.injEq] at hu
        subst hu
        refine ⟨x0, rfl, ?_⟩
        rw [hh.copy hc] at hh
        exact hh
      | succ j =>
        have := ih tt (by simpa using hu)
        simpa using this
theorem run_pureT (hs : SimF K σ a w Fs) {t : T} (h : pureT K.ET σ o.op = some t) : ∃ v, (execOp a.eval o).run P w = .ok (.value v) w ∧ RepT K.ET w K.R a.tmps v t [] := by
  cases ho : o.op <;> rw [ho] at h <;> simp only [pureT] at h
  case move x =>
    split at h
    · cases h
    · rename_i t' hj
      injection h with h
      subst h
      exact ⟨a.eval x, by simp [execOp, ho, pure], opT_rep hs rfl (fun e => hj e)⟩
  case assign x =>
    split at h
    · cases h
    · rename_i t' hj
      injection h with h
      subst h
      exact ⟨a.eval x, by simp [execOp, ho, pure], opT_rep hs rfl (fun e => hj e)⟩
  case nilCheck x =>
    split at h
    · rename_i r s p off hx
      injection h with h
      subst h
      have h := opT_rep hs hx (by simp)
      generalize hv : a.eval x = v at h
      cases h with
      | addr h => exact ⟨_, by simp [execOp, ho, hv, pure], .addr h⟩
    · cases h
  case binOp op xt x y yt =>
    split at h
    · rename_i k p k' q hx hy
      split at h
      · rename_i hk
        have hk := kindEq_eq hk
        subst hk
        simp only [Option.map_eq_some_iff] at h
        obtain ⟨v, hv, rfl⟩ := h
        obtain ⟨h1, h2⟩ := intB_run (P := P) hv xt w
        have e1 := opT_v hs hx
        have e2 := opT_v hs hy
        refine ⟨v, ?_, .u (.c (.v h2))⟩
        simp only [execOp, ho, Sem.run_bind, e1, e2, eqGuard_int, Result.andThen_ok, h1, Sem.run_pure]
      · cases h
    · cases h
  case unOp op xt x =>
    cases op <;> simp only at h <;> try cases h
    split at h
    · rename_i b hx
      injection h with h
      subst h
      have e1 := opT_v hs hx
      exact ⟨.bool (!b), by simp [execOp, ho, e1, Op.unary, pure], .u (.c (.v rfl))⟩
    · cases h
  case pick c x y =>
    split at h
    · rename_i hc
      have e1 := opT_v hs hc
      split at h
      · cases h
      · rename_i t' hj
        injection h with h
        subst h
        exact ⟨a.eval x, by simp [execOp, ho, e1, asBool, pure], opT_rep hs rfl (fun e => hj e)⟩
    · rename_i hc
      have e1 := opT_v hs hc
      split at h
      · cases h
      · rename_i t' hj
        injection h with h
        subst h
        exact ⟨a.eval y, by simp [execOp, ho, e1, asBool, pure], opT_rep hs rfl (fun e => hj e)⟩
    · cases h
  case extract x j =>
    cases x <;> simp only at h <;> try cases h
    rename_i i
    split at h
    · rename_i us hi
      split at h
      · rename_i u hu
        split at h
        · rename_i hc
          injection h with h
          subst h
          have hr := hs.rep i
          rw [hi] at hr
          generalize hv : a.tmps.getD i undef = v at hr
          generalize Fs i = F at hr
          cases hr with
          | @tup arr _ F hus =>
            obtain ⟨y, hy, hru⟩ := hus.at_ hu hc
            refine ⟨y, ?_, .u hru⟩
            have hy' : arr[j]? = some y := by simpa using hy
            simp [execOp, ho, getD_eval, hv, Instr.extract, hy', pure]
        · cases h
      · cases h
    · cases h
  all_goals cases h
/-- The rule. -/
theorem s_p {t : T} (h : pureT K.ET σ o.op = some t) (hd : o.dst = some d) (hn : okT K d = true) (hr : refs t d = false) : Step P K σ o (put σ d t) :=
  step_quiet hd hn hr (fun _ _ _ hs => run_pureT hs h)
end
end Go.Proofs.Ytfbjhioefkimbaa.V
namespace Go.Proofs.Ytfbjhioefkimbaa.V
open Go Go.RowKit
set_option linter.unusedVariables false
set_option linter.unusedSimpArgs false

def BoolT (P : Program) (t : TypeId) : Prop := P.underlying t = some .bool
def IfaceT (P : Program) (t : TypeId) : Prop := ∃ ms, P.underlying t = some (.interface ms)
def PtrT (P : Program) (t : TypeId) : Prop := ∃ e, P.underlying t = some (.pointer e)
/-- The type of the errors' values: a whole number. -/
def ErrT (P : Program) (t : TypeId) : Prop := (P.info? t).map (·.comparable) = some true ∧ ∃ k, P.underlying t = some (.int k)
/-- How structs of a type are compared. -/
def EqAgg (P : Program) (t : TypeId) (f : List Value → List Value → Option Bool) : Prop := ∀ xs ys b w, f xs ys = some b → (Op.equal t (.agg xs.toArray) (.agg ys.toArray)).run P w = .ok b w
def valC : C → Option Value
  | .v x => some x
  | _ => none
def valCs : List C → Option (List Value)
  | [] => some []
  | c :: cs => match valC c, valCs cs with
    | some x, some xs => some (x :: xs)
    | _, _ => none

section
variable {P : Program} {ET : TypeId} {w w' : World} {R : Nat → Prop} {K : Ctx} {σ : St} {a : Act} {Fs : Nat → List Nat} {o : Oper} {d : Nat}

theorem equal_at {t : TypeId} {x y : Value} {b : Bool} (h : ∀ n, (Op.equalIn (n + 2) t x y).run P w = .ok b w) : (Op.equal t x y).run P w = .ok b w := h 9998
theorem eqGuard_plain (op : BinOp) (t : TypeId) (x y : Operand) (p q : Value) (hp : ∀ z, p ≠ .agg z) (hn : p ≠ .nilIface ∨ q ≠ .nilIface ∨ (∃ v, x = .const v) ∨ ∃ v, y = .const v) (w : World) : (eqGuard op t x y p q).run P w = .ok () w := by
  by_cases h : op = .eql ∨ op = .neq
  · rcases h with rfl | rfl <;> (cases p <;> first | (cases q <;> first | rfl | (rcases hn with h | h | ⟨v, rfl⟩ | ⟨v, rfl⟩ <;> first | exact absurd rfl h | rfl | (cases x <;> rfl))) | exact absurd rfl (hp _))
  · cases op <;> first | rfl | (exact absurd (.inl rfl) h) | (exact absurd (.inr rfl) h)
theorem s_eqB {op : BinOp} {xt yt : TypeId} {x y : Operand} {p q : Bool} (ho : o.op = .binOp op xt x y yt) (hop : op = .eql ∨ op = .neq) (ht : BoolT P xt) (hx : opT K.ET σ x = .u (.c (.v (.bool p)))) (hy : opT K.ET σ y = .u (.c (.v (.bool q))))
    (hd : o.dst = some d) (hn : okT K d = true) : Step P K σ o (put σ d (.u (.c (.v (.bool (if op = .eql then p == q else !(p == q))))))) :=
  step_quiet hd hn rfl (fun a w Fs hs => by
    have e1 := opT_v hs hx
    have e2 := opT_v hs hy
    refine ⟨_, ?_, .u (.c (.v rfl))⟩
    have h1 : (Op.equal xt (.bool p) (.bool q)).run P w = .ok (p == q) w := equal_at (fun n => by simp [Op.equalIn, run_underlying ht, pure])
    rcases hop with rfl | rfl
    · simp [execOp, ho, Sem.run_bind, e1, e2, eqGuard_plain, binOp, h1, pure]
    · simp [execOp, ho, Sem.run_bind, e1, e2, eqGuard_plain, binOp, h1, pure])
theorem errV_agg (t : Option Int) : ∀ z, errV ET t ≠ .agg z := by cases t <;> simp [errV]
theorem run_eqErr {xt : TypeId} (ht : IfaceT P xt) (he : ErrT P ET) (t u : Option Int) (w : World) : (Op.equal xt (errV ET t) (errV ET u)).run P w = .ok (t == u) w := by
  obtain ⟨ms, ht⟩ := ht
  obtain ⟨hc, k, hk⟩ := he
  cases hi : P.info? ET with
  | none => simp [hi] at hc
  | some i =>
    have hcc : i.comparable = true := by simpa [hi] using hc
    refine equal_at (fun n => ?_)
    cases t <;> cases u <;> simp only [errV] <;> simp [Op.equalIn, run_underlying ht, run_underlying hk, typeInfo, hi, hcc]
theorem RepT.err_eq {tmps : Array Value} {v : Value} {t : Option Int} {F : List Nat} (h : RepT ET w R tmps v (.u (.c (.err t))) F) : v = errV ET t := by
  cases h with | u h => cases h with | c h => cases h with | err _ => rfl
theorem s_eqE {op : BinOp} {xt yt : TypeId} {x y : Operand} {t u : Option Int} (ho : o.op = .binOp op xt x y yt) (hop : op = .eql ∨ op = .neq) (ht : IfaceT P xt) (he : ErrT P K.ET) (hx : opT K.ET σ x = .u (.c (.err t))) (hy : opT K.ET σ y = .u (.c (.err u)))
    (hg : t ≠ none ∨ u ≠ none ∨ (∃ v, x = .const v) ∨ ∃ v, y = .const v) (hd : o.dst = some d) (hn : okT K d = true) : Step P K σ o (put σ d (.u (.c (.v (.bool (if op = .eql then t == u else !(t == u))))))) :=
  step_quiet hd hn rfl (fun a w Fs hs => by
    have e1 := (opT_rep hs hx (by simp)).err_eq
    have e2 := (opT_rep hs hy (by simp)).err_eq
    refine ⟨_, ?_, .u (.c (.v rfl))⟩
    have hg' : errV K.ET t ≠ .nilIface ∨ errV K.ET u ≠ .nilIface ∨ (∃ v, x = .const v) ∨ ∃ v, y = .const v := by
      rcases hg with h | h | h
      · exact .inl (by cases t <;> simp_all [errV])
      · exact .inr (.inl (by cases u <;> simp_all [errV]))
      · exact .inr (.inr h)
    have h1 := run_eqErr (P := P) ht he t u w
    have h2 : ∀ op', op' = BinOp.eql ∨ op' = .neq → (binOp op' xt (errV K.ET t) (errV K.ET u)).run P w = .ok (.bool (if op' = .eql then t == u else !(t == u))) w := by
      intro op' hop'
      rcases hop' with rfl | rfl <;> (cases t <;> cases u <;> simp only [binOp, errV] at h1 ⊢ <;> simp [Sem.run_bind, h1, pure])
    simp only [execOp, ho, Sem.run_bind, e1, e2, eqGuard_plain op xt x y _ _ (errV_agg t) hg' w, Result.andThen_ok, h2 op hop, Sem.run_pure])
/-- A pointer to a variable isn't nil. -/
theorem s_eqP {op : BinOp} {xt yt : TypeId} {x : Operand} {r off : Nat} {s : Sel} {p : List (Nat × Sel)} (ho : o.op = .binOp op xt x (.const (.pointer none)) yt) (hop : op = .eql ∨ op = .neq) (ht : PtrT P xt) (hx : opT K.ET σ x = .addr r s p off)
    (hd : o.dst = some d) (hn : okT K d = true) : Step P K σ o (put σ d (.u (.c (.v (.bool (if op = .eql then false else true)))))) :=
  step_quiet hd hn rfl (fun a w Fs hs => by
    obtain ⟨e, ht⟩ := ht
    have h := opT_rep hs hx (by simp)
    generalize hv : a.eval x = v at h
    cases h with
    | @addr _ _ b o' _ _ h =>
      refine ⟨_, ?_, .u (.c (.v rfl))⟩
      have hy : a.eval (.const (.pointer none)) = .pointer none := rfl
      have h1 : (Op.equal xt (.pointer (some ⟨b, o' + off, none⟩)) (.pointer none)).run P w = .ok false w := equal_at (fun n => by simp [Op.equalIn, run_underlying ht, pure])
      rcases hop with rfl | rfl
      · simp [execOp, ho, Sem.run_bind, hv, hy, eqGuard_plain, binOp, h1, pure]
      · simp [execOp, ho, Sem.run_bind, hv, hy, eqGuard_plain, binOp, h1, pure])
theorem s_eqP0 {op : BinOp} {xt yt : TypeId} {x : Operand} (ho : o.op = .binOp op xt x (.const (.pointer none)) yt) (hop : op = .eql ∨ op = .neq) (ht : PtrT P xt) (hx : opT K.ET σ x = .u (.c (.v (.pointer none))))
    (hd : o.dst = some d) (hn : okT K d = true) : Step P K σ o (put σ d (.u (.c (.v (.bool (if op = .eql then true else false)))))) :=
  step_quiet hd hn rfl (fun a w Fs hs => by
    obtain ⟨e, ht⟩ := ht
    have hv := opT_v hs hx
    refine ⟨_, ?_, .u (.c (.v rfl))⟩
    have hy : a.eval (.const (.pointer none)) = .pointer none := rfl
    have h1 : (Op.equal xt (.pointer none) (.pointer none)).run P w = .ok true w := equal_at (fun n => by simp [Op.equalIn, run_underlying ht, pure])
    rcases hop with rfl | rfl
    · simp [execOp, ho, Sem.run_bind, hv, hy, eqGuard_plain, binOp, h1, pure]
    · simp [execOp, ho, Sem.run_bind, hv, hy, eqGuard_plain, binOp, h1, pure])
theorem s_iface {e : TypeId} {n : Int} {x : Operand} (ho : o.op = .makeInterface e x) (he : ErrT P e) (hK : K.ET = e) (hx : opT K.ET σ x = .u (.c (.v (.int .i64 n))))
    (hd : o.dst = some d) (hn : okT K d = true) : Step P K σ o (put σ d (.u (.c (.err (some n))))) :=
  step_quiet hd hn rfl (fun a w Fs hs => by
    obtain ⟨_, k, hk⟩ := he
    have hv := opT_v hs hx
    refine ⟨errV K.ET (some n), ?_, .u (.c (.err _))⟩
    have h1 := run_underlying (P := P) hk w
    subst hK
    simp [execOp, ho, Sem.run_bind, hv, Instr.makeInterface, h1, errV, pure])
theorem RepT.vals {tmps : Array Value} {v : Value} {cs : List C} {xs : List Value} {F : List Nat} (h : RepT ET w R tmps v (.u (.agg cs)) F) (hx : valCs cs = some xs) : v = .agg xs.toArray := by
  cases h with
  | u h => cases h with
    | @agg arr _ _ h =>
      have : arr.toList = xs := by
        generalize arr.toList = l at h
        induction cs generalizing l xs F with
        | nil => cases h; simp only [valCs, Option.some.injEq] at hx; exact hx
        | cons c cs ih =>
          cases h with
          | @cons x0 _ ys _ F0 G h t =>
            simp only [valCs] at hx
            split at hx
            · rename_i y ys' h1 h2
              injection hx with hx
              subst hx
              cases c <;> simp only [valC] at h1 <;> try cases h1
              cases h with
              | v h => rw [ih h2 _ t]
            · cases hx
      rw [← this]
theorem s_eqA {op : BinOp} {xt yt : TypeId} {x y : Operand} {cs ds : List C} {xs ys : List Value} {b : Bool} {f : List Value → List Value → Option Bool} (ho : o.op = .binOp op xt x y yt) (hop : op = .eql ∨ op = .neq) (hf : EqAgg P xt f) (hq : P.eqGuardType P.depth xt = false)
    (hx : opT K.ET σ x = .u (.agg cs)) (hy : opT K.ET σ y = .u (.agg ds)) (h1 : valCs cs = some xs) (h2 : valCs ds = some ys) (h3 : f xs ys = some b) (hd : o.dst = some d) (hn : okT K d = true) : Step P K σ o (put σ d (.u (.c (.v (.bool (if op = .eql then b else !b)))))) :=
  step_quiet hd hn rfl (fun a w Fs hs => by
    have e1 := (opT_rep hs hx (by simp)).vals h1
    have e2 := (opT_rep hs hy (by simp)).vals h2
    have e3 := hf xs ys b w h3
    refine ⟨_, ?_, .u (.c (.v rfl))⟩
    rcases hop with rfl | rfl
    · simp [execOp, ho, Sem.run_bind, e1, e2, eqGuard, hq, binOp, e3, pure, program, Sem.run]
    · simp [execOp, ho, Sem.run_bind, e1, e2, eqGuard, hq, binOp, e3, pure, program, Sem.run])
theorem s_lenV {t : TypeId} {i r sz bytes lo n : Nat} {pl : Option (Sel × List (Nat × Sel) × Nat)} (ho : o.op = .call { callee := .builtin .len, args := #[.tmp i], argTypes := #[t] }) (hu : SliceT P t sz bytes) (hi : viewOf (aliasT i (σ i)) = some (r, pl, sz, lo, n)) (hd : o.dst = some d) (hn : okT K d = true) : Step P K σ o (put σ d (.u (.c (.v (.int .i64 n))))) :=
  step_quiet hd hn rfl (fun a w Fs hs => by
    obtain ⟨e, inf, hu, _⟩ := hu
    obtain ⟨sv, _, hsub⟩ := ((OpT.tmp rfl).rep hs (x := .tmp i)).viewOf hi
    generalize hv : a.eval (.tmp i) = v at hsub
    have hv' : ∃ ad c, v = .slice ad n c := by
        rcases hsub with ⟨_, h2, _, h4⟩ | ⟨b, o', L, cap, _, _, _, h4 | ⟨h5, _, _, _, h4⟩⟩
        · subst h4; exact ⟨_, _, h2⟩
        · exact ⟨_, _, h4⟩
        · subst h5; exact ⟨_, _, h4⟩
    obtain ⟨ad, c, rfl⟩ := hv'
    refine ⟨.int .i64 n, ?_, .u (.c (.v rfl))⟩
    simp [execOp, ho, Sem.run_bind, resolve, invoke, builtin, hv, Builtin.len_, run_underlying hu, goInt, pure])
theorem s_lenU {t : TypeId} {i sz bytes : Nat} {own : Bool} {rows : List (List C)} (ho : o.op = .call { callee := .builtin .len, args := #[.tmp i], argTypes := #[t] }) (hu : SliceT P t sz bytes) (hi : σ i = .u (.c (.sl own sz rows))) (hd : o.dst = some d) (hn : okT K d = true) : Step P K σ o (put σ d (.u (.c (.v (.int .i64 rows.length))))) :=
  step_quiet hd hn rfl (fun a w Fs hs => by
    obtain ⟨e, inf, hu, _⟩ := hu
    have h := hs.rep i
    rw [hi] at h
    generalize hv : a.tmps.getD i undef = v at h
    generalize Fs i = F at h
    have hv' : ∃ ad c, v = .slice ad rows.length c := by
      cases h with
      | u h => cases h with
        | c h => cases h with
          | nil => exact ⟨_, _, rfl⟩
          | sl hb hlen => subst hlen; exact ⟨_, _, rfl⟩
    obtain ⟨ad, c, rfl⟩ := hv'
    refine ⟨.int .i64 rows.length, ?_, .u (.c (.v rfl))⟩
    simp [execOp, ho, Sem.run_bind, resolve, invoke, builtin, getD_eval, hv, Builtin.len_, run_underlying hu, goInt, pure])
end
end Go.Proofs.Ytfbjhioefkimbaa.V
namespace Go.Proofs.Ytfbjhioefkimbaa.V
open Go Go.RowKit
set_option linter.unusedVariables false
set_option linter.unusedSimpArgs false

/-- A type's value 0. -/
def ZeroT (P : Program) (t : TypeId) (cs : List C) : Prop := ∃ i z, P.info? t = some i ∧ i.zero = some z ∧ ∀ ET w R, RepL ET w R z.cells.toList cs []
/-- Where a struct's fields lie. -/
def BuildT (P : Program) (t : TypeId) (pl : List (Nat × Nat)) : Prop := ∃ fields, P.underlying t = some (.struct fields) ∧ ∀ w, (fields.mapM (fun f => do pure (f.offset, ← sizeOf f.type) : Field → Sem (Nat × Nat))).run P w = .ok pl.toArray w
def cellsU : U → List C
  | .c x => [x]
  | .agg cs => cs
  | .fn _ _ => []
def liveU : U → Bool
  | .c .dead => false
  | .fn _ _ => false
  | _ => true
/-- An operand whose value is taken: copied, or moved out of its temporary. -/
inductive Src (K : Ctx) (σ : St) : Operand → U → List Nat → Prop
  | copy {x : Operand} {u : U} (h : opT K.ET σ x = .u u) (hc : copyU u = true) (hl : liveU u = true) : Src K σ x u []
  | sl (sz : Nat) : Src K σ (.const (.slice none 0 0)) (.c (.sl true sz [])) []
  | move {i : Nat} {u : U} (h : σ i = .u u) (hl : liveU u = true) : Src K σ (.tmp i) u [i]
def junks (σ : St) (l : List Nat) : St := fun i => if l.contains i then .junk else σ i

section
variable {P : Program} {ET : TypeId} {w w' : World} {R : Nat → Prop} {K : Ctx} {σ : St} {a : Act} {Fs : Nat → List Nat} {o : Oper} {d : Nat}

theorem RepC.oneCell {x : Value} {c : C} {F : List Nat} (h : RepC ET w R x c F) (hc : c ≠ .dead) : x.cells = #[x] ∧ x.oneCell' = true := by
  cases h with
  | v h => cases x <;> first | exact ⟨rfl, rfl⟩ | simp [plainV] at h
  | err t => cases t <;> exact ⟨rfl, rfl⟩
  | nil => exact ⟨rfl, rfl⟩
  | sl => exact ⟨rfl, rfl⟩
  | pt => exact ⟨rfl, rfl⟩
  | @x _ q _ h => exact q.one h
  | dead => exact absurd rfl hc
def liveL (cs : List C) : Bool := cs.all fun | .dead => false | _ => true
theorem RepL.oneCell {xs : List Value} {cs : List C} {F : List Nat} (h : RepL ET w R xs cs F) (hl : liveL cs = true) : ∀ x ∈ xs, x.oneCell' = true := by
  induction cs generalizing xs F with
  | nil => cases h; simp
  | cons c cs ih =>
    cases h with
    | cons h t =>
      simp only [liveL, List.all_cons, Bool.and_eq_true] at hl
      intro x hx
      rcases List.mem_cons.mp hx with rfl | hx
      · exact (h.oneCell (by rintro rfl; simp at hl)).2
      · exact ih t hl.2 x hx
theorem RepU.cells {x : Value} {u : U} {F : List Nat} (h : RepU ET w R x u F) (hl : liveU u = true) : RepL ET w R x.cells.toList (cellsU u) F := by
  cases h with
  | c h =>
    rw [(h.oneCell (by rintro rfl; simp [liveU] at hl)).1]
    have := RepL.cons h (.nil (ET := ET) (w := w) (R := R))
    simpa [cellsU] using this
  | agg h => exact h
  | fn h => simp [liveU] at hl

/-- A temporary is put; what it owns is new, or nobody's. -/
theorem SimF.put2 (h : SimF K σ a w Fs) {d : Nat} {v : Value} {t : T} {F : List Nat} (hd : okT K d = true) (hk : Keeps w [] w') (hF : ∀ b ∈ F, (∀ j, b ∉ Fs j) ∧ ¬ K.R b ∧ (b ∈ K.E ∨ K.w0.heap.size ≤ b)) (hnd : F.Nodup)
    (ht : RepT K.ET w' K.R (a.tmps.setIfInBounds d v) v t F) : SimF K (V.put σ d t) (a.put (some d) v) w' (updF Fs d F) := by
  have hall : ∀ b, b < w.heap.size → w'.heap[b]? = w.heap[b]? := fun b hb => hk.block b hb (by simp)
  have hlt : ∀ i, ∀ b ∈ Fs i, b < w.heap.size := fun i => (h.rep i).lt
  have hRs : ∀ b, K.R b → b < w.heap.size := fun b hb => Nat.lt_of_lt_of_le (h.ro b hb).1 h.keeps.size
  refine ⟨?_, ?_, ?_, ?_, h.keeps.trans hk (by simp), h.ro, by rw [← h.size]; simp [Act.put], fun i hi => by simp only [Act.put]; rw [getD_put (okT_pin hd hi)]; exact h.pin i hi, h.defers⟩
  · intro i
    by_cases hi : i = d
    · subst hi
      simp only [V.put, updF, if_true, Act.put]
      rw [getD_same (by rw [h.size]; exact okT_lt hd)]
      exact ht
    · simp only [V.put, updF, if_neg hi, Act.put]
      rw [getD_put hi]
      refine (h.rep i).kill.turn (fun b hb => ?_) (fun s p v q => walk_same hall) (fun ad sv sz lo n v hc _ => (cell_blk (hall _ (cell_lt hc))).trans hc) (fun r hr => getD_put (killR_sub hr))
      rcases hb with hb | hb
      · exact hall b (hlt i b hb)
      · exact hall b (hRs b hb)
  · intro i
    unfold updF
    split
    · exact hnd
    · exact h.nd i
  · intro i j b hi hj
    unfold updF at hi hj
    split at hi <;> split at hj
    · rename_i h1 h2; rw [h1, h2]
    · exact absurd hj ((hF b hi).1 j)
    · exact absurd hi ((hF b hj).1 i)
    · exact h.dis i j b hi hj
  · intro i b hi
    unfold updF at hi
    split at hi
    · exact (hF b hi).2
    · exact h.own i b hi
/-- What is said of blocks that nobody has. -/
def Free (K : Ctx) (Fs : Nat → List Nat) (F : List Nat) : Prop := F.Nodup ∧ ∀ b ∈ F, (∀ j, b ∉ Fs j) ∧ ¬ K.R b ∧ (b ∈ K.E ∨ K.w0.heap.size ≤ b)
/-- One value is taken. -/
theorem SimF.take (hs : SimF K σ a w Fs) {x : Operand} {u : U} {l : List Nat} (h : Src K σ x u l) : ∃ F Fs', RepU K.ET w K.R (a.eval x) u F ∧ SimF K (junks σ l) a w Fs' ∧ Free K Fs' F ∧ (∀ j b, b ∈ Fs' j → b ∈ Fs j) ∧ (∀ b ∈ F, ∃ j, b ∈ Fs j) := by
  cases h with
  | copy h hc hl =>
    have h1 := opT_rep hs h (by simp)
    refine ⟨[], Fs, ?_, ?_, ⟨List.nodup_nil, by simp⟩, fun _ _ h => h, by simp⟩
    · generalize a.eval x = v at h1
      cases h1 with | u h => exact h
    · have : junks σ [] = σ := by funext i; simp [junks]
      rw [this]; exact hs
  | sl sz =>
    refine ⟨[], Fs, .c (.nil true sz), ?_, ⟨List.nodup_nil, by simp⟩, fun _ _ h => h, by simp⟩
    have : junks σ [] = σ := by funext i; simp [junks]
    rw [this]; exact hs
  | @move i _ h hl =>
    have h1 := hs.rep i
    rw [h] at h1
    refine ⟨Fs i, updF Fs i [], ?_, ?_, ⟨hs.nd i, fun b hb => ⟨fun j hj => ?_, hs.own i b hb⟩⟩, ?_, fun b hb => ⟨i, hb⟩⟩
    · rw [getD_eval]
      generalize Fs i = F at h1 ⊢
      generalize a.tmps.getD i undef = v at h1 ⊢
      cases h1 with | u h => exact h
    · have : junks σ [i] = upd σ i .junk := by funext j; simp [junks, upd]
      rw [this]; exact hs.out i
    · unfold updF at hj
      split at hj
      · cases hj
      · rename_i hne; exact hne (hs.dis j i b hj hb)
    · intro j b hb
      unfold updF at hb
      split at hb
      · cases hb
      · exact hb
theorem Keeps.alloc (w : World) (o : Obj) : Keeps w [] (w.alloc o) := Keeps.of_below ((Below.refl _ _).alloc (Nat.le_refl _) o) []
theorem alloc_new (w : World) (o : Obj) : (w.alloc o).heap[w.heap.size]? = some o := heap_alloc_new w o
theorem alloc_old (w : World) (o : Obj) {b : Nat} (h : b < w.heap.size) : (w.alloc o).heap[b]? = w.heap[b]? := Below.heap_alloc w o b h
/-- A new block, with what is taken in it. -/
theorem SimF.boxed (hs : SimF K σ a w Fs) {F : List Nat} (hF : Free K Fs F) {xs : Array Value} {cs : List C} {et : TypeId} (hr : RepL K.ET w K.R xs.toList cs F) :
    RepL K.ET (w.alloc (.cells xs et)) K.R xs.toList cs F ∧ Free K Fs (w.heap.size :: F) := by
  have hRs : ∀ b, K.R b → b < w.heap.size := fun b hb => Nat.lt_of_lt_of_le (hs.ro b hb).1 hs.keeps.size
  refine ⟨hr.frame (fun _ h => h) (fun b hb => alloc_old w _ (hb.elim (fun h => hr.lt b h) (hRs b))), ?_, ?_⟩
  · rw [List.nodup_cons]
    exact ⟨fun h => Nat.lt_irrefl _ (hr.lt _ h), hF.1⟩
  · intro b hb
    rcases List.mem_cons.mp hb with rfl | hb
    · exact ⟨fun j hj => Nat.lt_irrefl _ ((hs.rep j).lt _ hj), fun hR => Nat.lt_irrefl _ (hRs _ hR), .inr hs.keeps.size⟩
    · exact hF.2 b hb
theorem s_box {t : TypeId} {x : Operand} {u : U} {l : List Nat} (ho : o.op = .box t x) (hx : Src K σ x u l) (hd : o.dst = some d) (hn : okT K d = true) : Step P K σ o (put (junks σ l) d (.u (.c (.pt true (cellsU u))))) := by
  rintro a w ⟨Fs, hs⟩
  obtain ⟨F, Fs', hu, hs', hF, _, _⟩ := hs.take hx
  have hl : liveU u = true := by cases hx <;> first | assumption | rfl
  obtain ⟨h1, h2⟩ := hs'.boxed (et := t) hF (hu.cells hl)
  have hrun : (execOp a.eval o).run P w = .ok (.value (.pointer (some ⟨w.heap.size, 0, none⟩))) (w.alloc (.cells (a.eval x).cells t)) := by
    simp [execOp, ho, Instr.box, newVar, newRow, newObj, Sem.run, pure]
  simp only [Oper.wp, hrun, Oper.upon_value, hd]
  exact ⟨_, hs'.put2 hn (Keeps.alloc w _) h2.2 h2.1 (.u (.c (.pt (alloc_new w _) h1 (.inl ⟨rfl, rfl⟩))))⟩
theorem run_zeroValue {t : TypeId} {i : TypeInfo} {z : Value} (h : P.info? t = some i) (hz : i.zero = some z) (w : World) : (zeroValue t).run P w = .ok z w := by
  simp [zeroValue, typeInfo, h, hz, pure]
theorem s_alloc {t : TypeId} {cs : List C} (ho : o.op = .alloc t) (hz : ZeroT P t cs) (hd : o.dst = some d) (hn : okT K d = true) : Step P K σ o (put σ d (.u (.c (.pt true cs)))) := by
  rintro a w ⟨Fs, hs⟩
  obtain ⟨i, z, h1, h2, h3⟩ := hz
  obtain ⟨h4, h5⟩ := hs.boxed (et := t) (F := []) ⟨List.nodup_nil, by simp⟩ (h3 K.ET w K.R)
  have hrun : (execOp a.eval o).run P w = .ok (.value (.pointer (some ⟨w.heap.size, 0, none⟩))) (w.alloc (.cells z.cells t)) := by
    simp [execOp, ho, Instr.alloc, newVar, newRow, newObj, Sem.run, Sem.run_bind, run_zeroValue h1 h2, pure]
  simp only [Oper.wp, hrun, Oper.upon_value, hd]
  exact ⟨_, hs.put2 hn (Keeps.alloc w _) h5.2 h5.1 (.u (.c (.pt (alloc_new w _) h4 (.inl ⟨rfl, rfl⟩))))⟩
end
end Go.Proofs.Ytfbjhioefkimbaa.V
namespace Go.Proofs.Ytfbjhioefkimbaa.V
open Go Go.RowKit
set_option linter.unusedVariables false
set_option linter.unusedSimpArgs false

/-- Values taken one behind the other. -/
inductive Srcs (K : Ctx) : St → List (Nat × Operand) → List (Nat × U) → St → Prop
  | nil {σ : St} : Srcs K σ [] [] σ
  | cons {σ σ' : St} {i : Nat} {x : Operand} {u : U} {l : List Nat} {xs : List (Nat × Operand)} {us : List (Nat × U)} (h : Src K σ x u l) (t : Srcs K (junks σ l) xs us σ') : Srcs K σ ((i, x) :: xs) ((i, u) :: us) σ'
inductive RepPs (ET : TypeId) (w : World) (R : Nat → Prop) : List (Nat × Value) → List (Nat × U) → List Nat → Prop
  | nil : RepPs ET w R [] [] []
  | cons {i : Nat} {x : Value} {u : U} {xs : List (Nat × Value)} {us : List (Nat × U)} {F G : List Nat} (h : RepU ET w R x u F) (hl : liveU u = true) (t : RepPs ET w R xs us G) : RepPs ET w R ((i, x) :: xs) ((i, u) :: us) (F ++ G)
def fillC (pl : Nat → Option (Nat × Nat)) (cs : List C) : List (Nat × U) → Option (List C)
  | [] => some cs
  | (i, u) :: rest => match pl i with
    | some (off, n) => if (cellsU u).length = n ∧ off + n ≤ cs.length then fillC pl (cs.take off ++ (cellsU u ++ cs.drop (off + n))) rest else none
    | none => none
/-- A slice's rows, out of its cells. -/
def chop (sz : Nat) : Nat → List C → List (List C)
  | 0, _ => []
  | n + 1, cs => cs.take sz :: chop sz n (cs.drop sz)

section
variable {P : Program} {ET : TypeId} {w w' : World} {R : Nat → Prop} {K : Ctx} {σ : St} {a : Act} {Fs : Nat → List Nat} {o : Oper} {d : Nat}

theorem Src.live {x : Operand} {u : U} {l : List Nat} (h : Src K σ x u l) : liveU u = true := by cases h <;> first | assumption | rfl
theorem SimF.takes {xs : List (Nat × Operand)} {us : List (Nat × U)} {σ' : St} (h : Srcs K σ xs us σ') : ∀ {Fs}, SimF K σ a w Fs →
    ∃ F Fs', RepPs K.ET w K.R (xs.map fun p => (p.1, a.eval p.2)) us F ∧ SimF K σ' a w Fs' ∧ Free K Fs' F ∧ (∀ j b, b ∈ Fs' j → b ∈ Fs j) ∧ (∀ b ∈ F, ∃ j, b ∈ Fs j) := by
  induction h with
  | nil => intro Fs hs; exact ⟨[], Fs, .nil, hs, ⟨List.nodup_nil, by simp⟩, fun _ _ h => h, by simp⟩
  | @cons σ σ' i x u l xs us h t ih =>
    intro Fs hs
    obtain ⟨F1, Fs1, hu, hs1, hF1, hsub1, hin1⟩ := hs.take h
    obtain ⟨F2, Fs2, hp, hs2, hF2, hsub2, hin2⟩ := ih hs1
    refine ⟨F1 ++ F2, Fs2, .cons hu h.live hp, hs2, ⟨?_, ?_⟩, fun j b hb => hsub1 j b (hsub2 j b hb), ?_⟩
    · rw [List.nodup_append]
      refine ⟨hF1.1, hF2.1, ?_⟩
      rintro b hb1 c hc rfl
      obtain ⟨j, hj⟩ := hin2 b hc
      exact (hF1.2 b hb1).1 j hj
    · intro b hb
      rcases List.mem_append.mp hb with hb | hb
      · exact ⟨fun j hj => (hF1.2 b hb).1 j (hsub2 j b hj), (hF1.2 b hb).2⟩
      · exact hF2.2 b hb
    · intro b hb
      rcases List.mem_append.mp hb with hb | hb
      · exact hin1 b hb
      · obtain ⟨j, hj⟩ := hin2 b hb; exact ⟨j, hsub1 j b hj⟩
theorem foldl_set (off : Nat) : ∀ (vs : List Value) (k : Nat) (cells : Array Value), off + k + vs.length ≤ cells.size →
    ((vs.zipIdx k).foldl (fun cs (p : Value × Nat) => cs.setIfInBounds (off + p.2) p.1) cells).toList = cells.toList.take (off + k) ++ (vs ++ cells.toList.drop (off + k + vs.length)) := by
  intro vs
  induction vs with
  | nil => intro k cells _; simp
  | cons v vs ih =>
    intro k cells h
    rw [List.length_cons] at h
    rw [List.zipIdx_cons, List.foldl_cons, ih (k + 1) _ (by rw [Array.size_setIfInBounds]; omega)]
    have e := list_seg_step cells.toList (off + k) v vs (by simp; omega)
    rw [Array.toList_setIfInBounds, List.length_cons, show off + (k + 1) = off + k + 1 by omega, show off + k + 1 + vs.length = off + k + 1 + vs.length by rfl]
    simpa [Nat.add_assoc] using e
theorem RepL.window {xs : List Value} {cs ds : List C} {ys : List Value} {F G : List Nat} {off n : Nat} (h : RepL ET w R xs cs F) (hd : RepL ET w R ys ds G) (hn : ds.length = n) (hle : off + n ≤ cs.length) :
    ∃ F', RepL ET w R (xs.take off ++ (ys ++ xs.drop (off + n))) (cs.take off ++ (ds ++ cs.drop (off + n))) F' ∧ ((F ++ G).Nodup → F'.Nodup) ∧ ∀ b ∈ F', b ∈ F ∨ b ∈ G := by
  obtain ⟨ya, yz, F1, F2, e1, e2, ha, hz⟩ := RepL.split (cs := cs.take off) (ds := cs.drop off) (by rw [List.take_append_drop]; exact h)
  obtain ⟨yx, yb, F3, F4, e3, e4, hx, hb⟩ := RepL.split (cs := (cs.drop off).take n) (ds := (cs.drop off).drop n) (by rw [List.take_append_drop]; exact hz)
  have la : ya.length = off := by rw [ha.length, List.length_take]; omega
  have lx : yx.length = n := by rw [hx.length, List.length_take, List.length_drop]; omega
  have t1 : xs.take off = ya := by rw [e1, ← la, List.take_left]
  have t2 : xs.drop (off + n) = yb := by rw [e1, e3, ← la, ← lx, ← List.length_append, ← List.append_assoc, List.drop_left]
  rw [List.drop_drop] at hb
  refine ⟨F1 ++ (G ++ F4), ?_, ?_, ?_⟩
  · rw [t1, t2]; exact ha.append (hd.append hb)
  · subst e2; subst e4
    intro hnd
    simp only [List.nodup_append, List.mem_append] at hnd ⊢
    obtain ⟨⟨h1, ⟨h2, h3, h4⟩, h5⟩, h6, h7⟩ := hnd
    refine ⟨h1, ⟨h6, h3, ?_⟩, ?_⟩
    · intro x hx y hy e; exact h7 y (.inr (.inr hy)) x hx e.symm
    · intro x hx y hy
      rcases hy with hy | hy
      · exact h7 x (.inl hx) y hy
      · exact h5 x hx y (.inr hy)
  · subst e2; subst e4
    intro b hb
    simp only [List.mem_append] at hb ⊢
    rcases hb with h | h | h
    · exact .inl (.inl h)
    · exact .inr h
    · exact .inl (.inr (.inr h))
theorem fill_rep {pl : Nat → Option (Nat × Nat)} {us : List (Nat × U)} : ∀ {vs : List (Nat × Value)} {cells : Array Value} {cs cs' : List C} {F G : List Nat}, RepPs ET w R vs us G → RepL ET w R cells.toList cs F → (F ++ G).Nodup → fillC pl cs us = some cs' →
    ∃ cells' F', Instr.fill pl cells vs = some cells' ∧ RepL ET w R cells'.toList cs' F' ∧ F'.Nodup ∧ ∀ b ∈ F', b ∈ F ∨ b ∈ G := by
  induction us with
  | nil =>
    intro vs cells cs cs' F G h hc hnd hf
    cases h
    simp only [fillC, Option.some.injEq] at hf
    subst hf
    exact ⟨cells, F, rfl, hc, by simpa using hnd, fun b hb => .inl hb⟩
  | cons p us ih =>
    obtain ⟨i, u⟩ := p
    intro vs cells cs cs' F G h hc hnd hf
    cases h with
    | @cons _ x _ xs _ F1 G1 hu hl ht =>
      simp only [fillC] at hf
      split at hf
      · rename_i off n hpl
        split at hf
        · rename_i hcond
          have hcells := hu.cells hl
          have hsz : x.cells.size = n := by have := hcells.length; rw [hcond.1] at this; simpa using this
          have hlen := hc.length
          have hle : off + n ≤ cells.size := by have := hcond.2; rw [← hlen] at this; simpa using this
          obtain ⟨F2, hw, hnd2, hsub2⟩ := RepL.window hc hcells hcond.1 hcond.2
          have hfold := foldl_set off x.cells.toList 0 cells (by simp; omega)
          have hcat : (F2 ++ G1).Nodup := by
            rw [← List.append_assoc] at hnd
            obtain ⟨n1, n2, n3⟩ := List.nodup_append.mp hnd
            rw [List.nodup_append]
            refine ⟨hnd2 n1, n2, fun b hb c hc => ?_⟩
            rcases hsub2 b hb with h | h
            · exact n3 b (List.mem_append_left _ h) c hc
            · exact n3 b (List.mem_append_right _ h) c hc
          have hw2 : RepL ET w R ((x.cells.zipIdx.foldl (fun cs (c, j) => cs.setIfInBounds (off + j) c) cells)).toList (cs.take off ++ (cellsU u ++ cs.drop (off + n))) F2 := by
            have e : (x.cells.zipIdx.foldl (fun cs (c, j) => cs.setIfInBounds (off + j) c) cells).toList = cells.toList.take off ++ (x.cells.toList ++ cells.toList.drop (off + n)) := by
              rw [← Array.foldl_toList, Array.toList_zipIdx]
              rw [show off + 0 = off by rfl] at hfold
              rw [show off + x.cells.toList.length = off + n by simp [hsz]] at hfold
              exact hfold
            rw [e]; exact hw
          obtain ⟨cells', F', h1, h2, h3, h4⟩ := ih ht hw2 hcat hf
          refine ⟨cells', F', ?_, h2, h3, fun b hb => ?_⟩
          · simp only [Instr.fill, hpl]
            rw [if_neg (by simp [hsz]; omega)]
            exact h1
          · rcases h4 b hb with h | h
            · rcases hsub2 b h with h | h
              · exact .inl h
              · exact .inr (List.mem_append_left _ h)
            · exact .inr (List.mem_append_right _ h)
        · cases hf
      · cases hf
theorem s_build {t : TypeId} {parts : Array (Nat × Operand)} {us : List (Nat × U)} {pl : List (Nat × Nat)} {zs cs : List C} {σ' : St} (ho : o.op = .build t parts) (hb : BuildT P t pl) (hz : ZeroT P t zs) (hx : Srcs K σ parts.toList us σ') (hf : fillC (fun i : Nat => pl[i]?) zs us = some cs)
    (hd : o.dst = some d) (hn : okT K d = true) : Step P K σ o (put σ' d (.u (.agg cs))) := by
  rintro a w ⟨Fs, hs⟩
  obtain ⟨F, Fs', hp, hs', hF, _, _⟩ := hs.takes hx
  obtain ⟨fields, hu, hpl⟩ := hb
  obtain ⟨i, z, h1, h2, h3⟩ := hz
  obtain ⟨cells', F', h4, h5, h6, h7⟩ := fill_rep hp (h3 K.ET w K.R) (by simpa using hF.1) hf
  have hrun : (execOp a.eval o).run P w = .ok (.value (.agg cells')) w := by
    have e1 : (parts.map fun p => (p.1, a.eval p.2)).toList = parts.toList.map fun p => (p.1, a.eval p.2) := by simp
    have e2 : (fun i : Nat => pl.toArray[i]?) = fun i : Nat => pl[i]? := by funext i; simp
    simp only [execOp, ho, Instr.build, Sem.run_bind, run_zeroValue h1 h2, Result.andThen_ok, run_underlying hu]
    have := hpl w
    rw [this]
    simp only [Result.andThen_ok]
    rw [e2, show (Array.map (fun x => (x.fst, a.eval x.snd)) parts).toList = _ from e1, h4]
    rfl
  simp only [Oper.wp, hrun, Oper.upon_value, hd]
  refine ⟨_, hs'.put2 hn (Keeps.refl w _) (fun b hb => ?_) h6 (.u (.agg h5))⟩
  rcases h7 b hb with h | h
  · cases h
  · exact hF.2 b h
theorem chop_ok {sz : Nat} : ∀ (n : Nat) (cs : List C), cs.length = n * sz → (chop sz n cs).flatten = cs ∧ (chop sz n cs).length = n ∧ ∀ r ∈ chop sz n cs, r.length = sz := by
  intro n
  induction n with
  | zero => intro cs h; rw [Nat.zero_mul] at h; rw [List.eq_nil_of_length_eq_zero h]; simp [chop]
  | succ n ih =>
    intro cs h
    rw [Nat.add_mul, Nat.one_mul] at h
    obtain ⟨h1, h2, h3⟩ := ih (cs.drop sz) (by rw [List.length_drop]; omega)
    refine ⟨by simp only [chop, List.flatten_cons, h1, List.take_append_drop], by simp only [chop, List.length_cons, h2], ?_⟩
    intro r hr
    simp only [chop, List.mem_cons] at hr
    rcases hr with rfl | hr
    · rw [List.length_take]; omega
    · exact h3 r hr
theorem range_mod (z : Array Value) (n : Nat) : ((Array.range (n * z.size)).map fun i => z[i % z.size]!).toList = (List.replicate n z.toList).flatten := by
  rw [Array.toList_map, Array.toList_range]
  induction n with
  | zero => simp
  | succ n ih =>
    rw [show (n + 1) * z.size = z.size + n * z.size by rw [Nat.add_mul]; omega, List.range_add, List.map_append, List.replicate_succ, List.flatten_cons, ← ih]
    congr 1
    · apply List.ext_getElem
      · simp
      · intro i h1 h2
        simp only [List.length_map, List.length_range] at h1
        rw [List.getElem_map, List.getElem_range, Nat.mod_eq_of_lt h1]
        simp [h1]
    · rw [List.map_map]
      apply List.map_congr_left
      intro i _
      simp [Nat.add_mod_left]
theorem RepL.replicate {xs : List Value} {cs : List C} (h : RepL ET w R xs cs []) (n : Nat) : RepL ET w R (List.replicate n xs).flatten (List.replicate n cs).flatten [] := by
  induction n with
  | zero => exact .nil
  | succ n ih =>
    rw [List.replicate_succ, List.replicate_succ, List.flatten_cons, List.flatten_cons]
    have := h.append ih
    simpa using this
/-- A slice type, its elements' size and value 0. -/
def SliceZ (P : Program) (t sz bytes : Nat) (zs : List C) : Prop := ∃ e i z, P.underlying t = some (.slice e) ∧ P.info? e = some i ∧ i.size = sz ∧ i.bytes = bytes ∧ 0 < sz ∧ i.zero = some z ∧ z.cells.size = sz ∧ ∀ ET w R, RepL ET w R z.cells.toList zs []
theorem SliceZ.sl {t sz bytes : Nat} {zs : List C} (h : SliceZ P t sz bytes zs) : SliceT P t sz bytes := by
  obtain ⟨e, i, z, h1, h2, h3, h4, h5, _⟩ := h
  exact ⟨e, i, h1, h2, h3, h4, h5⟩
theorem s_buildSlice {t len sz bytes : Nat} {parts : Array (Nat × Operand)} {us : List (Nat × U)} {zs cs : List C} {σ' : St} (ho : o.op = .buildSlice t len parts) (hz : SliceZ P t sz bytes zs) (hx : Srcs K σ parts.toList us σ')
    (hf : fillC (fun i : Nat => some (i * sz, sz)) (List.replicate len zs).flatten us = some cs) (hlen : len * sz ≤ 16777216) (hd : o.dst = some d) (hn : okT K d = true) : Step P K σ o (put σ' d (.u (.c (.sl true sz (chop sz len cs))))) := by
  rintro a w ⟨Fs, hs⟩
  obtain ⟨F, Fs', hp, hs', hF, _, _⟩ := hs.takes hx
  obtain ⟨e, i, z, h1, h2, h3, _, h4, h5, h6, h7⟩ := hz
  have hzr := RepL.replicate (h7 K.ET w K.R) len
  have hrm : ((Array.range (len * sz)).map fun i => z.cells[i % z.cells.size]!).toList = (List.replicate len z.cells.toList).flatten := by
    have := range_mod z.cells len
    rw [h6] at this ⊢
    exact this
  obtain ⟨cells', F', k4, k5, k6, k7⟩ := fill_rep (cells := (Array.range (len * sz)).map fun i => z.cells[i % z.cells.size]!) hp (by rw [hrm]; exact hzr) (by simpa using hF.1) hf
  have hF' : Free K Fs' F' := ⟨k6, fun b hb => (k7 b hb).elim (fun h => by cases h) (hF.2 b)⟩
  obtain ⟨h8, h9⟩ := hs'.boxed (et := e) hF' k5
  have hcl : cs.length = len * sz := by
    have l1 := k5.length
    have l2 : ∀ (us : List (Nat × U)) (c c' : List C), fillC (fun i : Nat => some (i * sz, sz)) c us = some c' → c'.length = c.length := by
      intro us
      induction us with
      | nil => intro c c' h; simp only [fillC, Option.some.injEq] at h; rw [h]
      | cons p us ih =>
        intro c c' h
        simp only [fillC] at h
        split at h
        · rename_i hc
          rw [ih _ _ h]
          simp only [List.length_append, List.length_take, List.length_drop]
          omega
        · cases h
    rw [l2 _ _ _ hf]
    have : zs.length = sz := by rw [← (h7 K.ET w K.R).length, Array.length_toList, h6]
    simp [this]
  obtain ⟨c1, c2, c3⟩ := chop_ok len cs hcl
  have hsize : cells'.size = len * sz := by have := k5.length; rw [hcl] at this; simpa using this
  have hrun : (execOp a.eval o).run P w = .ok (.value (.slice (some ⟨w.heap.size, 0, none⟩) len len)) (w.alloc (.cells cells' e)) := by
    have e1 : (parts.map fun p => (p.1, a.eval p.2)).toList = parts.toList.map fun p => (p.1, a.eval p.2) := by simp
    have hsz : (sizeOf e).run P w = .ok sz w := by simp [sizeOf, typeInfo, h2, h3]
    simp only [execOp, ho, Instr.buildSlice, Sem.run_bind, Result.andThen_ok, run_underlying h1, hsz, if_neg (show ¬ len * sz > 2 ^ 24 by omega)]
    by_cases h0 : len * sz = 0
    · rw [if_pos h0]
      have e4 : ((Array.range (len * sz)).map fun x => (#[] : Array Value)[x % (#[] : Array Value).size]!) = (Array.range (len * sz)).map fun i => z.cells[i % z.cells.size]! := by simp [h0]
      simp only [Sem.run_bind, Sem.run_pure, Result.andThen_ok]
      rw [e4, show (Array.map (fun x => (x.fst, a.eval x.snd)) parts).toList = _ from e1, k4]
      simp [newRow, newObj, Sem.run, pure, Sem.run_bind]
    · rw [if_neg h0]
      simp only [Sem.run_bind, Sem.run_pure, Result.andThen_ok, run_zeroValue h2 h5]
      rw [show (Array.map (fun x => (x.fst, a.eval x.snd)) parts).toList = _ from e1, k4]
      simp [newRow, newObj, Sem.run, pure, Sem.run_bind]
  simp only [Oper.wp, hrun, Oper.upon_value, hd]
  refine ⟨_, hs'.put2 hn (Keeps.alloc w _) h9.2 h9.1 (.u (.c (.sl (F := F') (et := (_, (0, 0))) (alloc_new w _) c2 (Nat.le_refl _) h4 (by omega) c3 ?_ (.inl ⟨rfl, rfl⟩) (fun _ => rfl))))⟩
  have e5 : (cells'.toList.drop 0).take (len * sz) = cells'.toList := by rw [List.drop_zero, List.take_of_length_le]; simp [hsize]
  rw [c1, e5]
  exact h8
theorem wrap_i64 {e : Int} (h0 : -9223372036854775808 ≤ e) (h1 : e ≤ 9223372036854775807) : IntKind.i64.wrap e = e := by
  exact Go.IntWalk.i64_in e ⟨h0, h1⟩
end
end Go.Proofs.Ytfbjhioefkimbaa.V
