import Derived.Test.YtmjnenjeckeklaaA0
import Derived.Below
import Derived.KernelRfl
import Derived.Orders
import Derived.LoopN
import Derived.Deep.MidRow
import Derived.Tactics
import Derived.IntWalk
set_option linter.unusedVariables false
set_option linter.unusedSimpArgs false
namespace Go.Proofs.Ytmjnenjeckeklaa.V
open Go
theorem kr {α : Sort _} {a b : α} (h : a = b := by kernel_rfl) : a = b := h
structure Az where
  rep : World → Value → List Nat → Prop
  frame : ∀ {w w' : World} {v : Value} {F : List Nat}, rep w v F → (∀ b ∈ F, w'.heap[b]? = w.heap[b]?) → rep w' v F
  lt : ∀ {w : World} {v : Value} {F : List Nat}, rep w v F → ∀ b ∈ F, b < w.heap.size
  one : ∀ {w : World} {v : Value} {F : List Nat}, rep w v F → v.cells = #[v] ∧ v.oneCell' = true
  isp : Bool
  ptr : isp = true → ∀ {w : World} {v : Value} {F : List Nat}, rep w v F → ∃ b, v = .pointer (some ⟨b, 0, none⟩)
  dup : Bool := false
  dupl : dup = true → ∀ {w : World} {v : Value} {F : List Nat}, rep w v F → F = [] := by intro h; cases h
inductive C where
  | v (x : Value)
  | err (t : Option Int)
  | sl (own : Bool) (sz : Nat) (rows : List (List C))
  | pt (own : Bool) (cs : List C)
  | x (q : Az)
  | dead
  deriving Inhabited
def th (ET : TypeId) : Option Int → Value
  | none => .nilIface
  | some n => .iface ET (.int .i64 n)
def ot : Value → Bool
  | .bool _ | .int _ _ | .string _ | .nilIface | .nilFunc | .pointer none | .map _ | .iface _ (.int _ _) | .iface _ (.string _) | .slice none 0 0 => true
  | _ => false
def wD (R : Nat → Prop) (own : Bool) (b : Nat) (F F' : List Nat) : Prop := (own = true ∧ F' = b :: F) ∨ (own = false ∧ R b ∧ F = [] ∧ F' = [])
mutual
inductive iz (ET : TypeId) (w : World) (R : Nat → Prop) : Value → C → List Nat → Prop
  | v {x : Value} (h : ot x = true) : iz ET w R x (.v x) []
  | err (t : Option Int) : iz ET w R (th ET t) (.err t) []
  | nil (o : Bool) (sz : Nat) : iz ET w R (.slice none 0 0) (.sl o sz []) []
  | sl {b off len cap sz : Nat} {own : Bool} {arr : Array Value} {et : TypeId × Nat × Nat} {rows : List (List C)} {F F' : List Nat} (hb : w.heap[b]? = some (.cells arr et.1 et.2))
      (hlen : rows.length = len) (hcap : len ≤ cap) (hsz : 0 < sz) (hfit : off + cap * sz ≤ arr.size) (hrow : ∀ r ∈ rows, r.length = sz)
      (hrep : ig ET w R ((arr.toList.drop off).take (len * sz)) rows.flatten F) (ho : wD R own b F F') (hz : own = true → et.2 = (0, 0)) : iz ET w R (.slice (some ⟨b, off, none⟩) len cap) (.sl own sz rows) F'
  | pt {b : Nat} {own : Bool} {arr : Array Value} {et : TypeId} {cs : List C} {F F' : List Nat} (hb : w.heap[b]? = some (.cells arr et (0, 0)))
      (hrep : ig ET w R arr.toList cs F) (ho : wD R own b F F') : iz ET w R (.pointer (some ⟨b, 0, none⟩)) (.pt own cs) F'
  | x {v : Value} {q : Az} {F : List Nat} (h : q.rep w v F) : iz ET w R v (.x q) F
  | dead (x : Value) : iz ET w R x .dead []
inductive ig (ET : TypeId) (w : World) (R : Nat → Prop) : List Value → List C → List Nat → Prop
  | nil : ig ET w R [] [] []
  | cons {x : Value} {c : C} {xs : List Value} {cs : List C} {F G : List Nat} (h : iz ET w R x c F) (t : ig ET w R xs cs G) : ig ET w R (x :: xs) (c :: cs) (F ++ G)
end
section
variable {ET : TypeId} {w w' : World} {R : Nat → Prop}
theorem wD.mono {R' : Nat → Prop} {own : Bool} {b : Nat} {F F' : List Nat} (h : wD R own b F F') (hR : ∀ b, R b → R' b) : wD R' own b F F' := by
 rcases h with h | ⟨h1, h2, h3⟩
 · exact .inl h
 · exact .inr ⟨h1, hR _ h2, h3⟩
theorem wD.mem {own : Bool} {b : Nat} {F F' : List Nat} (h : wD R own b F F') : b ∈ F' ∨ R b := by
 rcases h with ⟨_, rfl⟩ | ⟨_, h, _⟩
 · exact .inl (aN ..)
 · exact .inr h
theorem wD.sub {own : Bool} {b : Nat} {F F' : List Nat} (h : wD R own b F F') : ∀ x ∈ F, x ∈ F' := by
 rcases h with ⟨_, rfl⟩ | ⟨_, _, rfl, rfl⟩
 · exact fun x hx => aU _ hx
 · exact fun x hx => hx
theorem iz.frame {R' : Nat → Prop} {x : Value} {c : C} {F : List Nat} (h : iz ET w R x c F) : (∀ b, R b → R' b) → (∀ b, (b ∈ F ∨ R b) → w'.heap[b]? = w.heap[b]?) → iz ET w' R' x c F := by
 refine iz.rec (motive_1 := fun x c F _ => (∀ b, R b → R' b) → (∀ b, (b ∈ F ∨ R b) → w'.heap[b]? = w.heap[b]?) → iz ET w' R' x c F) (motive_2 := fun xs cs F _ => (∀ b, R b → R' b) → (∀ b, (b ∈ F ∨ R b) → w'.heap[b]? = w.heap[b]?) → ig ET w' R' xs cs F)
   ?_ ?_ ?_ ?_ ?_ ?_ ?_ ?_ ?_ h
 · intro x h _ _; exact .v h
 · intro t _ _; exact .err t
 · intro o sz _ _; exact .nil o sz
 · intro b off len cap sz own arr et rows F F' hb hlen hcap hsz hfit hrow _ ho hz ih hR hw; exact .sl ((hw b ho.mem).trans hb) hlen hcap hsz hfit hrow (ih hR (fun k hk => hw k (hk.imp (ho.sub k) id))) (ho.mono hR) hz
 · intro b own arr et cs F F' hb _ ho ih hR hw; exact .pt ((hw b ho.mem).trans hb) (ih hR (fun k hk => hw k (hk.imp (ho.sub k) id))) (ho.mono hR)
 · intro v q F h _ hw; exact .x (q.frame h (fun b hb => hw b (.inl hb)))
 · intro x _ _; exact .dead x
 · intro _ _; exact .nil
 · intro x c xs cs F G _ _ ih1 ih2 hR hw; exact .cons (ih1 hR (fun k hk => hw k (hk.imp (fun h => an _ h) id))) (ih2 hR (fun k hk => hw k (hk.imp (fun h => ah _ h) id)))
theorem ig.frame {R' : Nat → Prop} {xs : List Value} {cs : List C} {F : List Nat} (h : ig ET w R xs cs F) : (∀ b, R b → R' b) → (∀ b, (b ∈ F ∨ R b) → w'.heap[b]? = w.heap[b]?) → ig ET w' R' xs cs F := by
 induction cs generalizing xs F with
 | nil => intro _ _; cases h; exact .nil
 | cons c cs ih =>
  intro hR hw
  cases h with
  | cons h t => exact .cons (h.frame hR (fun k hk => hw k (hk.imp (fun h => an _ h) id))) (ih t hR (fun k hk => hw k (hk.imp (fun h => ah _ h) id)))
theorem ig.length {xs : List Value} {cs : List C} {F : List Nat} (h : ig ET w R xs cs F) : xs.length = cs.length := by
 induction cs generalizing xs F with
 | nil => cases h; rfl
 | cons c cs ih => cases h with | cons h t => simp [ih t]
theorem ig.append {xs ys : List Value} {cs ds : List C} {F G : List Nat} (h : ig ET w R xs cs F) (k : ig ET w R ys ds G) : ig ET w R (xs ++ ys) (cs ++ ds) (F ++ G) := by
 induction cs generalizing xs F with
 | nil => cases h; simpa using k
 | cons c cs ih => cases h with | cons h t => rw [bS, bS, aW]; exact .cons h (ih t)
theorem ig.split {xs : List Value} {cs ds : List C} {F : List Nat} (h : ig ET w R xs (cs ++ ds) F) : ∃ ys zs F1 F2, xs = ys ++ zs ∧ F = F1 ++ F2 ∧ ig ET w R ys cs F1 ∧ ig ET w R zs ds F2 := by
 induction cs generalizing xs F with
 | nil => exact ⟨[], xs, [], F, rfl, rfl, .nil, h⟩
 | cons c cs ih =>
  cases h with
  | @cons x _ xs _ F G h t =>
   obtain ⟨ys, zs, F1, F2, rfl, rfl, h1, h2⟩ := ih t; exact ⟨x :: ys, zs, F ++ F1, F2, rfl, (aW ..).symm, .cons h h1, h2⟩
theorem ig.at_ {xs : List Value} {cs : List C} {F : List Nat} {j : Nat} {c : C} (h : ig ET w R xs cs F) (hj : cs[j]? = some c) :
    ∃ x F1 Fj F2, xs[j]? = some x ∧ F = F1 ++ (Fj ++ F2) ∧ iz ET w R x c Fj ∧
      (∀ (w' : World) (y : Value) (d : C) (Fd : List Nat), (∀ b, (b ∈ F1 ∨ b ∈ F2 ∨ R b) → w'.heap[b]? = w.heap[b]?) → iz ET w' R y d Fd → ig ET w' R (xs.set j y) (cs.set j d) (F1 ++ (Fd ++ F2))) := by
 induction cs generalizing xs F j with
 | nil => simp at hj
 | cons c0 cs ih =>
  cases h with
  | @cons x0 _ xs _ F0 G h t =>
   cases j with
   | zero =>
    simp only [bF, aC] at hj; subst hj; refine ⟨x0, [], F0, G, rfl, rfl, h, fun w' y d Fd hw hd => ?_⟩; rw [cn]; exact .cons hd (t.frame (fun _ h => h) (fun b hb => hw b (hb.elim (fun h => .inr (.inl h)) (fun h => .inr (.inr h)))))
   | succ j =>
    obtain ⟨x, F1, Fj, F2, hx, rfl, hc, hs⟩ := ih t (by simpa using hj); refine ⟨x, F0 ++ F1, Fj, F2, by simpa using hx, by simp, hc, fun w' y d Fd hw hd => ?_⟩; rw [List.set_cons_succ, List.set_cons_succ, aW]; exact .cons (h.frame (fun _ h => h) (fun b hb => hw b (hb.elim (fun h => .inl (an _ h)) (fun h => .inr (.inr h))))) (hs w' y d Fd (fun b hb => hw b (hb.elim (fun h => .inl (ah _ h)) (fun h => .inr h))) hd)
inductive kG where
  | d
  | i (k sz : Nat)
  deriving DecidableEq
def su : Value → kG → Option (Nat × Nat)
  | .pointer (some ⟨b, o, none⟩), .d => some (b, o)
  | .slice (some ⟨b, o, none⟩) _ _, .i k sz => some (b, o + k * sz)
  | _, _ => none
def walk (w : World) (v : Value) (s : kG) : List (Nat × kG) → Option (Nat × Nat)
  | [] => su v s
  | (j, s') :: p => (su v s).bind fun q => (w.cell? ⟨q.1, q.2 + j, none⟩).bind fun v' => walk w v' s' p
def qj : C → kG → Option (List C)
  | .pt _ cs, .d => some cs
  | .sl _ sz rows, .i k sz' => if sz' = sz then rows[k]? else none
  | _, _ => none
def nx (c : C) (s : kG) : List (Nat × kG) → Option (List C)
  | [] => qj c s
  | (j, s') :: p => (qj c s).bind fun cs => (cs[j]?).bind fun c' => nx c' s' p
def E6 : C → kG → List C → C
  | .pt o _, .d, cs => .pt o cs
  | .sl o sz rows, .i k _, cs => .sl o sz (rows.set k cs)
  | c, _, _ => c
def B0 : C → Bool
  | .pt o _ | .sl o _ _ => o
  | _ => false
def oE (c : C) (s : kG) : List (Nat × kG) → List C → C
  | [], new => E6 c s new
  | (j, s') :: p, new =>
    match qj c s with
    | some cs => match cs[j]? with
      | some c' => E6 c s (cs.set j (oE c' s' p new))
      | none => c
    | none => c
def uq (c : C) (s : kG) : List (Nat × kG) → Bool
  | [] => B0 c
  | (j, s') :: p => B0 c && match qj c s with
    | some cs => match cs[j]? with
      | some c' => uq c' s' p
      | none => false
    | none => false
theorem FT {α : Type} {sz : Nat} {rows : List (List α)} (hrow : ∀ r ∈ rows, r.length = sz) {k : Nat} {cs : List α} (hk : rows[k]? = some cs) :
    rows.flatten = (rows.take k).flatten ++ (cs ++ (rows.drop (k + 1)).flatten) ∧ (rows.take k).flatten.length = k * sz ∧ (rows.drop (k + 1)).flatten.length = (rows.length - (k + 1)) * sz := by
 have hk2 : k < rows.length := by
  rcases b5 k rows.length with h | h
  · exact h
  · rw [bH h] at hk; cases hk
 have hsum : ∀ l : List (List α), (∀ r ∈ l, r.length = sz) → l.flatten.length = l.length * sz := by
  intro l hl
  induction l with
  | nil => simp
  | cons r l ih =>
   rw [cv, aI, ih (fun r hr => hl r (aU _ hr)), hl r (aN ..), bC, bQ, ei, fo]
 refine ⟨?_, ?_, ?_⟩
 · have : rows = rows.take k ++ cs :: rows.drop (k + 1) := by
    rw [br] at hk; obtain ⟨h1, h2⟩ := hk; rw [← h2, fG, bl]
   conv => lhs; rw [this]
   simp
 · rw [hsum _ (fun r hr => hrow r (dZ hr)), az, cj (Nat.le_of_lt hk2)]
 · rw [hsum _ (fun r hr => hrow r (eU hr)), aQ]
theorem lH {α : Type} {sz : Nat} {l : List (List α)} (hl : ∀ r ∈ l, r.length = sz) : l.flatten.length = l.length * sz := by
 induction l with
 | nil => simp
 | cons r l ih => rw [cv, aI, ih (fun r hr => hl r (aU _ hr)), hl r (aN ..), bC, bQ, ei, fo]
end
end Go.Proofs.Ytmjnenjeckeklaa.V
namespace Go.Proofs.Ytmjnenjeckeklaa.V
open Go
section
variable {ET : TypeId} {w w' : World} {R : Nat → Prop}
theorem win {α : Type} {l a x b : List α} {off n : Nat} (h : (l.drop off).take n = a ++ (x ++ b)) (hn : off + n ≤ l.length) :
    (l.drop (off + a.length)).take x.length = x ∧ off + a.length + x.length ≤ l.length ∧ ∀ y : List α, y.length = x.length → ((l.take (off + a.length) ++ (y ++ l.drop (off + a.length + x.length))).drop off).take n = a ++ (y ++ b) := by
 have hlen : n = a.length + (x.length + b.length) := by
  have := bN List.length h; rw [az, aQ, aI, aI] at this; omega
 have hl : l = l.take off ++ ((a ++ (x ++ b)) ++ l.drop (off + n)) := by
  rw [← h, ← cG, bl, bl]
 generalize hP : l.take off = P at hl; generalize hS : l.drop (off + n) = S at hl; have hPl : P.length = off := by rw [← hP, az]; omega
 subst hl; subst hPl
 have e1 : (P ++ (a ++ (x ++ b) ++ S)).take (P.length + a.length) = P ++ a := by
  rw [show P ++ (a ++ (x ++ b) ++ S) = (P ++ a) ++ (x ++ (b ++ S)) by simp, ← aI, cr]
 have e2 : (P ++ (a ++ (x ++ b) ++ S)).drop (P.length + a.length + x.length) = b ++ S := by
  rw [show P ++ (a ++ (x ++ b) ++ S) = (P ++ (a ++ x)) ++ (b ++ S) by simp, show P.length + a.length + x.length = (P ++ (a ++ x)).length by simp; omega, cR]
 have e3 : (P ++ (a ++ (x ++ b) ++ S)).drop (P.length + a.length) = x ++ (b ++ S) := by
  rw [show P ++ (a ++ (x ++ b) ++ S) = (P ++ a) ++ (x ++ (b ++ S)) by simp, ← aI, cR]
 refine ⟨by rw [e3, cr], by simp; omega, fun y hy => ?_⟩; rw [e1, e2, aW, cR, hlen, show a ++ (y ++ (b ++ S)) = (a ++ (y ++ b)) ++ S by simp, show a.length + (x.length + b.length) = (a ++ (y ++ b)).length by simp; omega, cr]
theorem iz.DY {v : Value} {c : C} {F : List Nat} {s : kG} {cs : List C} (h : iz ET w R v c F) (hs : qj c s = some cs) :
    ∃ b o arr, ∃ et : TypeId × Nat × Nat, ∃ Fo Fi, su v s = some (b, o) ∧ w.heap[b]? = some (.cells arr et.1 et.2) ∧ o + cs.length ≤ arr.size ∧ ig ET w R ((arr.toList.drop o).take cs.length) cs Fi ∧
      ((B0 c = true ∧ F.Perm (Fo ++ Fi) ∧ b ∈ Fo) ∨ (B0 c = false ∧ R b ∧ F = [] ∧ Fi = [])) ∧ (B0 c = true → et.2 = (0, 0)) ∧
      (B0 c = true → F.Nodup → ∀ (w' : World) (arr' : Array Value) (ys : List Value) (ds : List C) (Fd : List Nat), ds.length = cs.length → w'.heap[b]? = some (.cells arr' et.1 (0, 0)) →
        arr'.toList = arr.toList.take o ++ (ys ++ arr.toList.drop (o + cs.length)) → (∀ b' ∈ Fo, b' ≠ b → w'.heap[b']? = w.heap[b']?) → (∀ b', R b' → w'.heap[b']? = w.heap[b']?) → ig ET w' R ys ds Fd →
        ∃ F2, iz ET w' R v (E6 c s ds) F2 ∧ F2.Perm (Fo ++ Fd)) := by
 cases h with
 | v h => cases s <;> simp [qj] at hs
 | err t => cases s <;> simp [qj] at hs
 | dead x => cases s <;> simp [qj] at hs
 | x h => cases s <;> simp [qj] at hs
 | nil o sz => cases s <;> simp [qj] at hs
 | @pt b own arr et cs0 F1 F' hb hrep ho =>
  cases s with
  | i k sz => simp [qj] at hs
  | d =>
   simp only [qj, aC] at hs; subst hs; have hl := hrep.length; have hwin : (arr.toList.drop 0).take cs0.length = arr.toList := by rw [cl, ← hl]; exact dn ..
   refine ⟨b, 0, arr, (et, 0, 0), [b], F1, rfl, hb, by rw [aG, ← hl]; simp, by rw [hwin]; exact hrep, ?_, fun _ => rfl, ?_⟩
   · rcases ho with ⟨h1, rfl⟩ | ⟨h1, h2, rfl, rfl⟩
     · exact .inl ⟨h1, e8 _, aE.mpr rfl⟩
     · exact .inr ⟨h1, h2, rfl, rfl⟩
   · intro hown _ w' arr' ys ds Fd hds hb' harr hfo hR hys; have hown' : own = true := hown; refine ⟨b :: Fd, .pt hb' ?_ (.inl ⟨hown', rfl⟩), e8 _⟩; rw [harr, List.take_zero, cn, aG, ← hl, List.drop_length, bA]; exact hys
 | @sl b off len cap sz own arr et rows F1 F' hb hlen hcap hsz hfit hrow hrep ho Q6 =>
  cases s with
  | d => simp [qj] at hs
  | i k sz' =>
   simp only [qj] at hs; by_cases hz : sz' = sz
   · rw [aj hz] at hs; subst hz; obtain ⟨hfl, hA, hB⟩ := FT hrow hs; have hcs : cs.length = sz' := hrow _ (cu hs); rw [hfl] at hrep; obtain ⟨ya, zs, FA, FZ, e1, rfl, hya, hzs⟩ := hrep.split; obtain ⟨yx, yb, Fi, FB, rfl, rfl, hyx, hyb⟩ := hzs.split
     have hlt : off + len * sz' ≤ arr.toList.length := by
      have := bg sz' hcap; simp; omega
     obtain ⟨w1, w2, w3⟩ := win e1 hlt; have la : ya.length = k * sz' := by rw [hya.length, hA]
     have lx : yx.length = cs.length := hyx.length; rw [la, lx] at w1 w2; refine ⟨b, off + k * sz', arr, et, b :: (FA ++ FB), Fi, rfl, hb, by simpa using w2, by rw [w1]; exact hyx, ?_, Q6, ?_⟩
     · rcases ho with ⟨h1, rfl⟩ | ⟨h1, h2, h3, rfl⟩
       · refine .inl ⟨h1, ?_, aN ..⟩; rw [bS]; refine List.Perm.cons _ ?_; rw [aW]; exact bT _ cT
       · obtain ⟨_, h4⟩ := cO.mp h3; exact .inr ⟨h1, h2, rfl, (cO.mp h4).1⟩
     · intro hown hnd w' arr' ys ds Fd hds hb' harr hfo hR hys; have hown' : own = true := hown; rcases ho with ⟨h1, rfl⟩ | ⟨h1, _⟩
       case inr => rw [hown'] at h1; cases h1
       have hnb : ∀ b' ∈ FA ++ FB, b' ≠ b := by
        intro b' wR e; rw [bh] at hnd; apply hnd.1; rw [← e]; rcases aT.mp wR with h | h
        · exact an _ h
        · exact ah _ (ah _ h)
       have TZ : arr'.size = arr.size := by
        have := bN List.length harr; rw [bU, aI, aI, az, aQ, hys.length, hds] at this; simp at this w2; omega
       refine ⟨b :: (FA ++ (Fd ++ FB)), .sl (rows := rows.set k ds) (et := (et.1, (0, 0))) hb' (by rw [bV]; exact hlen) hcap hsz (by rw [TZ]; exact hfit) ?_ ?_ (.inl ⟨hown', rfl⟩) (fun _ => rfl), ?_⟩
       · intro r hr; rcases List.mem_or_eq_of_mem_set hr with h | h
         · exact hrow r h
         · rw [h, hds, hcs]
       · have hk2 : k < rows.length := by
          rcases b5 k rows.length with h | h
          · exact h
          · rw [bH h] at hs; cases hs
         have e2 : (rows.set k ds).flatten = (rows.take k).flatten ++ (ds ++ (rows.drop (k + 1)).flatten) := by
          rw [eE, aj hk2]; simp
         have e3 : (arr'.toList.drop off).take (len * sz') = ya ++ (ys ++ yb) := by
          rw [harr]; have := w3 ys (by rw [hys.length, hds, lx]); rw [la, lx] at this; exact this
         rw [e2, e3]; refine (hya.frame (fun _ h => h) ?_).append (hys.append (hyb.frame (fun _ h => h) ?_))
         · intro b' wR; rcases wR with h | h
           · exact hfo b' (aU _ (an _ h)) (hnb b' (an _ h))
           · exact hR b' h
         · intro b' wR; rcases wR with h | h
           · exact hfo b' (aU _ (ah _ h)) (hnb b' (ah _ h))
           · exact hR b' h
       · rw [bS]; refine List.Perm.cons _ ?_; rw [aW]; exact bT _ cT
   · rw [ag hz] at hs; cases hs
theorem iz.read : ∀ (p : List (Nat × kG)) {v : Value} {c : C} {F : List Nat} {s : kG} {cs : List C}, iz ET w R v c F → nx c s p = some cs →
    ∃ b o arr, ∃ et : TypeId × Nat × Nat, ∃ Fi, walk w v s p = some (b, o) ∧ w.heap[b]? = some (.cells arr et.1 et.2) ∧ o + cs.length ≤ arr.size ∧ ig ET w R ((arr.toList.drop o).take cs.length) cs Fi ∧ (∀ x ∈ Fi, x ∈ F) ∧ (b ∈ F ∨ R b) := by
 intro p
 induction p with
 | nil =>
  intro v c F s cs h hg; obtain ⟨b, o, arr, et, Fo, Fi, h1, h2, h3, h4, h5, _⟩ := h.DY hg; refine ⟨b, o, arr, et, Fi, h1, h2, h3, h4, ?_, ?_⟩
  · intro x hx; rcases h5 with ⟨_, hp, _⟩ | ⟨_, _, _, rfl⟩
    · exact hp.mem_iff.mpr (ah _ hx)
    · cases hx
  · rcases h5 with ⟨_, hp, hb⟩ | ⟨_, hr, _⟩
    · exact .inl (hp.mem_iff.mpr (an _ hb))
    · exact .inr hr
 | cons q p ih =>
  obtain ⟨j, s'⟩ := q; intro v c F s cs h hg; simp only [nx, aJ] at hg; obtain ⟨cs0, hs0, c', hc', hg'⟩ := hg; obtain ⟨b, o, arr, et, Fo, Fi, h1, h2, h3, h4, h5, _⟩ := h.DY hs0; obtain ⟨x, F1, Fj, F2, hx, hFi, hrx, _⟩ := h4.at_ hc'; obtain ⟨b2, o2, vI, MZ, YR, k1, k2, k3, k4, k5, k6⟩ := ih hrx hg'
  have hsub : ∀ y ∈ Fj, y ∈ F := by
   intro y hy; have hy2 : y ∈ Fi := by rw [hFi]; exact ah _ (an _ hy)
   rcases h5 with ⟨_, hp, _⟩ | ⟨_, _, _, e⟩
   · exact hp.mem_iff.mpr (ah _ hy2)
   · rw [e] at hy2; cases hy2
  refine ⟨b2, o2, vI, MZ, YR, ?_, k2, k3, k4, fun y hy => hsub y (k5 y hy), k6.imp (hsub _) id⟩
  have hj : j < cs0.length := by
   rcases b5 j cs0.length with h | h
   · exact h
   · rw [bH h] at hc'; cases hc'
  have hcell : w.cell? ⟨b, o + j, none⟩ = some x := by
   simp only [World.cell?, h2]; rw [cL hj, bL] at hx; simpa using hx
  simp only [walk, h1, aq, hcell]; exact k1
theorem iz.lens : ∀ (p : List (Nat × kG)) {v : Value} {c : C} {F : List Nat} {s : kG} {cs : List C}, iz ET w R v c F → F.Nodup → nx c s p = some cs → uq c s p = true →
    ∃ b o arr et Fo Fi, walk w v s p = some (b, o) ∧ w.heap[b]? = some (.cells arr et (0, 0)) ∧ o + cs.length ≤ arr.size ∧ ig ET w R ((arr.toList.drop o).take cs.length) cs Fi ∧ F.Perm (Fo ++ Fi) ∧ b ∈ Fo ∧
      (∀ (w' : World) (arr' : Array Value) (ys : List Value) (ds : List C) (Fd : List Nat), ds.length = cs.length → w'.heap[b]? = some (.cells arr' et (0, 0)) →
        arr'.toList = arr.toList.take o ++ (ys ++ arr.toList.drop (o + cs.length)) → (∀ b' ∈ Fo, b' ≠ b → w'.heap[b']? = w.heap[b']?) → (∀ b', R b' → w'.heap[b']? = w.heap[b']?) → ig ET w' R ys ds Fd →
        ∃ F2, iz ET w' R v (oE c s p ds) F2 ∧ F2.Perm (Fo ++ Fd)) := by
 intro p
 induction p with
 | nil =>
  intro v c F s cs h hnd hg ho; obtain ⟨b, o, arr, et, Fo, Fi, h1, h2, h3, h4, h5, hz, h6⟩ := h.DY hg; have ho' : B0 c = true := ho; rw [hz ho'] at h2; rcases h5 with ⟨_, hp, hb⟩ | ⟨h, _⟩
  · exact ⟨b, o, arr, et.1, Fo, Fi, h1, h2, h3, h4, hp, hb, h6 ho' hnd⟩
  · rw [ho'] at h; cases h
 | cons q p ih =>
  obtain ⟨j, s'⟩ := q; intro v c F s cs h hnd hg ho; simp only [nx, aJ] at hg; obtain ⟨cs0, hs0, c', hc', hg'⟩ := hg; simp only [uq, hs0, hc', ai] at ho; obtain ⟨I8, AZ⟩ := ho; obtain ⟨b, o, arr, et, Fo, Fi, h1, h2, h3, h4, h5, hz, h6⟩ := h.DY hs0; rw [hz I8] at h2; rcases h5 with ⟨_, hp, hb⟩ | ⟨h, _⟩
  case inr => rw [I8] at h; cases h
  have hup := h6 I8 hnd; obtain ⟨x, F1, Fj, F2, hx, rfl, hrx, hset⟩ := h4.at_ hc'; have ql : (Fo ++ (F1 ++ (Fj ++ F2))).Nodup := hp.nodup_iff.mp hnd; have hndj : Fj.Nodup := ((ax.mp (ax.mp (ax.mp ql).2.1).2.1)).1; obtain ⟨b2, o2, vI, MZ, Fo2, YR, k1, k2, k3, k4, k5, k6, k7⟩ := ih hrx hndj hg' AZ
  have hj : j < cs0.length := by
   rcases b5 j cs0.length with h | h
   · exact h
   · rw [bH h] at hc'; cases hc'
  have hcell : w.cell? ⟨b, o + j, none⟩ = some x := by
   simp only [World.cell?, h2]; rw [cL hj, bL] at hx; simpa using hx
  have hin : b2 ∈ Fj := k5.mem_iff.mpr (an _ k6)
  have hbb : b ≠ b2 := by
   rintro rfl; exact (ax.mp ql).2.2 b hb b (ah _ (an _ hin)) rfl
  have hdis : ∀ y ∈ Fj, ∀ z, z ∈ Fo ∨ z ∈ F1 ∨ z ∈ F2 → z ≠ y := by
   intro y hy z hz e; subst e; obtain ⟨_, n2, n3⟩ := ax.mp ql; obtain ⟨_, n4, n5⟩ := ax.mp n2; obtain ⟨_, _, n6⟩ := ax.mp n4; rcases hz with h | h | h
   · exact n3 z h z (ah _ (an _ hy)) rfl
   · exact n5 z h z (an _ hy) rfl
   · exact n6 z hy z h rfl
  refine ⟨b2, o2, vI, MZ, Fo ++ (F1 ++ (Fo2 ++ F2)), YR, ?_, k2, k3, k4, ?_, ah _ (ah _ (an _ k6)), ?_⟩
  · simp only [walk, h1, aq, hcell]; exact k1
  · refine hp.trans ?_; rw [aW]; refine bT _ ?_; rw [aW]; refine bT _ ?_; rw [aW]; refine (fH F2 k5).trans ?_; rw [aW]; exact bT _ cT
  · intro w' arr' ys ds Fd hds hb' harr hfo hR hys; obtain ⟨F3, hc3, hp3⟩ := k7 w' arr' ys ds Fd hds hb' harr (fun b' h1 h2 => hfo b' (ah _ (ah _ (an _ h1))) h2) hR hys
    have hout : ∀ z, z ∈ Fo ∨ z ∈ F1 ∨ z ∈ F2 → w'.heap[z]? = w.heap[z]? := by
     intro z hz; refine hfo z ?_ (hdis b2 hin z hz); rcases hz with h | h | h
     · exact an _ h
     · exact ah _ (an _ h)
     · exact ah _ (ah _ (ah _ h))
    have hrow := hset w' x (oE c' s' p ds) F3 (fun z hz => hz.elim (fun h => hout z (.inr (.inl h))) (fun h => h.elim (fun h => hout z (.inr (.inr h))) (fun h => hR z h))) hc3
    have hxs : ((arr.toList.drop o).take cs0.length).set j x = (arr.toList.drop o).take cs0.length := by
     rw [br] at hx; obtain ⟨hx1, hx2⟩ := hx; rw [← hx2]; exact fL _
    rw [hxs] at hrow
    have Kp : arr.toList = arr.toList.take o ++ ((arr.toList.drop o).take cs0.length ++ arr.toList.drop (o + cs0.length)) := by
     rw [← cG, bl, bl]
    obtain ⟨F4, Ym, Yn⟩ := hup w' arr _ (cs0.set j (oE c' s' p ds)) _ (by rw [bV]) ((hout b (.inl hb)).trans h2) Kp (fun z hz _ => hout z (.inl hz)) hR hrow; refine ⟨F4, ?_, Yn.trans ?_⟩
    · simp only [oE, hs0, hc']; exact Ym
    · rw [aW]; refine bT _ ?_; rw [aW]; refine bT _ ?_; refine (fH F2 hp3).trans ?_; rw [aW, aW]; exact bT _ cT
end
end Go.Proofs.Ytmjnenjeckeklaa.V
namespace Go.Proofs.Ytmjnenjeckeklaa.V
open Go Go.RowKit
inductive U where
  | c (x : C)
  | agg (cs : List C)
  | fn (f : FuncId) (caps : List C)
  deriving Inhabited
inductive MW where
  | ref (r : Nat)
  | val (x : C)
inductive T where
  | junk
  | u (x : U)
  | tup (xs : List U)
  | addr (r : Nat) (s : kG) (p : List (Nat × kG)) (off : Nat)
  | view (r : Nat) (pl : Option (kG × List (Nat × kG) × Nat)) (sz lo n : Nat)
  | whole (r : Nat) (pl : Option (kG × List (Nat × kG) × Nat)) (sz n : Nat)
  | fn (f : FuncId) (caps : List MW)
instance : Inhabited T := ⟨.junk⟩
inductive kY (ET : TypeId) (w : World) (R : Nat → Prop) : Value → U → List Nat → Prop
  | c {x : Value} {c : C} {F : List Nat} (h : iz ET w R x c F) : kY ET w R x (.c c) F
  | agg {arr : Array Value} {cs : List C} {F : List Nat} (h : ig ET w R arr.toList cs F) : kY ET w R (.agg arr) (.agg cs) F
  | fn {f : FuncId} {arr : Array Value} {cs : List C} (h : ig ET w R arr.toList cs []) : kY ET w R (.func (.func f) #[] arr) (.fn f cs) []
inductive ke (ET : TypeId) (w : World) (R : Nat → Prop) : List Value → List U → List Nat → Prop
  | nil : ke ET w R [] [] []
  | cons {x : Value} {u : U} {xs : List Value} {us : List U} {F G : List Nat} (h : kY ET w R x u F) (t : ke ET w R xs us G) : ke ET w R (x :: xs) (u :: us) (F ++ G)
def AW (sz : Nat) (sv : Value) (lo n : Nat) (v : Value) : Prop :=
  (sv = .slice none 0 0 ∧ v = .slice none 0 0 ∧ lo = 0 ∧ n = 0) ∨
  ∃ b o L cap, sv = .slice (some ⟨b, o, none⟩) L cap ∧ L ≤ cap ∧ lo + n ≤ L ∧
    ((v = .slice (some ⟨b, o + lo * sz, none⟩) n (cap - lo)) ∨ (n = 0 ∧ lo = cap ∧ ∃ o', o' ≤ o + lo * sz ∧ v = .slice (some ⟨b, o', none⟩) 0 0))
def nI (w : World) (tmps : Array Value) (r : Nat) : Option (kG × List (Nat × kG) × Nat) → Option Value
  | none => some (tmps.getD r undef)
  | some (s, p, off) => (walk w (tmps.getD r undef) s p).bind fun q => w.cell? ⟨q.1, q.2 + off, none⟩
inductive kI (ET : TypeId) (w : World) (R : Nat → Prop) (tmps : Array Value) : Value → T → List Nat → Prop
  | junk (v : Value) : kI ET w R tmps v .junk []
  | u {v : Value} {x : U} {F : List Nat} (h : kY ET w R v x F) : kI ET w R tmps v (.u x) F
  | tup {arr : Array Value} {us : List U} {F : List Nat} (h : ke ET w R arr.toList us F) : kI ET w R tmps (.tuple arr) (.tup us) F
  | addr {r off b o : Nat} {s : kG} {p : List (Nat × kG)} (h : walk w (tmps.getD r undef) s p = some (b, o)) : kI ET w R tmps (.pointer (some ⟨b, o + off, none⟩)) (.addr r s p off) []
  | view {r sz lo n : Nat} {pl : Option (kG × List (Nat × kG) × Nat)} {sv v : Value} (h : nI w tmps r pl = some sv) (hs : AW sz sv lo n v) : kI ET w R tmps v (.view r pl sz lo n) []
  | whole {r sz n : Nat} {pl : Option (kG × List (Nat × kG) × Nat)} {v : Value} (h : nI w tmps r pl = some v) (hs : AW sz v 0 n v) : kI ET w R tmps v (.whole r pl sz n) []
  | fn {f : FuncId} {caps : List MW} {arr : Array Value} (hl : arr.size = caps.length)
      (h : ∀ (i : Nat) (c : MW), caps[i]? = some c → ∃ v, arr[i]? = some v ∧ match c with | .ref r => v = tmps.getD r undef | .val x => iz ET w R v x []) : kI ET w R tmps (.func (.func f) #[] arr) (.fn f caps) []
abbrev St := Nat → T
def St.of (l : List (Nat × T)) : St := fun i => (l.lookup i).getD .junk
def over (σ : St) (A : List (Nat × T)) : St := fun i => (A.lookup i).getD (σ i)
structure Ctx where
  ET : TypeId
  w0 : World
  R : Nat → Prop
  E : List Nat
  n : Nat
  pins : List Nat
  vs : Nat → Value
def mX (K : Ctx) (d : Nat) : Bool := Nat.blt d K.n && !K.pins.contains d
structure iB (w : World) (E : List Nat) (w' : World) : Prop where
  os : w'.os = w.os
  tape : w'.tape = w.tape
  output : w'.output = w.output
  size : w.heap.size ≤ w'.heap.size
  block : ∀ b, b < w.heap.size → b ∉ E → w'.heap[b]? = w.heap[b]?
theorem iB.refl (w : World) (E : List Nat) : iB w E w := ⟨rfl, rfl, rfl, aM _, fun _ _ _ => rfl⟩
theorem iB.trans {w w1 w2 : World} {E E1 : List Nat} (h : iB w E w1) (k : iB w1 E1 w2) (hE : ∀ b ∈ E1, b ∈ E ∨ w.heap.size ≤ b) : iB w E w2 := by
 refine ⟨k.os.trans h.os, k.tape.trans h.tape, k.output.trans h.output, bR h.size k.size, fun b hb hn => ?_⟩; refine (k.block b (bp hb h.size) (fun hm => ?_)).trans (h.block b hb hn); rcases hE b hm with h | h
 · exact hn h
 · omega
theorem iB.lF {w w' : World} (h : Below w.heap.size w w') (E : List Nat) : iB w E w' := ⟨h.os, h.tape, h.output, h.size, fun b hb _ => h.block b hb⟩
theorem iB.below {w w' : World} (h : iB w [] w') : Below w.heap.size w w' := ⟨h.os, h.tape, h.output, h.size, fun b hb => h.block b hb (by simp)⟩
structure jP (K : Ctx) (σ : St) (a : Act) (w : World) (Fs : Nat → List Nat) : Prop where
  rep : ∀ i, kI K.ET w K.R a.tmps (a.tmps.getD i undef) (σ i) (Fs i)
  nd : ∀ i, (Fs i).Nodup
  dis : ∀ i j b, b ∈ Fs i → b ∈ Fs j → i = j
  own : ∀ i b, b ∈ Fs i → ¬ K.R b ∧ (b ∈ K.E ∨ K.w0.heap.size ≤ b)
  keeps : iB K.w0 K.E w
  ro : ∀ b, K.R b → b < K.w0.heap.size ∧ b ∉ K.E
  size : a.tmps.size = K.n
  pin : ∀ i, K.pins.contains i = true → a.tmps.getD i undef = K.vs i
  defers : a.defers = []
def rC (K : Ctx) (σ : St) (a : Act) (w : World) : Prop := ∃ Fs, jP K σ a w Fs
section
variable {ET : TypeId} {w w' : World} {R : Nat → Prop} {K : Ctx}
theorem kD {w : World} {b : Nat} {o : Obj} (h : w.heap[b]? = some o) : b < w.heap.size := by
 rcases b5 b w.heap.size with h' | h'
 · exact h'
 · rw [dx h'] at h; cases h
theorem pX {w w' : World} {ad : Addr} (h : w'.heap[ad.block]? = w.heap[ad.block]?) : w'.cell? ad = w.cell? ad := by unfold World.cell?; rw [h]
theorem yj {w : World} {ad : Addr} {v : Value} (h : w.cell? ad = some v) : ad.block < w.heap.size := by
 unfold World.cell? at h; split at h
 · rename_i hb; exact kD hb
 · cases h
theorem iz.lt {x : Value} {c : C} {F : List Nat} (h : iz ET w R x c F) : ∀ b ∈ F, b < w.heap.size := by
 refine iz.rec (motive_1 := fun x c F _ => ∀ b ∈ F, b < w.heap.size) (motive_2 := fun xs cs F _ => ∀ b ∈ F, b < w.heap.size) ?_ ?_ ?_ ?_ ?_ ?_ ?_ ?_ ?_ h
 · intro x h b hb; cases hb
 · intro t b hb; cases hb
 · intro o sz b hb; cases hb
 · intro b off len cap sz own arr et rows F F' hb hlen hcap hsz hfit hrow _ ho hz ih x hx; rcases ho with ⟨_, rfl⟩ | ⟨_, _, _, rfl⟩
   · rcases bx.mp hx with rfl | h
     · exact kD hb
     · exact ih x h
   · cases hx
 · intro b own arr et cs F F' hb _ ho ih x hx; rcases ho with ⟨_, rfl⟩ | ⟨_, _, _, rfl⟩
   · rcases bx.mp hx with rfl | h
     · exact kD hb
     · exact ih x h
   · cases hx
 · intro v q F h; exact q.lt h
 · intro x b hb; cases hb
 · intro b hb; cases hb
 · intro x c xs cs F G _ _ ih1 ih2 b hb; rcases aT.mp hb with h | h
   · exact ih1 b h
   · exact ih2 b h
theorem ig.lt {xs : List Value} {cs : List C} {F : List Nat} (h : ig ET w R xs cs F) : ∀ b ∈ F, b < w.heap.size := by
 induction cs generalizing xs F with
 | nil => cases h; simp
 | cons c cs ih =>
  cases h with
  | cons h t =>
   intro b hb; rcases aT.mp hb with h1 | h1
   · exact h.lt b h1
   · exact ih t b h1
theorem kY.lt {x : Value} {u : U} {F : List Nat} (h : kY ET w R x u F) : ∀ b ∈ F, b < w.heap.size := by
 cases h with
 | c h => exact h.lt
 | agg h => exact h.lt
 | fn h => simp
theorem ke.lt {xs : List Value} {us : List U} {F : List Nat} (h : ke ET w R xs us F) : ∀ b ∈ F, b < w.heap.size := by
 induction us generalizing xs F with
 | nil => cases h; simp
 | cons c cs ih =>
  cases h with
  | cons h t =>
   intro b hb; rcases aT.mp hb with h1 | h1
   · exact h.lt b h1
   · exact ih t b h1
theorem kI.lt {tmps : Array Value} {x : Value} {t : T} {F : List Nat} (h : kI ET w R tmps x t F) : ∀ b ∈ F, b < w.heap.size := by
 cases h with
 | u h => exact h.lt
 | tup h => exact h.lt
 | _ => simp
theorem kY.frame {x : Value} {u : U} {F : List Nat} {R' : Nat → Prop} (h : kY ET w R x u F) (hR : ∀ b, R b → R' b) (hw : ∀ b, (b ∈ F ∨ R b) → w'.heap[b]? = w.heap[b]?) : kY ET w' R' x u F := by
 cases h with
 | c h => exact .c (h.frame hR hw)
 | agg h => exact .agg (h.frame hR hw)
 | fn h => exact .fn (h.frame hR hw)
theorem ke.frame {xs : List Value} {us : List U} {F : List Nat} {R' : Nat → Prop} (h : ke ET w R xs us F) (hR : ∀ b, R b → R' b) (hw : ∀ b, (b ∈ F ∨ R b) → w'.heap[b]? = w.heap[b]?) : ke ET w' R' xs us F := by
 induction us generalizing xs F with
 | nil => cases h; exact .nil
 | cons c cs ih =>
  cases h with
  | cons h t => exact .cons (h.frame hR (fun k hk => hw k (hk.imp (fun h => an _ h) id))) (ih t (fun k hk => hw k (hk.imp (fun h => ah _ h) id)))
theorem tN {p : List (Nat × kG)} {v : Value} {s : kG} {q : Nat × Nat} (hw : ∀ b, b < w.heap.size → w'.heap[b]? = w.heap[b]?) (h : walk w v s p = some q) : walk w' v s p = some q := by
 induction p generalizing v s with
 | nil => exact h
 | cons x p ih =>
  obtain ⟨j, s'⟩ := x; simp only [walk, aJ] at h ⊢; obtain ⟨q0, h0, v', hv, h1⟩ := h; exact ⟨q0, h0, v', (pX (hw _ (yj hv))).trans hv, ih h1⟩
def AX : Value → Bool
  | .pointer (some _) => false
  | .slice _ _ _ => false
  | _ => true
theorem zc {v : Value} {s : kG} {q : Nat × Nat} (h : su v s = some q) : AX v = false := by
 cases v with
 | pointer a => cases a with
   | none => cases s <;> simp [su] at h
   | some a => rfl
 | slice a l c => rfl
 | _ => cases s <;> simp [su] at h
theorem It {p : List (Nat × kG)} {v : Value} {s : kG} {q : Nat × Nat} (h : walk w v s p = some q) : AX v = false := by
 cases p with
 | nil => exact zc h
 | cons x p =>
  obtain ⟨j, s'⟩ := x; simp only [walk, aJ] at h; obtain ⟨q0, h0, _⟩ := h; exact zc h0
theorem Dl {p : List (Nat × kG)} {v : Value} {s : kG} {q : Nat × Nat} (hw : ∀ ad v, w.cell? ad = some v → AX v = false → w'.cell? ad = some v) (h : walk w v s p = some q) : walk w' v s p = some q := by
 induction p generalizing v s with
 | nil => exact h
 | cons x p ih =>
  obtain ⟨j, s'⟩ := x; simp only [walk, aJ] at h ⊢; obtain ⟨q0, h0, v', hv, h1⟩ := h; exact ⟨q0, h0, v', hw _ _ hv (It h1), ih h1⟩
end
end Go.Proofs.Ytmjnenjeckeklaa.V
namespace Go.Proofs.Ytmjnenjeckeklaa.V
open Go Go.RowKit
def refs : T → Nat → Bool
  | .addr r _ _ _, d => r == d
  | .view r _ _ _ _, d => r == d
  | .whole r _ _ _, d => r == d
  | .fn _ caps, d => caps.any fun | .ref r => r == d | .val _ => false
  | _, _ => false
def sx (d : Nat) (t : T) : T := if refs t d then .junk else t
def jq : T → T
  | .addr r s [] off => .addr r s [] off
  | .addr _ _ (_ :: _) _ => .junk
  | .view r none sz lo n => .view r none sz lo n
  | .view _ (some _) _ _ _ => .junk
  | .whole r none sz n => .whole r none sz n
  | .whole _ (some _) _ _ => .junk
  | t => t
def put (σ : St) (d : Nat) (t : T) : St := fun i => if i = d then t else sx d (σ i)
def jN (σ : St) (d : Nat) (t : T) : St := fun i => if i = d then t else σ i
def jZ (Fs : Nat → List Nat) (d : Nat) (F : List Nat) : Nat → List Nat := fun i => if i = d then F else Fs i
section
variable {ET : TypeId} {w w' : World} {R : Nat → Prop} {K : Ctx} {σ : St} {a : Act} {Fs : Nat → List Nat}
theorem kI.turn {tmps tmps' : Array Value} {v : Value} {t : T} {F : List Nat} (h : kI ET w R tmps v t F) (hF : ∀ b, (b ∈ F ∨ R b) → w'.heap[b]? = w.heap[b]?)
    (hw : ∀ (s : kG) (p : List (Nat × kG)) (v : Value) (q : Nat × Nat), walk w v s p = some q → walk w' v s p = some q) (hc : ∀ ad sv sz lo n v, w.cell? ad = some sv → AW sz sv lo n v → w'.cell? ad = some sv)
    (ht : ∀ r, refs t r = true → tmps'.getD r undef = tmps.getD r undef) : kI ET w' R tmps' v t F := by
 cases h with
 | junk => exact .junk _
 | u h => exact .u (h.frame (fun _ h => h) hF)
 | tup h => exact .tup (h.frame (fun _ h => h) hF)
 | @addr r off b o s p h => exact .addr (by rw [ht r (by simp [refs])]; exact hw _ _ _ _ h)
 | @view r sz lo n pl sv v h hs =>
  refine .view ?_ hs
  cases pl with
  | none => simp only [nI] at h ⊢; rw [ht r (by simp [refs])]; exact h
  | some q =>
   obtain ⟨s, p, off⟩ := q; simp only [nI, aJ] at h ⊢; obtain ⟨q, h1, h2⟩ := h; exact ⟨q, by rw [ht r (by simp [refs])]; exact hw _ _ _ _ h1, hc _ _ _ _ _ _ h2 hs⟩
 | @whole r sz n pl v h hs =>
  refine .whole ?_ hs
  cases pl with
  | none => simp only [nI] at h ⊢; rw [ht r (by simp [refs])]; exact h
  | some q =>
   obtain ⟨s, p, off⟩ := q; simp only [nI, aJ] at h ⊢; obtain ⟨q, h1, h2⟩ := h; exact ⟨q, by rw [ht r (by simp [refs])]; exact hw _ _ _ _ h1, hc _ _ _ _ _ _ h2 hs⟩
 | @fn f caps arr hl h =>
  refine .fn hl (fun i c hi => ?_); obtain ⟨x, h1, h2⟩ := h i c hi; refine ⟨x, h1, ?_⟩
  cases c with
  | ref r =>
   simp only at h2 ⊢; rw [ht r ?_]; exact h2; simp only [refs, ec]; exact ⟨.ref r, cu hi, by simp⟩
  | val x => exact iz.frame h2 (fun _ h => h) (fun b hb => hF b (hb.imp (fun h => by cases h) id))
theorem kI.kill {tmps : Array Value} {v : Value} {t : T} {F : List Nat} {d : Nat} (h : kI ET w R tmps v t F) : kI ET w R tmps v (sx d t) F := by
 unfold sx; split
 · rename_i hr; have : F = [] := by cases h <;> simp_all [refs]
   subst this; exact .junk _
 · exact h
theorem FM {d : Nat} {t : T} : refs (sx d t) d = false := by
 unfold sx; split
 · rfl
 · rename_i h; simpa using h
theorem Bl {d : Nat} {t : T} {r : Nat} (h : refs (sx d t) r = true) : r ≠ d := by
 rintro rfl; rw [FM] at h; cases h
theorem p5 {tmps : Array Value} {d i : Nat} {v : Value} (h : i ≠ d) : (tmps.setIfInBounds d v).getD i undef = tmps.getD i undef := by
 simp [bq, cE (dz h)]
theorem Bn {tmps : Array Value} {d : Nat} {v : Value} (h : d < tmps.size) : (tmps.setIfInBounds d v).getD d undef = v := by
 simp [bq, h]
theorem KS {d : Nat} (h : mX K d = true) : d < K.n := by
 simp only [mX, ai] at h; exact Nat.blt_eq.mp h.1
theorem Hx {d : Nat} (h : mX K d = true) {i : Nat} (hi : K.pins.contains i = true) : i ≠ d := by
 rintro rfl; simp [mX] at h hi; exact h.2 hi
theorem jP.put (h : jP K σ a w Fs) {d : Nat} {v : Value} {t : T} {F : List Nat} (hd : mX K d = true) (hk : iB w [] w') (hF : ∀ b ∈ F, w.heap.size ≤ b) (hnd : F.Nodup)
    (ht : kI K.ET w' K.R (a.tmps.setIfInBounds d v) v t F) : jP K (put σ d t) (a.put (some d) v) w' (jZ Fs d F) := by
 have hall : ∀ b, b < w.heap.size → w'.heap[b]? = w.heap[b]? := fun b hb => hk.block b hb (by simp); have hlt : ∀ i, ∀ b ∈ Fs i, b < w.heap.size := fun i => (h.rep i).lt; have hRs : ∀ b, K.R b → b < w.heap.size := fun b hb => bp (h.ro b hb).1 h.keeps.size; refine ⟨?_, ?_, ?_, ?_, h.keeps.trans hk (by simp), h.ro, by rw [← h.size]; simp [Act.put], fun i hi => by simp only [Act.put]; rw [p5 (Hx hd hi)]; exact h.pin i hi, h.defers⟩
 · intro i; by_cases hi : i = d
   · subst hi; simp only [V.put, jZ, cB, Act.put]; rw [Bn (by rw [h.size]; exact KS hd)]; exact ht
   · simp only [V.put, jZ, ag hi, Act.put]; rw [p5 hi]; refine (h.rep i).kill.turn (fun b hb => ?_) (fun s p v q => tN hall) (fun ad sv sz lo n v hc _ => (pX (hall _ (yj hc))).trans hc) (fun r hr => p5 (Bl hr)); rcases hb with hb | hb
     · exact hall b (hlt i b hb)
     · exact hall b (hRs b hb)
 · intro i; unfold jZ; split
   · exact hnd
   · exact h.nd i
 · intro i j b hi hj; unfold jZ at hi hj; split at hi <;> split at hj
   · rename_i h1 h2; rw [h1, h2]
   · have := hlt j b hj; have := hF b hi; omega
   · have := hlt i b hi; have := hF b hj; omega
   · exact h.dis i j b hi hj
 · intro i b hi; unfold jZ at hi; split at hi
   · have h1 := hF b hi; refine ⟨fun hr => ?_, .inr (bR h.keeps.size h1)⟩; have := hRs b hr; omega
   · exact h.own i b hi
theorem jP.out (h : jP K σ a w Fs) (i : Nat) : jP K (jN σ i .junk) a w (jZ Fs i []) := by
 refine ⟨?_, ?_, ?_, ?_, h.keeps, h.ro, h.size, h.pin, h.defers⟩
 · intro j; unfold jN jZ; split
   · exact .junk _
   · exact h.rep j
 · intro j; unfold jZ; split
   · exact bu
   · exact h.nd j
 · intro j k b hj hk; unfold jZ at hj hk; split at hj
   · cases hj
   · split at hk
     · cases hk
     · exact h.dis j k b hj hk
 · intro j b hj; unfold jZ at hj; split at hj
   · cases hj
   · exact h.own j b hj
theorem jP.MG (h : jP K σ a w Fs) {i : Nat} {t : T} {F : List Nat} (ht : kI K.ET w K.R a.tmps (a.tmps.getD i undef) t F) (hnd : F.Nodup) (hdis : ∀ j, j ≠ i → ∀ b ∈ F, b ∉ Fs j)
    (hown : ∀ b ∈ F, ¬ K.R b ∧ (b ∈ K.E ∨ K.w0.heap.size ≤ b)) : jP K (jN σ i t) a w (jZ Fs i F) := by
 refine ⟨?_, ?_, ?_, ?_, h.keeps, h.ro, h.size, h.pin, h.defers⟩
 · intro j; unfold jN jZ; split
   · rename_i e; rw [e]; exact ht
   · exact h.rep j
 · intro j; unfold jZ; split
   · exact hnd
   · exact h.nd j
 · intro j k b hj hk; unfold jZ at hj hk; split at hj <;> split at hk
   · rename_i h1 h2; rw [h1, h2]
   · rename_i h1 h2; exact absurd hk (hdis k h2 b hj)
   · rename_i h1 h2; exact absurd hj (hdis j h1 b hk)
   · exact h.dis j k b hj hk
 · intro j b hj; unfold jZ at hj; split at hj
   · exact hown b hj
   · exact h.own j b hj
theorem kI.jq {tmps : Array Value} {v : Value} {t : T} {F : List Nat} (h : kI ET w R tmps v t F) : kI ET w R tmps v (jq t) F := by
 cases h with
 | @addr r off b o s p h =>
  cases p with
  | nil => exact .addr h
  | cons x p => exact .junk _
 | @view r sz lo n pl sv v h hs =>
  cases pl with
  | none => exact .view h hs
  | some q => exact .junk _
 | @whole r sz n pl v h hs =>
  cases pl with
  | none => exact .whole h hs
  | some q => exact .junk _
 | junk => exact .junk _
 | u h => exact .u h
 | tup h => exact .tup h
 | fn hl h => exact .fn hl h
theorem jP.world (h : jP K σ a w Fs) {E1 : List Nat} (hk : iB w E1 w') (hE : ∀ b ∈ E1, b ∈ K.E ∨ K.w0.heap.size ≤ b) (hs : ∀ i, ∀ b ∈ Fs i, b ∉ E1) (hR : ∀ b ∈ E1, ¬ K.R b) : jP K (fun i => jq (σ i)) a w' Fs := by
 have hlt : ∀ i, ∀ b ∈ Fs i, b < w.heap.size := fun i => (h.rep i).lt; have hRs : ∀ b, K.R b → b < w.heap.size := fun b hb => bp (h.ro b hb).1 h.keeps.size
 have hF : ∀ i b, (b ∈ Fs i ∨ K.R b) → w'.heap[b]? = w.heap[b]? := by
  intro i b hb; rcases hb with hb | hb
  · exact hk.block b (hlt i b hb) (hs i b hb)
  · exact hk.block b (hRs b hb) (fun h1 => hR b h1 hb)
 refine ⟨fun i => ?_, h.nd, h.dis, h.own, h.keeps.trans hk hE, h.ro, h.size, h.pin, h.defers⟩; have h1 := (h.rep i).jq; have hF' := hF i; clear hF; generalize Fs i = F at h1 hF'; revert h1; generalize hv : a.tmps.getD i undef = v; generalize ht : V.jq (σ i) = t; intro h1
 cases h1 with
 | junk => exact .junk _
 | u h => exact .u (h.frame (fun _ h => h) (fun b hb => by
  rcases hb with hb | hb
  · rename_i hh; exact hF' b (.inl hb)
  · exact hF' b (.inr hb)))
 | tup h => exact .tup (h.frame (fun _ h => h) (fun b hb => by
  rcases hb with hb | hb
  · exact hF' b (.inl hb)
  · exact hF' b (.inr hb)))
 | @addr r off b o s p h =>
  cases p with
  | nil => exact .addr h
  | cons x p => cases hh : σ i with
    | addr r' s' p' off' => rw [hh] at ht; cases p' <;> simp [V.jq] at ht
    | view r' pl' _ _ _ => rw [hh] at ht; cases pl' <;> simp [V.jq] at ht
    | whole r' pl' _ _ => rw [hh] at ht; cases pl' <;> simp [V.jq] at ht
    | _ => rw [hh] at ht; simp [V.jq] at ht
 | @view r sz lo n pl sv v h hs =>
  cases pl with
  | none => exact .view h hs
  | some q => cases hh : σ i with
    | addr r' s' p' off' => rw [hh] at ht; cases p' <;> simp [V.jq] at ht
    | view r' pl' _ _ _ => rw [hh] at ht; cases pl' <;> simp [V.jq] at ht
    | whole r' pl' _ _ => rw [hh] at ht; cases pl' <;> simp [V.jq] at ht
    | _ => rw [hh] at ht; simp [V.jq] at ht
 | @whole r sz n pl v h hs =>
  cases pl with
  | none => exact .whole h hs
  | some q => cases hh : σ i with
    | addr r' s' p' off' => rw [hh] at ht; cases p' <;> simp [V.jq] at ht
    | view r' pl' _ _ _ => rw [hh] at ht; cases pl' <;> simp [V.jq] at ht
    | whole r' pl' _ _ => rw [hh] at ht; cases pl' <;> simp [V.jq] at ht
    | _ => rw [hh] at ht; simp [V.jq] at ht
 | @fn f caps arr hl h =>
  refine .fn hl (fun i c hi => ?_); obtain ⟨x, h1, h2⟩ := h i c hi; refine ⟨x, h1, ?_⟩
  cases c with
  | ref r => exact h2
  | val x => exact iz.frame h2 (fun _ h => h) (fun b hb => hF' b (hb.imp (fun h => by cases h) id))
theorem jP.KT (h : jP K σ a w Fs) {E1 : List Nat} (hk : iB w E1 w') (hE : ∀ b ∈ E1, b ∈ K.E ∨ K.w0.heap.size ≤ b) (hs : ∀ i, ∀ b ∈ Fs i, b ∉ E1) (hR : ∀ b ∈ E1, ¬ K.R b)
    (hc : ∀ ad v, w.cell? ad = some v → AX v = false → w'.cell? ad = some v) : jP K σ a w' Fs := by
 have hlt : ∀ i, ∀ b ∈ Fs i, b < w.heap.size := fun i => (h.rep i).lt; have hRs : ∀ b, K.R b → b < w.heap.size := fun b hb => bp (h.ro b hb).1 h.keeps.size; refine ⟨fun i => ?_, h.nd, h.dis, h.own, h.keeps.trans hk hE, h.ro, h.size, h.pin, h.defers⟩; refine (h.rep i).turn (fun b hb => ?_) (fun s p v q => Dl hc) (fun ad sv sz lo n v h1 h2 => hc ad sv h1 ?_) (fun _ _ => rfl)
 · rcases hb with hb | hb
   · exact hk.block b (hlt i b hb) (hs i b hb)
   · exact hk.block b (hRs b hb) (fun h1 => hR b h1 hb)
 · rcases h2 with ⟨rfl, _⟩ | ⟨b, o, L, cap, rfl, _⟩ <;> rfl
theorem jP.weaken (h : jP K σ a w Fs) {σ' : St} (hs : ∀ i, σ' i = σ i ∨ σ' i = .junk) : ∃ Fs', jP K σ' a w Fs' := by
 classical
 refine ⟨fun i => if σ' i = σ i then Fs i else [], ?_, ?_, ?_, ?_, h.keeps, h.ro, h.size, h.pin, h.defers⟩
 · intro i; by_cases e : σ' i = σ i
   · simp only [aj e]; rw [e]; exact h.rep i
   · simp only [ag e]; rcases hs i with h1 | h1
     · exact absurd h1 e
     · rw [h1]; exact .junk _
 · intro i; split
   · exact h.nd i
   · exact bu
 · intro i j b hi hj; split at hi
   · split at hj
     · exact h.dis i j b hi hj
     · cases hj
   · cases hi
 · intro i b hi; split at hi
   · exact h.own i b hi
   · cases hi
theorem rC.weaken (h : rC K σ a w) {σ' : St} (hs : ∀ i, σ' i = σ i ∨ σ' i = .junk) : rC K σ' a w := by
 obtain ⟨Fs, h⟩ := h; exact h.weaken hs
end
end Go.Proofs.Ytmjnenjeckeklaa.V
namespace Go.Proofs.Ytmjnenjeckeklaa.V
open Go Go.RowKit
def Step (P : Program) (K : Ctx) (σ : St) (o : Oper) (σ' : St) : Prop := ∀ a w, rC K σ a w → o.wp P a w (fun a' w' => rC K σ' a' w') (fun _ _ _ => False)
theorem Oper.Ki {P : Program} {o : Oper} {a : Act} {w : World} {N N' : Act → World → Prop} {Q : Exit → Act → World → Prop} (h : o.wp P a w N (fun _ _ _ => False)) (hn : ∀ a w, N a w → N' a w) : o.wp P a w N' Q := by
 unfold Oper.wp at *; generalize (execOp a.eval o).run P w = r at *
 cases r with
 | ok n w' =>
  cases n <;> simp only [Oper.upon] at h ⊢ <;> first
    | exact hn _ _ h
    | exact Calls.mono h (fun e w'' he => by
        cases e with
        | returned v => exact hn _ _ he
        | panicked c => exact he.elim
        | outgrown => obtain ⟨_, _, h⟩ := he; exact h.elim)
    | exact Rows.mono h (fun _ _ he => hn _ _ he)
    | exact h
 | halt x w' => cases x <;> simp only [Oper.upon] at h ⊢ <;> exact h.elim
def lR : C → Bool
  | .v _ | .err _ => true
  | .sl o _ _ | .pt o _ => !o
  | .x q => q.dup
  | .dead => false
def uD : U → Bool
  | .c x => lR x
  | .agg cs => cs.all lR
  | .fn _ _ => true
def jA (i : Nat) : T → T
  | .u (.c (.sl true sz rows)) => .whole i none sz rows.length
  | .u (.c (.pt true _)) => .addr i .d [] 0
  | .u (.c (.x q)) => if q.dup then .u (.c (.x q)) else if q.isp then .addr i .d [] 0 else .junk
  | .u x => if uD x then .u x else .junk
  | .tup _ => .junk
  | t => t
section
variable {P : Program} {ET : TypeId} {w w' : World} {R : Nat → Prop} {K : Ctx} {σ : St} {a : Act} {Fs : Nat → List Nat} {o : Oper} {d : Nat}
theorem iz.copy {x : Value} {c : C} {F : List Nat} (h : iz ET w R x c F) (hc : lR c = true) : F = [] := by
 cases h with
 | v h => rfl
 | err t => rfl
 | nil o sz => rfl
 | sl _ _ _ _ _ _ _ ho _ =>
  rcases ho with ⟨h1, _⟩ | ⟨_, _, _, h⟩
  · subst h1; simp [lR] at hc
  · exact h
 | pt _ _ ho =>
  rcases ho with ⟨h1, _⟩ | ⟨_, _, _, h⟩
  · subst h1; simp [lR] at hc
  · exact h
 | @x _ q _ h => exact q.dupl hc h
 | dead x => rfl
theorem ig.copy {xs : List Value} {cs : List C} {F : List Nat} (h : ig ET w R xs cs F) (hc : cs.all lR = true) : F = [] := by
 induction cs generalizing xs F with
 | nil => cases h; rfl
 | cons c cs ih =>
  cases h with
  | cons h t =>
   simp only [cM, ai] at hc; rw [h.copy hc.1, ih t hc.2]; rfl
theorem kY.copy {x : Value} {u : U} {F : List Nat} (h : kY ET w R x u F) (hc : uD u = true) : F = [] := by
 cases h with
 | c h => exact h.copy hc
 | agg h => exact h.copy hc
 | fn h => rfl
theorem kI.QH {tmps : Array Value} {i : Nat} {t : T} {F : List Nat} {v : Value} (hv : tmps.getD i undef = v) (h : kI ET w R tmps v t F) : kI ET w R tmps v (jA i t) [] := by
 cases h with
 | junk => exact .junk _
 | tup h => exact .junk _
 | addr h => exact .addr h
 | view h hs => exact .view h hs
 | whole h hs => exact .whole h hs
 | fn hl h => exact .fn hl h
 | @u v x F hu =>
  cases x with
  | fn f cs => cases hu with | fn h => exact .u (.fn h)
  | agg cs =>
   simp only [jA]; split
   · rename_i hc; rw [hu.copy hc] at hu; exact .u hu
   · exact .junk _
  | c x =>
   cases hu with
   | c hc =>
    cases hc with
    | v h => exact .u (.c (.v h))
    | err t => exact .u (.c (.err t))
    | dead x => exact .junk _
    | @x _ q _ h =>
     simp only [jA]; split
     case isTrue hp =>
      obtain rfl := q.dupl hp h; exact .u (.c (.x h))
     case isFalse =>
     split
     case isFalse => exact .junk _
     case isTrue hp =>
     obtain ⟨b, hb⟩ := q.ptr hp h; subst hb; have := kI.addr (ET := ET) (w := w) (R := R) (tmps := tmps) (r := i) (off := 0) (s := .d) (p := []) (b := b) (o := 0) (by rw [hv]; rfl); rw [bZ] at this; exact this
    | nil o sz => cases o with
      | true => exact .whole (by simp only [nI]; rw [hv]) (.inl ⟨rfl, rfl, rfl, rfl⟩)
      | false => exact .u (.c (.nil false sz))
    | @sl b off len cap sz own arr et rows F1 F' hb hlen hcap hsz hfit hrow hrep ho hz =>
     cases own with
     | true =>
      subst hlen; exact .whole (by simp only [nI]; rw [hv]) (.inr ⟨b, off, _, cap, rfl, hcap, by omega, .inl (by simp)⟩)
     | false =>
      have hF : F = [] := by
       rcases ho with ⟨h1, _⟩ | ⟨_, _, _, h⟩
       · cases h1
       · exact h
      subst hF; exact .u (.c (.sl hb hlen hcap hsz hfit hrow hrep ho hz))
    | @pt b own arr et cs F1 F' hb hrep ho =>
     cases own with
     | true =>
      have := kI.addr (ET := ET) (w := w) (R := R) (tmps := tmps) (r := i) (off := 0) (s := .d) (p := []) (b := b) (o := 0) (by rw [hv]; rfl); rw [bZ] at this; exact this
     | false =>
      have hF : F = [] := by
       rcases ho with ⟨h1, _⟩ | ⟨_, _, _, h⟩
       · cases h1
       · exact h
      subst hF; exact .u (.c (.pt hb hrep ho))
theorem kI.alias {tmps : Array Value} {i : Nat} {t : T} {F : List Nat} (h : kI ET w R tmps (tmps.getD i undef) t F) : kI ET w R tmps (tmps.getD i undef) (jA i t) [] := h.QH rfl
theorem kI.Ca {tmps : Array Value} {d : Nat} {v x : Value} {t : T} {F : List Nat} (h : kI ET w R tmps v t F) (hr : refs t d = false) : kI ET w R (tmps.setIfInBounds d x) v t F :=
  h.turn (fun _ _ => rfl) (fun _ _ _ _ h => h) (fun _ _ _ _ _ _ h _ => h) (fun r hr' => p5 (by rintro rfl; rw [hr] at hr'; cases hr'))
def nJ : T → Option (Nat × Option (kG × List (Nat × kG) × Nat) × Nat × Nat × Nat)
  | .view r pl sz lo n => some (r, pl, sz, lo, n)
  | .whole r pl sz n => some (r, pl, sz, 0, n)
  | _ => none
theorem kI.nJ {tmps : Array Value} {v : Value} {t : T} {F : List Nat} {r sz lo n : Nat} {pl : Option (kG × List (Nat × kG) × Nat)} (h : kI ET w R tmps v t F) (ht : V.nJ t = some (r, pl, sz, lo, n)) : ∃ sv, nI w tmps r pl = some sv ∧ AW sz sv lo n v := by
 cases h with
 | view h hs =>
  simp only [V.nJ, aC, bE] at ht; obtain ⟨rfl, rfl, rfl, rfl, rfl⟩ := ht; exact ⟨_, h, hs⟩
 | whole h hs =>
  simp only [V.nJ, aC, bE] at ht; obtain ⟨rfl, rfl, rfl, rfl, rfl⟩ := ht; exact ⟨_, h, hs⟩
 | _ => simp [V.nJ] at ht
theorem Fk {t : T} (hd : o.dst = some d) (hn : mX K d = true) (hr : refs t d = false)
    (h : ∀ a w Fs, jP K σ a w Fs → ∃ v w' F, (execOp a.eval o).run P w = .ok (.value v) w' ∧ iB w [] w' ∧ kI K.ET w' K.R a.tmps v t F ∧ (∀ b ∈ F, w.heap.size ≤ b) ∧ F.Nodup) : Step P K σ o (put σ d t) := by
 rintro a w ⟨Fs, hs⟩; obtain ⟨v, w', F, hx, hk, ht, hF, hnd⟩ := h a w Fs hs; simp only [Oper.wp, hx, Oper.upon_value, hd]; exact ⟨_, hs.put hn hk hF hnd (ht.Ca hr)⟩
theorem iH {t : T} (hd : o.dst = some d) (hn : mX K d = true) (hr : refs t d = false)
    (h : ∀ a w Fs, jP K σ a w Fs → ∃ v, (execOp a.eval o).run P w = .ok (.value v) w ∧ kI K.ET w K.R a.tmps v t []) : Step P K σ o (put σ d t) :=
  Fk hd hn hr (fun a w Fs hs => by
    obtain ⟨v, hx, ht⟩ := h a w Fs hs
    exact ⟨v, w, [], hx, .refl _ _, ht, by simp, bu⟩)
inductive xz (K : Ctx) (σ : St) : Operand → T → Prop
  | tmp {i : Nat} {t : T} (h : jA i (σ i) = t) : xz K σ (.tmp i) t
  | v {x : Value} (h : ot x = true) : xz K σ (.const x) (.u (.c (.v x)))
  | nil : xz K σ (.const .nilIface) (.u (.c (.err none)))
  | err {n : Int} {e : TypeId} (h : K.ET = e) : xz K σ (.const (.iface e (.int .i64 n))) (.u (.c (.err (some n))))
  | sl (sz : Nat) : xz K σ (.const (.slice none 0 0)) (.u (.c (.sl true sz [])))
theorem xz.rep {x : Operand} {t : T} (h : xz K σ x t) (hs : jP K σ a w Fs) : kI K.ET w K.R a.tmps (a.eval x) t [] := by
 cases h with
 | tmp h => rw [← h]; exact (hs.rep _).alias
 | v h => exact .u (.c (.v h))
 | nil => exact .u (.c (.err none))
 | err h => subst h; exact .u (.c (.err (some _)))
 | sl sz => exact .u (.c (.nil true sz))
theorem kI.J1 {tmps : Array Value} {v x : Value} {F : List Nat} (h : kI ET w R tmps v (.u (.c (.v x))) F) : v = x ∧ ot x = true := by
 cases h with | u h => cases h with | c h => cases h with | v h => exact ⟨rfl, h⟩
end
end Go.Proofs.Ytmjnenjeckeklaa.V
namespace Go.Proofs.Ytmjnenjeckeklaa.V
open Go Go.RowKit
def FC (P : Program) (t : TypeId) : Prop := (∃ q, P.underlying t = some q ∧ q.isRow = false) ∧ (P.info? t).map (·.size) = some 1
def B1 (P : Program) (t : TypeId) (n : Nat) : Prop := (∃ q, P.underlying t = some q ∧ q.isRow = true) ∧ (P.info? t).map (·.size) = some n ∧ 0 < n
def LO (P : Program) (s f off : Nat) : Prop := ∃ fields fd i, P.underlying s = some (.struct fields) ∧ fields[f]? = some fd ∧ fd.offset = off ∧ P.info? fd.type = some i ∧ i.size ≠ 0
def nS (P : Program) (t sz bytes : Nat) : Prop := ∃ e i, P.underlying t = some (.slice e) ∧ P.info? e = some i ∧ i.size = sz ∧ i.bytes = bytes ∧ 0 < sz
section
variable {P : Program} {ET : TypeId} {w w' : World} {R : Nat → Prop} {K : Ctx} {σ : St} {a : Act} {Fs : Nat → List Nat} {o : Oper} {d : Nat}
theorem Bg {t : TypeId} {q : TypeDesc} (h : P.underlying t = some q) (w : World) : (isAgg t).run P w = .ok q.isRow w := by
 unfold isAgg; rw [Sem.run_bind, run_underlying h w]; cases q <;> rfl
theorem tV {t : TypeId} (h : FC P t) {ad : Addr} {x : Value} (hx : w.cell? ad = some x) : (Instr.loadAt t (.pointer (some ad))).run P w = .ok x w := by
 obtain ⟨⟨q, hq, hr⟩, _⟩ := h; simp only [Instr.loadAt, Instr.sureAddr, loadVar, Sem.run_bind, Sem.run_pure, Result.andThen_ok, Bg hq, hr]; simp [load, Sem.run, hx]
theorem qU {t n : Nat} (h : B1 P t n) {b o : Nat} {arr : Array Value} {et : TypeId} {fz : Nat × Nat} (hb : w.heap[b]? = some (.cells arr et fz)) (hn : o + n ≤ arr.size) :
    (Instr.loadAt t (.pointer (some ⟨b, o, none⟩))).run P w = .ok (.agg ((arr.toList.drop o).take n).toArray) w := by
 obtain ⟨⟨q, hq, hr⟩, hi, _⟩ := h; refine run_loadAt_mid w b o t _ q ?_ hq hr ?_
 · intro j v hv; simp only [World.cell?, hb]; rw [bP] at hv; split at hv
   · rw [bL] at hv; simpa using hv
   · cases hv
 · rw [hi, az, aQ]; congr 1; simp; omega
theorem kE {i : Nat} : a.eval (.tmp i) = a.tmps.getD i undef := rfl
theorem jP.place (hs : jP K σ a w Fs) {i r off : Nat} {s : kG} {p : List (Nat × kG)} {c : C} {cs : List C} (hi : jA i (σ i) = .addr r s p off) (hr : σ r = .u (.c c)) (hg : nx c s p = some cs) :
    ∃ b o arr, ∃ et : TypeId × Nat × Nat, ∃ Fi, a.eval (.tmp i) = .pointer (some ⟨b, o + off, none⟩) ∧ w.heap[b]? = some (.cells arr et.1 et.2) ∧ o + cs.length ≤ arr.size ∧ ig K.ET w K.R ((arr.toList.drop o).take cs.length) cs Fi ∧ walk w (a.tmps.getD r undef) s p = some (b, o) := by
 have h := (xz.tmp hi).rep hs; have hR := hs.rep r; rw [hr] at hR; generalize hv : a.eval (.tmp i) = v at h
 cases h with
 | @addr _ _ b o' _ _ h =>
  generalize AA : a.tmps.getD r undef = v0 at hR h ⊢
  cases hR with
  | u hu =>
   cases hu with
   | c hc =>
    obtain ⟨b2, o2, arr, et, Fi, h1, h2, h3, h4, _⟩ := iz.read p hc hg; rw [h1] at h; injection h with h; injection h with e1 e2; subst e1; subst e2; exact ⟨_, _, arr, et, Fi, rfl, h2, h3, h4, h1⟩
theorem kT {b o n j : Nat} {arr : Array Value} {et : TypeId} {fz : Nat × Nat} {x : Value} (hb : w.heap[b]? = some (.cells arr et fz)) (hx : ((arr.toList.drop o).take n)[j]? = some x) : w.cell? ⟨b, o + j, none⟩ = some x := by
 simp only [World.cell?, hb]; rw [bP] at hx; split at hx
 · rw [bL] at hx; simpa using hx
 · cases hx
theorem jF {t i r off : Nat} {s : kG} {p : List (Nat × kG)} {c x : C} {cs : List C} (ho : o.op = .load t (.tmp i)) (ht : FC P t) (hi : jA i (σ i) = .addr r s p off) (hr : σ r = .u (.c c)) (hg : nx c s p = some cs)
    (hx : cs[off]? = some x) (hc : lR x = true) (hd : o.dst = some d) (hn : mX K d = true) : Step P K σ o (put σ d (.u (.c x))) :=
  iH hd hn rfl (fun a w Fs hs => by
    obtain ⟨b, o', arr, et, Fi, h1, h2, h3, h4, _⟩ := hs.place hi hr hg
    obtain ⟨y, F1, Fj, F2, hy, _, hrx, _⟩ := h4.at_ hx
    rw [hrx.copy hc] at hrx
    have hcell := kT h2 hy
    refine ⟨y, ?_, .u (.c hrx)⟩
    simp only [execOp, ho, h1, Sem.run_bind, tV ht hcell, Result.andThen_ok, Sem.run_pure])
theorem wj {t i r off n : Nat} {s : kG} {p : List (Nat × kG)} {c : C} {cs xs : List C} (ho : o.op = .load t (.tmp i)) (ht : B1 P t n) (hi : jA i (σ i) = .addr r s p off) (hr : σ r = .u (.c c)) (hg : nx c s p = some cs)
    (hx : (cs.drop off).take n = xs) (hl : xs.length = n) (hc : xs.all lR = true) (hd : o.dst = some d) (hn : mX K d = true) : Step P K σ o (put σ d (.u (.agg xs))) :=
  iH hd hn rfl (fun a w Fs hs => by
    obtain ⟨b, o', arr, et, Fi, h1, h2, h3, h4, _⟩ := hs.place hi hr hg
    have hle : off + n ≤ cs.length := by
     have := ht.2.2; rw [← hx, az, aQ] at hl; omega
    obtain ⟨ya, yz, F1, F2, e1, e2, Qj, hz⟩ := ig.split (cs := cs.take off) (ds := cs.drop off) (by rw [bl]; exact h4)
    obtain ⟨yx, yb, F3, F4, e3, e4, hxx, _⟩ := ig.split (cs := (cs.drop off).take n) (ds := (cs.drop off).drop n) (by rw [bl]; exact hz)
    rw [hx] at hxx
    have hF := hxx.copy hc
    subst hF
    have hya : ya.length = off := by rw [Qj.length, az]; omega
    have hyx : yx.length = n := by rw [hxx.length, hl]
    have hw : (arr.toList.drop (o' + off)).take n = yx := by
     have e5 : ((arr.toList.drop o').take cs.length).drop off = yx ++ yb := by rw [e1, e3, ← hya, cR]
     have e6 : (((arr.toList.drop o').take cs.length).drop off).take n = yx := by rw [e5, ← hyx, cr]
     rw [← e6, dG, cG, dW, cj (by omega)]
    refine ⟨.agg yx.toArray, ?_, .u (.agg (by simpa using hxx))⟩
    have := qU (P := P) ht h2 (show o' + off + n ≤ arr.size by omega)
    rw [hw] at this
    simp only [execOp, ho, h1, Sem.run_bind, this, Result.andThen_ok, Sem.run_pure])
theorem iz.sub {v : Value} {own : Bool} {sz : Nat} {rows : List (List C)} {F : List Nat} (h : iz ET w R v (.sl own sz rows) F) : AW sz v 0 rows.length v := by
 cases h with
 | nil o sz => exact .inl ⟨rfl, rfl, rfl, rfl⟩
 | @sl b off len cap _ _ arr et _ F1 F' hb hlen hcap hsz hfit hrow hrep ho =>
  subst hlen; exact .inr ⟨b, off, _, cap, rfl, hcap, by omega, .inl (by simp)⟩
theorem ny {t i r off sz : Nat} {own : Bool} {s : kG} {p : List (Nat × kG)} {c : C} {cs : List C} {rows : List (List C)} (ho : o.op = .load t (.tmp i)) (ht : FC P t) (hi : jA i (σ i) = .addr r s p off) (hr : σ r = .u (.c c)) (hg : nx c s p = some cs)
    (hx : cs[off]? = some (.sl own sz rows)) (hd : o.dst = some d) (hn : mX K d = true) (hrd : (r == d) = false) : Step P K σ o (put σ d (.whole r (some (s, p, off)) sz rows.length)) :=
  iH hd hn hrd (fun a w Fs hs => by
    obtain ⟨b, o', arr, et, Fi, h1, h2, h3, h4, h5⟩ := hs.place hi hr hg
    obtain ⟨y, F1, Fj, F2, hy, _, hrx, _⟩ := h4.at_ hx
    have hcell := kT h2 hy
    refine ⟨y, ?_, .whole ?_ hrx.sub⟩
    · simp only [execOp, ho, h1, Sem.run_bind, tV ht hcell, Result.andThen_ok, Sem.run_pure]
    · simp only [nI, h5, aq]; exact hcell)
theorem tF {p : List (Nat × kG)} {v v' : Value} {s s' : kG} {b o' j : Nat} {q : Nat × Nat} (h : walk w v s p = some (b, o')) (hc : w.cell? ⟨b, o' + j, none⟩ = some v') (hq : su v' s' = some q) : walk w v s (p ++ [(j, s')]) = some q := by
 induction p generalizing v s with
 | nil =>
  have h' : su v s = some (b, o') := h; simp only [cn, walk, h', aq, hc]; exact hq
 | cons x p ih =>
  obtain ⟨k, s2⟩ := x; simp only [walk, aJ] at h; obtain ⟨q0, h0, v2, hv, h1⟩ := h; simp only [bS, walk, h0, aq, hv]; exact ih h1
theorem Ox {t i r off : Nat} {own : Bool} {s : kG} {p : List (Nat × kG)} {c : C} {cs cs' : List C} (ho : o.op = .load t (.tmp i)) (ht : FC P t) (hi : jA i (σ i) = .addr r s p off) (hr : σ r = .u (.c c)) (hg : nx c s p = some cs)
    (hx : cs[off]? = some (.pt own cs')) (hd : o.dst = some d) (hn : mX K d = true) (hrd : (r == d) = false) : Step P K σ o (put σ d (.addr r s (p ++ [(off, .d)]) 0)) :=
  iH hd hn hrd (fun a w Fs hs => by
    obtain ⟨b, o', arr, et, Fi, h1, h2, h3, h4, h5⟩ := hs.place hi hr hg
    obtain ⟨y, F1, Fj, F2, hy, _, hrx, _⟩ := h4.at_ hx
    have hcell := kT h2 hy
    cases hrx with
    | @pt b2 _ vI MZ _ P9 F' jD hrep AZ =>
      refine ⟨_, ?_, .addr (b := b2) (o := 0) (off := 0) (tF h5 hcell rfl)⟩
      simp only [execOp, ho, h1, Sem.run_bind, tV ht hcell, Result.andThen_ok, Sem.run_pure])
theorem Oy {s f foff i r off : Nat} {sl : kG} {p : List (Nat × kG)} (ho : o.op = .fieldAddr s (.tmp i) f) (hf : LO P s f foff) (hi : jA i (σ i) = .addr r sl p off) (hd : o.dst = some d) (hn : mX K d = true) (hrd : (r == d) = false) : Step P K σ o (put σ d (.addr r sl p (off + foff))) :=
  iH hd hn hrd (fun a w Fs hs => by
    have h := (xz.tmp hi).rep hs
    generalize hv : a.eval (.tmp i) = v at h
    cases h with
    | @addr _ _ b o' _ _ h =>
      obtain ⟨fields, fd, inf, hu, hfd, hoff, hinf, hsz⟩ := hf
      refine ⟨.pointer (some ⟨b, o' + (off + foff), none⟩), ?_, .addr h⟩
      have hsize : (sizeOf fd.type).run P w = .ok inf.size w := by simp [sizeOf, typeInfo, hinf]
      simp only [execOp, ho, hv, Instr.fieldAt, Instr.sureAddr, fieldPlace, Sem.run_bind, run_underlying hu, Result.andThen_ok, hfd, Sem.run_pure, hsize, ag hsz, Addr.add_mid, hoff, ef])
def Ve (r : Nat) (pl : Option (kG × List (Nat × kG) × Nat)) (k sz : Nat) : T :=
  match pl with
  | none => .addr r (.i k sz) [] 0
  | some (s, p, off) => .addr r s (p ++ [(off, .i k sz)]) 0
theorem rz {t sz bytes : Nat} (hu : nS P t sz bytes) {b o' n cap : Nat} {k : IntKind} {e : Int} (h0 : 0 ≤ e) (h1 : e < n) (w : World) :
    (Instr.indexAt t (.slice (some ⟨b, o', none⟩) n cap) (.int k e)).run P w = .ok (.pointer (some ⟨b, o' + e.toNat * sz, none⟩)) w := by
 obtain ⟨el, inf, hu, hinf, hsz, _, _⟩ := hu; have hsize : (sizeOf el).run P w = .ok sz w := by simp [sizeOf, typeInfo, hinf, hsz]
 simp only [Instr.indexAt, asIntOf, Sem.run_bind, Sem.run_pure, Result.andThen_ok, run_underlying hu]; rw [aj ⟨h0, h1⟩]; simp only [Sem.run_bind, hsize, Result.andThen_ok, Sem.run_pure, Addr.add_mid]
theorem iq {t i r sz bytes lo n k : Nat} {pl : Option (kG × List (Nat × kG) × Nat)} {x : Operand} {ik : IntKind} {e : Int} (ho : o.op = .indexAddr t (.tmp i) x) (hu : nS P t sz bytes) (hi : nJ (jA i (σ i)) = some (r, pl, sz, lo, n)) (hx : xz K σ x (.u (.c (.v (.int ik e)))))
    (h0 : 0 ≤ e) (h1 : e < n) (hk : lo + e.toNat = k) (hd : o.dst = some d) (hn : mX K d = true) (hrd : (r == d) = false) : Step P K σ o (put σ d (Ve r pl k sz)) :=
  iH hd hn (by cases pl <;> exact hrd) (fun a w Fs hs => by
    obtain ⟨sv, hsl, hsub⟩ := ((xz.tmp rfl).rep hs (x := .tmp i)).nJ hi
    have hxv := (hx.rep hs).J1.1
    generalize hv : a.eval (.tmp i) = v at hsub
    · rcases hsub with ⟨_, _, _, h⟩ | ⟨b, o', L, cap, rfl, hcap, hlo, h⟩
      · subst h; omega
      · rcases h with rfl | ⟨h, _⟩
        · refine ⟨.pointer (some ⟨b, o' + lo * sz + e.toNat * sz, none⟩), ?_, ?_⟩
          · have := rz (P := P) hu (b := b) (o' := o' + lo * sz) (n := n) (cap := cap - lo) (k := ik) h0 h1 w
            simp only [execOp, ho, hv, hxv, Sem.run_bind, this, Result.andThen_ok, Sem.run_pure]
          · have e1 : o' + lo * sz + e.toNat * sz = o' + k * sz + 0 := by rw [← hk, bQ]; omega
            rw [e1]
            cases pl with
            | none =>
              simp only [nI, aC] at hsl
              exact .addr (by rw [hsl]; rfl)
            | some q =>
              obtain ⟨s, p, off⟩ := q
              simp only [nI, aJ] at hsl
              obtain ⟨⟨b2, o2⟩, h2, h3⟩ := hsl
              exact .addr (tF h2 h3 rfl)
        · subst h; omega)
theorem m9 {t i sz bytes : Nat} {own : Bool} {rows : List (List C)} {x : Operand} {ik : IntKind} {e : Int} (ho : o.op = .indexAddr t (.tmp i) x) (hu : nS P t sz bytes) (hi : σ i = .u (.c (.sl own sz rows))) (hx : xz K σ x (.u (.c (.v (.int ik e)))))
    (h0 : 0 ≤ e) (h1 : e < rows.length) (hd : o.dst = some d) (hn : mX K d = true) (hrd : (i == d) = false) : Step P K σ o (put σ d (.addr i (.i e.toNat sz) [] 0)) :=
  iH hd hn hrd (fun a w Fs hs => by
    have h := hs.rep i
    rw [hi] at h
    have hxv := (hx.rep hs).J1.1
    generalize hv : a.tmps.getD i undef = v at h
    generalize Fs i = F at h
    cases h with
    | u h => cases h with
      | c h =>
        cases h with
        | nil => simp at h1; omega
        | @sl b off len cap _ _ arr et _ F1 F' hb hlen hcap hsz hfit hrow hrep AZ =>
          subst hlen
          refine ⟨.pointer (some ⟨b, off + e.toNat * sz + 0, none⟩), ?_, .addr (by rw [hv]; rfl)⟩
          have := rz (P := P) hu (b := b) (o' := off) (n := rows.length) (cap := cap) (k := ik) h0 h1 w
          simp only [execOp, ho, kE, hv, hxv, Sem.run_bind, this, Result.andThen_ok, Sem.run_pure, bZ])
end
end Go.Proofs.Ytmjnenjeckeklaa.V
namespace Go.Proofs.Ytmjnenjeckeklaa.V
open Go Go.RowKit
def GI (ET : TypeId) : Value → T
  | .nilIface => .u (.c (.err none))
  | .iface e (.int .i64 n) => if e = ET then .u (.c (.err (some n))) else .junk
  | v => if ot v then .u (.c (.v v)) else .junk
def mV (ET : TypeId) (σ : St) : Operand → T
  | .tmp i => jA i (σ i)
  | .const v => GI ET v
  | _ => .junk
def Mb (op : BinOp) (k : IntKind) (x y : Int) : Int :=
  let a := BitVec.ofInt k.bits x
  let b := BitVec.ofInt k.bits y
  match op with
  | .and => k.wrap (a &&& b).toNat
  | .or => k.wrap (a ||| b).toNat
  | .xor => k.wrap (a ^^^ b).toNat
  | _ => k.wrap (a &&& ~~~b).toNat
def R8 (op : BinOp) (k : IntKind) (x y : Int) : Option Value :=
  match op with
  | .add => some (.int k (k.wrap (x + y)))
  | .sub => some (.int k (k.wrap (x - y)))
  | .mul => some (.int k (k.wrap (x * y)))
  | .and => some (.int k (Mb .and k x y))
  | .or => some (.int k (Mb .or k x y))
  | .xor => some (.int k (Mb .xor k x y))
  | .andNot => some (.int k (Mb .andNot k x y))
  | .eql => some (.bool (x == y))
  | .neq => some (.bool (x != y))
  | .lss => some (.bool (decide (x < y)))
  | .leq => some (.bool (decide (x ≤ y)))
  | .gtr => some (.bool (decide (x > y)))
  | .geq => some (.bool (decide (x ≥ y)))
  | _ => none
def Mc : IntKind → IntKind → Bool
  | .i8, .i8 | .i16, .i16 | .i32, .i32 | .i64, .i64 | .u8, .u8 | .u16, .u16 | .u32, .u32 | .u64, .u64 => true
  | _, _ => false
theorem Ju {a b : IntKind} (h : Mc a b = true) : a = b := by cases a <;> cases b <;> first | rfl | cases h
def AU (ET : TypeId) (σ : St) : Op → Option T
  | .move x | .assign x => match mV ET σ x with
    | .junk => none
    | t => some t
  | .nilCheck x => match mV ET σ x with
    | .addr r s p off => some (.addr r s p off)
    | _ => none
  | .binOp op _ x y _ => match mV ET σ x, mV ET σ y with
    | .u (.c (.v (.int k a))), .u (.c (.v (.int k' b))) => if Mc k k' then (R8 op k a b).map fun v => .u (.c (.v v)) else none
    | _, _ => none
  | .unOp .not _ x => match mV ET σ x with
    | .u (.c (.v (.bool b))) => some (.u (.c (.v (.bool (!b)))))
    | _ => none
  | .pick c x y => match mV ET σ c with
    | .u (.c (.v (.bool true))) => match mV ET σ x with
      | .junk => none
      | t => some t
    | .u (.c (.v (.bool false))) => match mV ET σ y with
      | .junk => none
      | t => some t
    | _ => none
  | .extract (.tmp i) j => match σ i with
    | .tup us => match us[j]? with
      | some u => if uD u then some (.u u) else none
      | none => none
    | _ => none
  | _ => none
section
variable {P : Program} {ET : TypeId} {w w' : World} {R : Nat → Prop} {K : Ctx} {σ : St} {a : Act} {Fs : Nat → List Nat} {o : Oper} {d : Nat}
theorem GJ {v : Value} {t : T} {tmps : Array Value} (h : GI ET v = t) (ht : t ≠ .junk) : kI ET w R tmps v t [] := by
 subst h; unfold GI at *; split
 · exact .u (.c (.err none))
 · split
   · rename_i e; subst e; exact .u (.c (.err (some _)))
   · rename_i e; simp [e] at ht
 · split
   · rename_i hp; exact .u (.c (.v hp))
   · exact .junk _
theorem lE (hs : jP K σ a w Fs) {x : Operand} {t : T} (h : mV K.ET σ x = t) (ht : t ≠ .junk) : kI K.ET w K.R a.tmps (a.eval x) t [] := by
 cases x with
 | tmp i => rw [← h]; exact (hs.rep i).alias
 | const v => exact GJ h ht
 | global g => exact absurd h.symm (by simpa [mV] using ht)
 | func f => exact absurd h.symm (by simpa [mV] using ht)
theorem j9 (hs : jP K σ a w Fs) {x : Operand} {v : Value} (h : mV K.ET σ x = .u (.c (.v v))) : a.eval x = v := (lE hs h (by simp)).J1.1
theorem Md {op : BinOp} {k : IntKind} {x y : Int} {v : Value} (h : R8 op k x y = some v) (t : TypeId) (w : World) : (binOp op t (.int k x) (.int k y)).run P w = .ok v w ∧ ot v = true := by
 cases op <;> simp only [R8, aC] at h <;> first
   | (cases h; done)
   | (subst h
      refine ⟨?_, rfl⟩
      simp [binOp, Op.intArith, Op.intBits, Op.intCmp, Mb, pure, Sem.run])
theorem EC (op : BinOp) (t : TypeId) (x y : Operand) (k : IntKind) (p : Int) (b : Value) (w : World) : (eqGuard op t x y (.int k p) b).run P w = .ok () w := by
 cases op <;> rfl
theorem ke.at_ {l : List Value} {us : List U} {F : List Nat} {j : Nat} {u : U} (hus : ke ET w R l us F) (hu : us[j]? = some u) (hc : uD u = true) : ∃ y, l[j]? = some y ∧ kY ET w R y u [] := by
 induction us generalizing l F j with
 | nil => simp at hu
 | cons u0 us ih =>
  cases hus with
  | @cons x0 _ xs _ F0 G hh tt =>
   cases j with
   | zero =>
    simp only [bF, aC] at hu; subst hu; refine ⟨x0, rfl, ?_⟩; rw [hh.copy hc] at hh; exact hh
   | succ j =>
    have := ih tt (by simpa using hu); simpa using this
theorem Jv (hs : jP K σ a w Fs) {t : T} (h : AU K.ET σ o.op = some t) : ∃ v, (execOp a.eval o).run P w = .ok (.value v) w ∧ kI K.ET w K.R a.tmps v t [] := by
 cases ho : o.op <;> rw [ho] at h <;> simp only [AU] at h
 case move x =>
  split at h
  · cases h
  · rename_i t' hj; injection h with h; subst h; exact ⟨a.eval x, by simp [execOp, ho, pure], lE hs rfl (fun e => hj e)⟩
 case assign x =>
  split at h
  · cases h
  · rename_i t' hj; injection h with h; subst h; exact ⟨a.eval x, by simp [execOp, ho, pure], lE hs rfl (fun e => hj e)⟩
 case nilCheck x =>
  split at h
  · rename_i r s p off hx; injection h with h; subst h; have h := lE hs hx (by simp); generalize hv : a.eval x = v at h
    cases h with
    | addr h => exact ⟨_, by simp [execOp, ho, hv, pure], .addr h⟩
  · cases h
 case binOp op xt x y yt =>
  split at h
  · rename_i k p k' q hx hy; split at h
    · rename_i hk; have hk := Ju hk; subst hk; simp only [cg] at h; obtain ⟨v, hv, rfl⟩ := h; obtain ⟨h1, h2⟩ := Md (P := P) hv xt w; have e1 := j9 hs hx; have e2 := j9 hs hy; refine ⟨v, ?_, .u (.c (.v h2))⟩; simp only [execOp, ho, Sem.run_bind, e1, e2, EC, Result.andThen_ok, h1, Sem.run_pure]
    · cases h
  · cases h
 case unOp op xt x =>
  cases op <;> simp only at h <;> try cases h
  split at h
  · rename_i b hx; injection h with h; subst h; have e1 := j9 hs hx; exact ⟨.bool (!b), by simp [execOp, ho, e1, Op.unary, pure], .u (.c (.v rfl))⟩
  · cases h
 case pick c x y =>
  split at h
  · rename_i hc; have e1 := j9 hs hc; split at h
    · cases h
    · rename_i t' hj; injection h with h; subst h; exact ⟨a.eval x, by simp [execOp, ho, e1, asBool, pure], lE hs rfl (fun e => hj e)⟩
  · rename_i hc; have e1 := j9 hs hc; split at h
    · cases h
    · rename_i t' hj; injection h with h; subst h; exact ⟨a.eval y, by simp [execOp, ho, e1, asBool, pure], lE hs rfl (fun e => hj e)⟩
  · cases h
 case extract x j =>
  cases x <;> simp only at h <;> try cases h
  rename_i i; split at h
  · rename_i us hi; split at h
    · rename_i u hu; split at h
      · rename_i hc; injection h with h; subst h; have hr := hs.rep i; rw [hi] at hr; generalize hv : a.tmps.getD i undef = v at hr; generalize Fs i = F at hr
        cases hr with
        | @tup arr _ F hus =>
         obtain ⟨y, hy, hru⟩ := hus.at_ hu hc; refine ⟨y, ?_, .u hru⟩; have hy' : arr[j]? = some y := by simpa using hy
         simp [execOp, ho, kE, hv, Instr.extract, hy', pure]
      · cases h
    · cases h
  · cases h
 (all_goals cases h)
theorem SM {t : T} (h : AU K.ET σ o.op = some t) (hd : o.dst = some d) (hn : mX K d = true) (hr : refs t d = false) : Step P K σ o (put σ d t) :=
  iH hd hn hr (fun _ _ _ hs => Jv hs h)
end
end Go.Proofs.Ytmjnenjeckeklaa.V
namespace Go.Proofs.Ytmjnenjeckeklaa.V
open Go Go.RowKit
def PD (P : Program) (t : TypeId) : Prop := P.underlying t = some .bool
def FN (P : Program) (t : TypeId) : Prop := ∃ ms, P.underlying t = some (.interface ms)
def Q7 (P : Program) (t : TypeId) : Prop := ∃ e, P.underlying t = some (.pointer e)
def NU (P : Program) (t : TypeId) : Prop := (P.info? t).map (·.comparable) = some true ∧ ∃ k, P.underlying t = some (.int k)
def NV : C → Option Value
  | .v x => some x
  | _ => none
def qq : List C → Option (List Value)
  | [] => some []
  | c :: cs => match NV c, qq cs with
    | some x, some xs => some (x :: xs)
    | _, _ => none
section
variable {P : Program} {ET : TypeId} {w w' : World} {R : Nat → Prop} {K : Ctx} {σ : St} {a : Act} {Fs : Nat → List Nat} {o : Oper} {d : Nat}
theorem q9 {t : TypeId} {x y : Value} {b : Bool} (h : ∀ n, (Op.equalIn (n + 2) t x y).run P w = .ok b w) : (Op.equal t x y).run P w = .ok b w := h 9998
theorem kF (op : BinOp) (t : TypeId) (x y : Operand) (p q : Value) (hp : ∀ z, p ≠ .agg z) (hn : p ≠ .nilIface ∨ q ≠ .nilIface ∨ (∃ v, x = .const v) ∨ ∃ v, y = .const v) (w : World) : (eqGuard op t x y p q).run P w = .ok () w := by
 by_cases h : op = .eql ∨ op = .neq
 · rcases h with rfl | rfl <;> (cases p <;> first | (cases q <;> first | rfl | (rcases hn with h | h | ⟨v, rfl⟩ | ⟨v, rfl⟩ <;> first | exact absurd rfl h | rfl | (cases x <;> rfl))) | exact absurd rfl (hp _))
 · cases op <;> first | rfl | (exact absurd (.inl rfl) h) | (exact absurd (.inr rfl) h)
theorem PE {op : BinOp} {xt yt : TypeId} {x y : Operand} {p q : Bool} (ho : o.op = .binOp op xt x y yt) (hop : op = .eql ∨ op = .neq) (ht : PD P xt) (hx : mV K.ET σ x = .u (.c (.v (.bool p)))) (hy : mV K.ET σ y = .u (.c (.v (.bool q))))
    (hd : o.dst = some d) (hn : mX K d = true) : Step P K σ o (put σ d (.u (.c (.v (.bool (if op = .eql then p == q else !(p == q))))))) :=
  iH hd hn rfl (fun a w Fs hs => by
    have e1 := j9 hs hx
    have e2 := j9 hs hy
    refine ⟨_, ?_, .u (.c (.v rfl))⟩
    have h1 : (Op.equal xt (.bool p) (.bool q)).run P w = .ok (p == q) w := q9 (fun n => by simp [Op.equalIn, run_underlying ht, pure])
    rcases hop with rfl | rfl
    · simp [execOp, ho, Sem.run_bind, e1, e2, kF, binOp, h1, pure]
    · simp [execOp, ho, Sem.run_bind, e1, e2, kF, binOp, h1, pure])
theorem KU (t : Option Int) : ∀ z, th ET t ≠ .agg z := by cases t <;> simp [th]
theorem I1 {xt : TypeId} (ht : FN P xt) (he : NU P ET) (t u : Option Int) (w : World) : (Op.equal xt (th ET t) (th ET u)).run P w = .ok (t == u) w := by
 obtain ⟨ms, ht⟩ := ht; obtain ⟨hc, k, hk⟩ := he
 cases hi : P.info? ET with
 | none => simp [hi] at hc
 | some i =>
  have hcc : i.comparable = true := by simpa [hi] using hc
  refine q9 (fun n => ?_); cases t <;> cases u <;> simp only [th] <;> simp [Op.equalIn, run_underlying ht, run_underlying hk, typeInfo, hi, hcc]
theorem kI.KV {tmps : Array Value} {v : Value} {t : Option Int} {F : List Nat} (h : kI ET w R tmps v (.u (.c (.err t))) F) : v = th ET t := by
 cases h with | u h => cases h with | c h => cases h with | err _ => rfl
theorem PF {op : BinOp} {xt yt : TypeId} {x y : Operand} {t u : Option Int} (ho : o.op = .binOp op xt x y yt) (hop : op = .eql ∨ op = .neq) (ht : FN P xt) (he : NU P K.ET) (hx : mV K.ET σ x = .u (.c (.err t))) (hy : mV K.ET σ y = .u (.c (.err u)))
    (hg : t ≠ none ∨ u ≠ none ∨ (∃ v, x = .const v) ∨ ∃ v, y = .const v) (hd : o.dst = some d) (hn : mX K d = true) : Step P K σ o (put σ d (.u (.c (.v (.bool (if op = .eql then t == u else !(t == u))))))) :=
  iH hd hn rfl (fun a w Fs hs => by
    have e1 := (lE hs hx (by simp)).KV
    have e2 := (lE hs hy (by simp)).KV
    refine ⟨_, ?_, .u (.c (.v rfl))⟩
    have hg' : th K.ET t ≠ .nilIface ∨ th K.ET u ≠ .nilIface ∨ (∃ v, x = .const v) ∨ ∃ v, y = .const v := by
     rcases hg with h | h | h
     · exact .inl (by cases t <;> simp_all [th])
     · exact .inr (.inl (by cases u <;> simp_all [th]))
     · exact .inr (.inr h)
    have h1 := I1 (P := P) ht he t u w
    have h2 : ∀ op', op' = BinOp.eql ∨ op' = .neq → (binOp op' xt (th K.ET t) (th K.ET u)).run P w = .ok (.bool (if op' = .eql then t == u else !(t == u))) w := by
     intro op' hop'; rcases hop' with rfl | rfl <;> (cases t <;> cases u <;> simp only [binOp, th] at h1 ⊢ <;> simp [Sem.run_bind, h1, pure])
    simp only [execOp, ho, Sem.run_bind, e1, e2, kF op xt x y _ _ (KU t) hg' w, Result.andThen_ok, h2 op hop, Sem.run_pure])
theorem PG {op : BinOp} {xt yt : TypeId} {x : Operand} {r off : Nat} {s : kG} {p : List (Nat × kG)} (ho : o.op = .binOp op xt x (.const (.pointer none)) yt) (hop : op = .eql ∨ op = .neq) (ht : Q7 P xt) (hx : mV K.ET σ x = .addr r s p off)
    (hd : o.dst = some d) (hn : mX K d = true) : Step P K σ o (put σ d (.u (.c (.v (.bool (if op = .eql then false else true)))))) :=
  iH hd hn rfl (fun a w Fs hs => by
    obtain ⟨e, ht⟩ := ht
    have h := lE hs hx (by simp)
    generalize hv : a.eval x = v at h
    cases h with
    | @addr _ _ b o' _ _ h =>
      refine ⟨_, ?_, .u (.c (.v rfl))⟩
      have hy : a.eval (.const (.pointer none)) = .pointer none := rfl
      have h1 : (Op.equal xt (.pointer (some ⟨b, o' + off, none⟩)) (.pointer none)).run P w = .ok false w := q9 (fun n => by simp [Op.equalIn, run_underlying ht, pure])
      rcases hop with rfl | rfl
      · simp [execOp, ho, Sem.run_bind, hv, hy, kF, binOp, h1, pure]
      · simp [execOp, ho, Sem.run_bind, hv, hy, kF, binOp, h1, pure])
theorem KW {op : BinOp} {xt yt : TypeId} {x : Operand} (ho : o.op = .binOp op xt x (.const (.pointer none)) yt) (hop : op = .eql ∨ op = .neq) (ht : Q7 P xt) (hx : mV K.ET σ x = .u (.c (.v (.pointer none))))
    (hd : o.dst = some d) (hn : mX K d = true) : Step P K σ o (put σ d (.u (.c (.v (.bool (if op = .eql then true else false)))))) :=
  iH hd hn rfl (fun a w Fs hs => by
    obtain ⟨e, ht⟩ := ht
    have hv := j9 hs hx
    refine ⟨_, ?_, .u (.c (.v rfl))⟩
    have hy : a.eval (.const (.pointer none)) = .pointer none := rfl
    have h1 : (Op.equal xt (.pointer none) (.pointer none)).run P w = .ok true w := q9 (fun n => by simp [Op.equalIn, run_underlying ht, pure])
    rcases hop with rfl | rfl
    · simp [execOp, ho, Sem.run_bind, hv, hy, kF, binOp, h1, pure]
    · simp [execOp, ho, Sem.run_bind, hv, hy, kF, binOp, h1, pure])
theorem jG {e : TypeId} {n : Int} {x : Operand} (ho : o.op = .makeInterface e x) (he : NU P e) (hK : K.ET = e) (hx : mV K.ET σ x = .u (.c (.v (.int .i64 n))))
    (hd : o.dst = some d) (hn : mX K d = true) : Step P K σ o (put σ d (.u (.c (.err (some n))))) :=
  iH hd hn rfl (fun a w Fs hs => by
    obtain ⟨_, k, hk⟩ := he
    have hv := j9 hs hx
    refine ⟨th K.ET (some n), ?_, .u (.c (.err _))⟩
    have h1 := run_underlying (P := P) hk w
    subst hK
    simp [execOp, ho, Sem.run_bind, hv, Instr.makeInterface, h1, th, pure])
theorem kI.vals {tmps : Array Value} {v : Value} {cs : List C} {xs : List Value} {F : List Nat} (h : kI ET w R tmps v (.u (.agg cs)) F) (hx : qq cs = some xs) : v = .agg xs.toArray := by
 cases h with
 | u h => cases h with
   | @agg arr _ _ h =>
     have : arr.toList = xs := by
       generalize arr.toList = l at h
       induction cs generalizing l xs F with
       | nil => cases h; simp only [qq, aC] at hx; exact hx
       | cons c cs ih =>
         cases h with
         | @cons x0 _ ys _ F0 G h t =>
           simp only [qq] at hx
           split at hx
           · rename_i y ys' h1 h2
             injection hx with hx
             subst hx
             cases c <;> simp only [NV] at h1 <;> try cases h1
             cases h with
             | v h => rw [ih h2 _ t]
           · cases hx
     rw [← this]
theorem pg {t : TypeId} {i r sz bytes lo n : Nat} {pl : Option (kG × List (Nat × kG) × Nat)} (ho : o.op = .call { callee := .builtin .len, args := #[.tmp i], argTypes := #[t] }) (hu : nS P t sz bytes) (hi : nJ (jA i (σ i)) = some (r, pl, sz, lo, n)) (hd : o.dst = some d) (hn : mX K d = true) : Step P K σ o (put σ d (.u (.c (.v (.int .i64 n))))) :=
  iH hd hn rfl (fun a w Fs hs => by
    obtain ⟨e, inf, hu, _⟩ := hu
    obtain ⟨sv, _, hsub⟩ := ((xz.tmp rfl).rep hs (x := .tmp i)).nJ hi
    generalize hv : a.eval (.tmp i) = v at hsub
    have hv' : ∃ ad c, v = .slice ad n c := by
     rcases hsub with ⟨_, h2, _, h4⟩ | ⟨b, o', L, cap, _, _, _, h4 | ⟨h5, _, _, _, h4⟩⟩
     · subst h4; exact ⟨_, _, h2⟩
     · exact ⟨_, _, h4⟩
     · subst h5; exact ⟨_, _, h4⟩
    obtain ⟨ad, c, rfl⟩ := hv'
    refine ⟨.int .i64 n, ?_, .u (.c (.v rfl))⟩
    simp [execOp, ho, Sem.run_bind, resolve, invoke, builtin, hv, Builtin.len_, run_underlying hu, goInt, pure])
theorem xh {t : TypeId} {i sz bytes : Nat} {own : Bool} {rows : List (List C)} (ho : o.op = .call { callee := .builtin .len, args := #[.tmp i], argTypes := #[t] }) (hu : nS P t sz bytes) (hi : σ i = .u (.c (.sl own sz rows))) (hd : o.dst = some d) (hn : mX K d = true) : Step P K σ o (put σ d (.u (.c (.v (.int .i64 rows.length))))) :=
  iH hd hn rfl (fun a w Fs hs => by
    obtain ⟨e, inf, hu, _⟩ := hu
    have h := hs.rep i
    rw [hi] at h
    generalize hv : a.tmps.getD i undef = v at h
    generalize Fs i = F at h
    have hv' : ∃ ad c, v = .slice ad rows.length c := by
     cases h with
     | u h => cases h with
       | c h => cases h with
         | nil => exact ⟨_, _, rfl⟩
         | sl hb hlen => subst hlen; exact ⟨_, _, rfl⟩
    obtain ⟨ad, c, rfl⟩ := hv'
    refine ⟨.int .i64 rows.length, ?_, .u (.c (.v rfl))⟩
    simp [execOp, ho, Sem.run_bind, resolve, invoke, builtin, kE, hv, Builtin.len_, run_underlying hu, goInt, pure])
end
end Go.Proofs.Ytmjnenjeckeklaa.V
namespace Go.Proofs.Ytmjnenjeckeklaa.V
open Go Go.RowKit
def sw (P : Program) (t : TypeId) (cs : List C) : Prop := ∃ i z, P.info? t = some i ∧ i.zero = some z ∧ ∀ ET w R, ig ET w R z.cells.toList cs []
def rH (P : Program) (t : TypeId) (pl : List (Nat × Nat)) : Prop := ∃ fields, P.underlying t = some (.struct fields) ∧ ∀ w, (fields.mapM (fun f => do pure (f.offset, ← sizeOf f.type) : Field → Sem (Nat × Nat))).run P w = .ok pl.toArray w
def lN : U → List C
  | .c x => [x]
  | .agg cs => cs
  | .fn _ _ => []
def uM : U → Bool
  | .c .dead => false
  | .fn _ _ => false
  | _ => true
inductive Src (K : Ctx) (σ : St) : Operand → U → List Nat → Prop
  | copy {x : Operand} {u : U} (h : mV K.ET σ x = .u u) (hc : uD u = true) (hl : uM u = true) : Src K σ x u []
  | sl (sz : Nat) : Src K σ (.const (.slice none 0 0)) (.c (.sl true sz [])) []
  | move {i : Nat} {u : U} (h : σ i = .u u) (hl : uM u = true) : Src K σ (.tmp i) u [i]
def jb (σ : St) (l : List Nat) : St := fun i => if l.contains i then .junk else σ i
section
variable {P : Program} {ET : TypeId} {w w' : World} {R : Nat → Prop} {K : Ctx} {σ : St} {a : Act} {Fs : Nat → List Nat} {o : Oper} {d : Nat}
theorem iz.rF {x : Value} {c : C} {F : List Nat} (h : iz ET w R x c F) (hc : c ≠ .dead) : x.cells = #[x] ∧ x.oneCell' = true := by
 cases h with
 | v h => cases x <;> first | exact ⟨rfl, rfl⟩ | simp [ot] at h
 | err t => cases t <;> exact ⟨rfl, rfl⟩
 | nil => exact ⟨rfl, rfl⟩
 | sl => exact ⟨rfl, rfl⟩
 | pt => exact ⟨rfl, rfl⟩
 | @x _ q _ h => exact q.one h
 | dead => exact absurd rfl hc
def vD (cs : List C) : Bool := cs.all fun | .dead => false | _ => true
theorem ig.rF {xs : List Value} {cs : List C} {F : List Nat} (h : ig ET w R xs cs F) (hl : vD cs = true) : ∀ x ∈ xs, x.oneCell' = true := by
 induction cs generalizing xs F with
 | nil => cases h; simp
 | cons c cs ih =>
  cases h with
  | cons h t =>
   simp only [vD, cM, ai] at hl; intro x hx; rcases bx.mp hx with rfl | hx
   · exact (h.rF (by rintro rfl; simp at hl)).2
   · exact ih t hl.2 x hx
theorem kY.cells {x : Value} {u : U} {F : List Nat} (h : kY ET w R x u F) (hl : uM u = true) : ig ET w R x.cells.toList (lN u) F := by
 cases h with
 | c h =>
  rw [(h.rF (by rintro rfl; simp [uM] at hl)).1]; have := ig.cons h (.nil (ET := ET) (w := w) (R := R)); simpa [lN] using this
 | agg h => exact h
 | fn h => simp [uM] at hl
theorem jP.o6 (h : jP K σ a w Fs) {d : Nat} {v : Value} {t : T} {F : List Nat} (hd : mX K d = true) (hk : iB w [] w') (hF : ∀ b ∈ F, (∀ j, b ∉ Fs j) ∧ ¬ K.R b ∧ (b ∈ K.E ∨ K.w0.heap.size ≤ b)) (hnd : F.Nodup)
    (ht : kI K.ET w' K.R (a.tmps.setIfInBounds d v) v t F) : jP K (V.put σ d t) (a.put (some d) v) w' (jZ Fs d F) := by
 have hall : ∀ b, b < w.heap.size → w'.heap[b]? = w.heap[b]? := fun b hb => hk.block b hb (by simp); have hlt : ∀ i, ∀ b ∈ Fs i, b < w.heap.size := fun i => (h.rep i).lt; have hRs : ∀ b, K.R b → b < w.heap.size := fun b hb => bp (h.ro b hb).1 h.keeps.size; refine ⟨?_, ?_, ?_, ?_, h.keeps.trans hk (by simp), h.ro, by rw [← h.size]; simp [Act.put], fun i hi => by simp only [Act.put]; rw [p5 (Hx hd hi)]; exact h.pin i hi, h.defers⟩
 · intro i; by_cases hi : i = d
   · subst hi; simp only [V.put, jZ, cB, Act.put]; rw [Bn (by rw [h.size]; exact KS hd)]; exact ht
   · simp only [V.put, jZ, ag hi, Act.put]; rw [p5 hi]; refine (h.rep i).kill.turn (fun b hb => ?_) (fun s p v q => tN hall) (fun ad sv sz lo n v hc _ => (pX (hall _ (yj hc))).trans hc) (fun r hr => p5 (Bl hr)); rcases hb with hb | hb
     · exact hall b (hlt i b hb)
     · exact hall b (hRs b hb)
 · intro i; unfold jZ; split
   · exact hnd
   · exact h.nd i
 · intro i j b hi hj; unfold jZ at hi hj; split at hi <;> split at hj
   · rename_i h1 h2; rw [h1, h2]
   · exact absurd hj ((hF b hi).1 j)
   · exact absurd hi ((hF b hj).1 i)
   · exact h.dis i j b hi hj
 · intro i b hi; unfold jZ at hi; split at hi
   · exact (hF b hi).2
   · exact h.own i b hi
def rG (K : Ctx) (Fs : Nat → List Nat) (F : List Nat) : Prop := F.Nodup ∧ ∀ b ∈ F, (∀ j, b ∉ Fs j) ∧ ¬ K.R b ∧ (b ∈ K.E ∨ K.w0.heap.size ≤ b)
theorem jP.take (hs : jP K σ a w Fs) {x : Operand} {u : U} {l : List Nat} (h : Src K σ x u l) : ∃ F Fs', kY K.ET w K.R (a.eval x) u F ∧ jP K (jb σ l) a w Fs' ∧ rG K Fs' F ∧ (∀ j b, b ∈ Fs' j → b ∈ Fs j) ∧ (∀ b ∈ F, ∃ j, b ∈ Fs j) := by
 cases h with
 | copy h hc hl =>
  have h1 := lE hs h (by simp); refine ⟨[], Fs, ?_, ?_, ⟨bu, by simp⟩, fun _ _ h => h, by simp⟩
  · generalize a.eval x = v at h1; cases h1 with | u h => exact h
  · have : jb σ [] = σ := by funext i; simp [jb]
    rw [this]; exact hs
 | sl sz =>
  refine ⟨[], Fs, .c (.nil true sz), ?_, ⟨bu, by simp⟩, fun _ _ h => h, by simp⟩; have : jb σ [] = σ := by funext i; simp [jb]
  rw [this]; exact hs
 | @move i _ h hl =>
  have h1 := hs.rep i; rw [h] at h1; refine ⟨Fs i, jZ Fs i [], ?_, ?_, ⟨hs.nd i, fun b hb => ⟨fun j hj => ?_, hs.own i b hb⟩⟩, ?_, fun b hb => ⟨i, hb⟩⟩
  · rw [kE]; generalize Fs i = F at h1 ⊢; generalize a.tmps.getD i undef = v at h1 ⊢; cases h1 with | u h => exact h
  · have : jb σ [i] = jN σ i .junk := by funext j; simp [jb, jN]
    rw [this]; exact hs.out i
  · unfold jZ at hj; split at hj
    · cases hj
    · rename_i hne; exact hne (hs.dis j i b hj hb)
  · intro j b hb; unfold jZ at hb; split at hb
    · cases hb
    · exact hb
theorem iB.alloc (w : World) (o : Obj) : iB w [] (w.alloc o) := iB.lF ((Below.refl _ _).alloc (aM _) o) []
theorem lV (w : World) (o : Obj) : (w.alloc o).heap[w.heap.size]? = some o := heap_alloc_new w o
theorem BN (w : World) (o : Obj) {b : Nat} (h : b < w.heap.size) : (w.alloc o).heap[b]? = w.heap[b]? := Below.heap_alloc w o b h
theorem jP.boxed (hs : jP K σ a w Fs) {F : List Nat} (hF : rG K Fs F) {xs : Array Value} {cs : List C} {et : TypeId} (hr : ig K.ET w K.R xs.toList cs F) :
    ig K.ET (w.alloc (.cells xs et)) K.R xs.toList cs F ∧ rG K Fs (w.heap.size :: F) := by
     have hRs : ∀ b, K.R b → b < w.heap.size := fun b hb => bp (hs.ro b hb).1 hs.keeps.size; refine ⟨hr.frame (fun _ h => h) (fun b hb => BN w _ (hb.elim (fun h => hr.lt b h) (hRs b))), ?_, ?_⟩
     · rw [bh]; exact ⟨fun h => bX _ (hr.lt _ h), hF.1⟩
     · intro b hb; rcases bx.mp hb with rfl | hb
       · exact ⟨fun j hj => bX _ ((hs.rep j).lt _ hj), fun hR => bX _ (hRs _ hR), .inr hs.keeps.size⟩
       · exact hF.2 b hb
theorem sV {t : TypeId} {x : Operand} {u : U} {l : List Nat} (ho : o.op = .box t x) (hx : Src K σ x u l) (hd : o.dst = some d) (hn : mX K d = true) : Step P K σ o (put (jb σ l) d (.u (.c (.pt true (lN u))))) := by
 rintro a w ⟨Fs, hs⟩; obtain ⟨F, Fs', hu, hs', hF, _, _⟩ := hs.take hx; have hl : uM u = true := by cases hx <;> first | assumption | rfl
 obtain ⟨h1, h2⟩ := hs'.boxed (et := t) hF (hu.cells hl)
 have hrun : (execOp a.eval o).run P w = .ok (.value (.pointer (some ⟨w.heap.size, 0, none⟩))) (w.alloc (.cells (a.eval x).cells t)) := by
  simp [execOp, ho, Instr.box, newVar, newRow, newObj, Sem.run, pure]
 simp only [Oper.wp, hrun, Oper.upon_value, hd]; exact ⟨_, hs'.o6 hn (iB.alloc w _) h2.2 h2.1 (.u (.c (.pt (lV w _) h1 (.inl ⟨rfl, rfl⟩))))⟩
theorem nM {t : TypeId} {i : TypeInfo} {z : Value} (h : P.info? t = some i) (hz : i.zero = some z) (w : World) : (zeroValue t).run P w = .ok z w := by
 simp [zeroValue, typeInfo, h, hz, pure]
theorem ju {t : TypeId} {cs : List C} (ho : o.op = .alloc t) (hz : sw P t cs) (hd : o.dst = some d) (hn : mX K d = true) : Step P K σ o (put σ d (.u (.c (.pt true cs)))) := by
 rintro a w ⟨Fs, hs⟩; obtain ⟨i, z, h1, h2, h3⟩ := hz; obtain ⟨h4, h5⟩ := hs.boxed (et := t) (F := []) ⟨bu, by simp⟩ (h3 K.ET w K.R)
 have hrun : (execOp a.eval o).run P w = .ok (.value (.pointer (some ⟨w.heap.size, 0, none⟩))) (w.alloc (.cells z.cells t)) := by
  simp [execOp, ho, Instr.alloc, newVar, newRow, newObj, Sem.run, Sem.run_bind, nM h1 h2, pure]
 simp only [Oper.wp, hrun, Oper.upon_value, hd]; exact ⟨_, hs.o6 hn (iB.alloc w _) h5.2 h5.1 (.u (.c (.pt (lV w _) h4 (.inl ⟨rfl, rfl⟩))))⟩
end
end Go.Proofs.Ytmjnenjeckeklaa.V
namespace Go.Proofs.Ytmjnenjeckeklaa.V
open Go Go.RowKit
inductive Ds (K : Ctx) : St → List (Nat × Operand) → List (Nat × U) → St → Prop
  | nil {σ : St} : Ds K σ [] [] σ
  | cons {σ σ' : St} {i : Nat} {x : Operand} {u : U} {l : List Nat} {xs : List (Nat × Operand)} {us : List (Nat × U)} (h : Src K σ x u l) (t : Ds K (jb σ l) xs us σ') : Ds K σ ((i, x) :: xs) ((i, u) :: us) σ'
inductive zR (ET : TypeId) (w : World) (R : Nat → Prop) : List (Nat × Value) → List (Nat × U) → List Nat → Prop
  | nil : zR ET w R [] [] []
  | cons {i : Nat} {x : Value} {u : U} {xs : List (Nat × Value)} {us : List (Nat × U)} {F G : List Nat} (h : kY ET w R x u F) (hl : uM u = true) (t : zR ET w R xs us G) : zR ET w R ((i, x) :: xs) ((i, u) :: us) (F ++ G)
def uC (pl : Nat → Option (Nat × Nat)) (cs : List C) : List (Nat × U) → Option (List C)
  | [] => some cs
  | (i, u) :: rest => match pl i with
    | some (off, n) => if (lN u).length = n ∧ off + n ≤ cs.length then uC pl (cs.take off ++ (lN u ++ cs.drop (off + n))) rest else none
    | none => none
def Db (sz : Nat) : Nat → List C → List (List C)
  | 0, _ => []
  | n + 1, cs => cs.take sz :: Db sz n (cs.drop sz)
section
variable {P : Program} {ET : TypeId} {w w' : World} {R : Nat → Prop} {K : Ctx} {σ : St} {a : Act} {Fs : Nat → List Nat} {o : Oper} {d : Nat}
theorem Src.live {x : Operand} {u : U} {l : List Nat} (h : Src K σ x u l) : uM u = true := by cases h <;> first | assumption | rfl
theorem jP.takes {xs : List (Nat × Operand)} {us : List (Nat × U)} {σ' : St} (h : Ds K σ xs us σ') : ∀ {Fs}, jP K σ a w Fs →
    ∃ F Fs', zR K.ET w K.R (xs.map fun p => (p.1, a.eval p.2)) us F ∧ jP K σ' a w Fs' ∧ rG K Fs' F ∧ (∀ j b, b ∈ Fs' j → b ∈ Fs j) ∧ (∀ b ∈ F, ∃ j, b ∈ Fs j) := by
 induction h with
 | nil => intro Fs hs; exact ⟨[], Fs, .nil, hs, ⟨bu, by simp⟩, fun _ _ h => h, by simp⟩
 | @cons σ σ' i x u l xs us h t ih =>
  intro Fs hs; obtain ⟨F1, vE, hu, hs1, sH, Qa, aao⟩ := hs.take h; obtain ⟨F2, xV, hp, AB, SR, EH, M9⟩ := ih hs1; refine ⟨F1 ++ F2, xV, .cons hu h.live hp, AB, ⟨?_, ?_⟩, fun j b hb => Qa j b (EH j b hb), ?_⟩
  · rw [ax]; refine ⟨sH.1, SR.1, ?_⟩; rintro b wR c hc rfl; obtain ⟨j, hj⟩ := M9 b hc; exact (sH.2 b wR).1 j hj
  · intro b hb; rcases aT.mp hb with hb | hb
    · exact ⟨fun j hj => (sH.2 b hb).1 j (EH j b hj), (sH.2 b hb).2⟩
    · exact SR.2 b hb
  · intro b hb; rcases aT.mp hb with hb | hb
    · exact aao b hb
    · obtain ⟨j, hj⟩ := M9 b hb; exact ⟨j, Qa j b hj⟩
theorem Jy (off : Nat) : ∀ (vs : List Value) (k : Nat) (cells : Array Value), off + k + vs.length ≤ cells.size →
    ((vs.zipIdx k).foldl (fun cs (p : Value × Nat) => cs.setIfInBounds (off + p.2) p.1) cells).toList = cells.toList.take (off + k) ++ (vs ++ cells.toList.drop (off + k + vs.length)) := by
 intro vs
 induction vs with
 | nil => intro k cells _; simp
 | cons v vs ih =>
  intro k cells h; rw [bC] at h; rw [List.zipIdx_cons, List.foldl_cons, ih (k + 1) _ (by rw [er]; omega)]; have e := list_seg_step cells.toList (off + k) v vs (by simp; omega); rw [dB, bC, show off + (k + 1) = off + k + 1 by omega, show off + k + 1 + vs.length = off + k + 1 + vs.length by rfl]; simpa [ef] using e
theorem ig.LY {xs : List Value} {cs ds : List C} {ys : List Value} {F G : List Nat} {off n : Nat} (h : ig ET w R xs cs F) (hd : ig ET w R ys ds G) (hn : ds.length = n) (hle : off + n ≤ cs.length) :
    ∃ F', ig ET w R (xs.take off ++ (ys ++ xs.drop (off + n))) (cs.take off ++ (ds ++ cs.drop (off + n))) F' ∧ ((F ++ G).Nodup → F'.Nodup) ∧ ∀ b ∈ F', b ∈ F ∨ b ∈ G := by
 obtain ⟨ya, yz, F1, F2, e1, e2, ha, hz⟩ := ig.split (cs := cs.take off) (ds := cs.drop off) (by rw [bl]; exact h); obtain ⟨yx, yb, F3, F4, e3, e4, hx, hb⟩ := ig.split (cs := (cs.drop off).take n) (ds := (cs.drop off).drop n) (by rw [bl]; exact hz); have la : ya.length = off := by rw [ha.length, az]; omega
 have lx : yx.length = n := by rw [hx.length, az, aQ]; omega
 have t1 : xs.take off = ya := by rw [e1, ← la, cr]
 have t2 : xs.drop (off + n) = yb := by rw [e1, e3, ← la, ← lx, ← aI, ← aW, cR]
 rw [cG] at hb; refine ⟨F1 ++ (G ++ F4), ?_, ?_, ?_⟩
 · rw [t1, t2]; exact ha.append (hd.append hb)
 · subst e2; subst e4; intro hnd; simp only [ax, aT] at hnd ⊢; obtain ⟨⟨h1, ⟨h2, h3, h4⟩, h5⟩, h6, h7⟩ := hnd; refine ⟨h1, ⟨h6, h3, ?_⟩, ?_⟩
   · intro x hx y hy e; exact h7 y (.inr (.inr hy)) x hx e.symm
   · intro x hx y hy; rcases hy with hy | hy
     · exact h7 x (.inl hx) y hy
     · exact h5 x hx y (.inr hy)
 · subst e2; subst e4; intro b hb; simp only [aT] at hb ⊢; rcases hb with h | h | h
   · exact .inl (.inl h)
   · exact .inr h
   · exact .inl (.inr (.inr h))
theorem zi {pl : Nat → Option (Nat × Nat)} {us : List (Nat × U)} : ∀ {vs : List (Nat × Value)} {cells : Array Value} {cs cs' : List C} {F G : List Nat}, zR ET w R vs us G → ig ET w R cells.toList cs F → (F ++ G).Nodup → uC pl cs us = some cs' →
    ∃ cells' F', Instr.fill pl cells vs = some cells' ∧ ig ET w R cells'.toList cs' F' ∧ F'.Nodup ∧ ∀ b ∈ F', b ∈ F ∨ b ∈ G := by
 induction us with
 | nil =>
  intro vs cells cs cs' F G h hc hnd hf; cases h; simp only [uC, aC] at hf; subst hf; exact ⟨cells, F, rfl, hc, by simpa using hnd, fun b hb => .inl hb⟩
 | cons p us ih =>
  obtain ⟨i, u⟩ := p; intro vs cells cs cs' F G h hc hnd hf
  cases h with
  | @cons _ x _ xs _ F1 G1 hu hl ht =>
   simp only [uC] at hf; split at hf
   · rename_i off n hpl; split at hf
     · rename_i hcond; have hcells := hu.cells hl; have hsz : x.cells.size = n := by have := hcells.length; rw [hcond.1] at this; simpa using this
       have hlen := hc.length; have hle : off + n ≤ cells.size := by have := hcond.2; rw [← hlen] at this; simpa using this
       obtain ⟨F2, hw, ql, EH⟩ := ig.LY hc hcells hcond.1 hcond.2; have hfold := Jy off x.cells.toList 0 cells (by simp; omega)
       have hcat : (F2 ++ G1).Nodup := by
        rw [← aW] at hnd; obtain ⟨n1, n2, n3⟩ := ax.mp hnd; rw [ax]; refine ⟨ql n1, n2, fun b hb c hc => ?_⟩; rcases EH b hb with h | h
        · exact n3 b (an _ h) c hc
        · exact n3 b (ah _ h) c hc
       have Dw : ig ET w R ((x.cells.zipIdx.foldl (fun cs (c, j) => cs.setIfInBounds (off + j) c) cells)).toList (cs.take off ++ (lN u ++ cs.drop (off + n))) F2 := by
        have e : (x.cells.zipIdx.foldl (fun cs (c, j) => cs.setIfInBounds (off + j) c) cells).toList = cells.toList.take off ++ (x.cells.toList ++ cells.toList.drop (off + n)) := by
         rw [← Array.foldl_toList, Array.toList_zipIdx]; rw [show off + 0 = off by rfl] at hfold; rw [show off + x.cells.toList.length = off + n by simp [hsz]] at hfold; exact hfold
        rw [e]; exact hw
       obtain ⟨cells', F', h1, h2, h3, h4⟩ := ih ht Dw hcat hf; refine ⟨cells', F', ?_, h2, h3, fun b hb => ?_⟩
       · simp only [Instr.fill, hpl]; rw [ag (by simp [hsz]; omega)]; exact h1
       · rcases h4 b hb with h | h
         · rcases EH b h with h | h
           · exact .inl h
           · exact .inr (an _ h)
         · exact .inr (ah _ h)
     · cases hf
   · cases hf
theorem mU {t : TypeId} {parts : Array (Nat × Operand)} {us : List (Nat × U)} {pl : List (Nat × Nat)} {zs cs : List C} {σ' : St} (ho : o.op = .build t parts) (hb : rH P t pl) (hz : sw P t zs) (hx : Ds K σ parts.toList us σ') (hf : uC (fun i : Nat => pl[i]?) zs us = some cs)
    (hd : o.dst = some d) (hn : mX K d = true) : Step P K σ o (put σ' d (.u (.agg cs))) := by
 rintro a w ⟨Fs, hs⟩; obtain ⟨F, Fs', hp, hs', hF, _, _⟩ := hs.takes hx; obtain ⟨fields, hu, hpl⟩ := hb; obtain ⟨i, z, h1, h2, h3⟩ := hz; obtain ⟨cells', F', h4, h5, h6, h7⟩ := zi hp (h3 K.ET w K.R) (by simpa using hF.1) hf
 have hrun : (execOp a.eval o).run P w = .ok (.value (.agg cells')) w := by
  have e1 : (parts.map fun p => (p.1, a.eval p.2)).toList = parts.toList.map fun p => (p.1, a.eval p.2) := by simp
  have e2 : (fun i : Nat => pl.toArray[i]?) = fun i : Nat => pl[i]? := by funext i; simp
  simp only [execOp, ho, Instr.build, Sem.run_bind, nM h1 h2, Result.andThen_ok, run_underlying hu]; have := hpl w; rw [this]; simp only [Result.andThen_ok]; rw [e2, show (Array.map (fun x => (x.fst, a.eval x.snd)) parts).toList = _ from e1, h4]; rfl
 simp only [Oper.wp, hrun, Oper.upon_value, hd]; refine ⟨_, hs'.o6 hn (iB.refl w _) (fun b hb => ?_) h6 (.u (.agg h5))⟩; rcases h7 b hb with h | h
 · cases h
 · exact hF.2 b h
theorem OR {sz : Nat} : ∀ (n : Nat) (cs : List C), cs.length = n * sz → (Db sz n cs).flatten = cs ∧ (Db sz n cs).length = n ∧ ∀ r ∈ Db sz n cs, r.length = sz := by
 intro n
 induction n with
 | zero => intro cs h; rw [dH] at h; rw [bB h]; simp [Db]
 | succ n ih =>
  intro cs h; rw [bQ, ei] at h; obtain ⟨h1, h2, h3⟩ := ih (cs.drop sz) (by rw [aQ]; omega); refine ⟨by simp only [Db, cv, h1, bl], by simp only [Db, bC, h2], ?_⟩; intro r hr; simp only [Db, bx] at hr; rcases hr with rfl | hr
  · rw [az]; omega
  · exact h3 r hr
theorem BT (z : Array Value) (n : Nat) : ((Array.range (n * z.size)).map fun i => z[i % z.size]!).toList = (List.replicate n z.toList).flatten := by
 rw [Array.toList_map, Array.toList_range]
 induction n with
 | zero => simp
 | succ n ih =>
  rw [show (n + 1) * z.size = z.size + n * z.size by rw [bQ]; omega, List.range_add, bk, ej, cv, ← ih]; congr 1
  · apply List.ext_getElem
    · simp
    · intro i h1 h2; simp only [ak, dS] at h1; rw [List.getElem_map, List.getElem_range, Nat.mod_eq_of_lt h1]; simp [h1]
  · rw [bW]; apply bY; intro i _; simp [Nat.add_mod_left]
theorem ig.replicate {xs : List Value} {cs : List C} (h : ig ET w R xs cs []) (n : Nat) : ig ET w R (List.replicate n xs).flatten (List.replicate n cs).flatten [] := by
 induction n with
 | zero => exact .nil
 | succ n ih =>
  rw [ej, ej, cv, cv]; have := h.append ih; simpa using this
def mS (P : Program) (t sz bytes : Nat) (zs : List C) : Prop := ∃ e i z, P.underlying t = some (.slice e) ∧ P.info? e = some i ∧ i.size = sz ∧ i.bytes = bytes ∧ 0 < sz ∧ i.zero = some z ∧ z.cells.size = sz ∧ ∀ ET w R, ig ET w R z.cells.toList zs []
theorem kR {t len sz bytes : Nat} {parts : Array (Nat × Operand)} {us : List (Nat × U)} {zs cs : List C} {σ' : St} (ho : o.op = .buildSlice t len parts) (hz : mS P t sz bytes zs) (hx : Ds K σ parts.toList us σ')
    (hf : uC (fun i : Nat => some (i * sz, sz)) (List.replicate len zs).flatten us = some cs) (hlen : len * sz ≤ 16777216) (hd : o.dst = some d) (hn : mX K d = true) : Step P K σ o (put σ' d (.u (.c (.sl true sz (Db sz len cs))))) := by
 rintro a w ⟨Fs, hs⟩; obtain ⟨F, Fs', hp, hs', hF, _, _⟩ := hs.takes hx; obtain ⟨e, i, z, h1, h2, h3, _, h4, h5, h6, h7⟩ := hz; have hzr := ig.replicate (h7 K.ET w K.R) len
 have hrm : ((Array.range (len * sz)).map fun i => z.cells[i % z.cells.size]!).toList = (List.replicate len z.cells.toList).flatten := by
  have := BT z.cells len; rw [h6] at this ⊢; exact this
 obtain ⟨cells', F', k4, k5, k6, k7⟩ := zi (cells := (Array.range (len * sz)).map fun i => z.cells[i % z.cells.size]!) hp (by rw [hrm]; exact hzr) (by simpa using hF.1) hf; have hF' : rG K Fs' F' := ⟨k6, fun b hb => (k7 b hb).elim (fun h => by cases h) (hF.2 b)⟩; obtain ⟨h8, h9⟩ := hs'.boxed (et := e) hF' k5
 have hcl : cs.length = len * sz := by
  have l1 := k5.length
  have l2 : ∀ (us : List (Nat × U)) (c c' : List C), uC (fun i : Nat => some (i * sz, sz)) c us = some c' → c'.length = c.length := by
   intro us
   induction us with
   | nil => intro c c' h; simp only [uC, aC] at h; rw [h]
   | cons p us ih =>
    intro c c' h; simp only [uC] at h; split at h
    · rename_i hc; rw [ih _ _ h]; simp only [aI, az, aQ]; omega
    · cases h
  rw [l2 _ _ _ hf]; have : zs.length = sz := by rw [← (h7 K.ET w K.R).length, bU, h6]
  simp [this]
 obtain ⟨c1, c2, c3⟩ := OR len cs hcl; have hsize : cells'.size = len * sz := by have := k5.length; rw [hcl] at this; simpa using this
 have hrun : (execOp a.eval o).run P w = .ok (.value (.slice (some ⟨w.heap.size, 0, none⟩) len len)) (w.alloc (.cells cells' e)) := by
  have e1 : (parts.map fun p => (p.1, a.eval p.2)).toList = parts.toList.map fun p => (p.1, a.eval p.2) := by simp
  have hsz : (sizeOf e).run P w = .ok sz w := by simp [sizeOf, typeInfo, h2, h3]
  simp only [execOp, ho, Instr.buildSlice, Sem.run_bind, Result.andThen_ok, run_underlying h1, hsz, ag (show ¬ len * sz > 2 ^ 24 by omega)]; by_cases h0 : len * sz = 0
  · rw [aj h0]; have e4 : ((Array.range (len * sz)).map fun x => (#[] : Array Value)[x % (#[] : Array Value).size]!) = (Array.range (len * sz)).map fun i => z.cells[i % z.cells.size]! := by simp [h0]
    simp only [Sem.run_bind, Sem.run_pure, Result.andThen_ok]; rw [e4, show (Array.map (fun x => (x.fst, a.eval x.snd)) parts).toList = _ from e1, k4]; simp [newRow, newObj, Sem.run, pure, Sem.run_bind]
  · rw [ag h0]; simp only [Sem.run_bind, Sem.run_pure, Result.andThen_ok, nM h2 h5]; rw [show (Array.map (fun x => (x.fst, a.eval x.snd)) parts).toList = _ from e1, k4]; simp [newRow, newObj, Sem.run, pure, Sem.run_bind]
 simp only [Oper.wp, hrun, Oper.upon_value, hd]; refine ⟨_, hs'.o6 hn (iB.alloc w _) h9.2 h9.1 (.u (.c (.sl (F := F') (et := (_, (0, 0))) (lV w _) c2 (aM _) h4 (by omega) c3 ?_ (.inl ⟨rfl, rfl⟩) (fun _ => rfl))))⟩; have e5 : (cells'.toList.drop 0).take (len * sz) = cells'.toList := by rw [cl, cP]; simp [hsize]
 rw [c1, e5]; exact h8
theorem wrap_i64 {e : Int} (h0 : -9223372036854775808 ≤ e) (h1 : e ≤ 9223372036854775807) : IntKind.i64.wrap e = e := by
 exact Go.IntWalk.i64_in e ⟨h0, h1⟩
theorem xO {t sz bytes : Nat} {x y : Operand} {zs : List C} {k k2 : IntKind} {e : Int} (ho : o.op = .makeSlice t x y) (hz : mS P t sz bytes zs) (hx : mV K.ET σ x = .u (.c (.v (.int k e)))) (hy : mV K.ET σ y = .u (.c (.v (.int k2 e))))
    (h0 : 0 ≤ e) (h1 : e ≤ 1000000000) (hb : bytes ≤ 100000) (hd : o.dst = some d) (hn : mX K d = true) : Step P K σ o (put σ d (.u (.c (.sl true sz (List.replicate e.toNat zs))))) := by
 rintro a w ⟨Fs, hs⟩; have e1 := j9 hs hx; have e2 := j9 hs hy; obtain ⟨el, i, z, YQ, h2, h3, h3b, h4, h5, h6, h7⟩ := hz; have hzr := ig.replicate (h7 K.ET w K.R) e.toNat
 have hrm : ((Array.range (e.toNat * sz)).map fun i => z.cells[i % z.cells.size]!).toList = (List.replicate e.toNat z.cells.toList).flatten := by
  have := BT z.cells e.toNat; rw [h6] at this ⊢; exact this
 obtain ⟨h8, h9⟩ := hs.boxed (et := el) (F := []) (xs := (Array.range (e.toNat * sz)).map fun i => z.cells[i % z.cells.size]!) ⟨bu, by simp⟩ (by rw [hrm]; exact hzr); have hw : IntKind.i64.wrap e = e := wrap_i64 (by omega) (by omega); have hbe : (bytes : Int) * e ≤ 100000 * 1000000000 := Int.mul_le_mul (by omega) h1 h0 (by omega)
 have hrun : (execOp a.eval o).run P w = .ok (.value (.slice (some ⟨w.heap.size, 0, none⟩) e.toNat e.toNat)) (w.alloc (.cells ((Array.range (e.toNat * sz)).map fun i => z.cells[i % z.cells.size]!) el)) := by
  have hsz : (sizeOf el).run P w = .ok sz w := by simp [sizeOf, typeInfo, h2, h3]
  have hti : (typeInfo el).run P w = .ok i w := by simp [typeInfo, h2]
  have hask : (askRoom (e.toNat * bytes)).run P w = .ok () w := by unfold askRoom; split <;> rfl
  simp only [execOp, ho, e1, e2, Instr.makeSlice, Sem.run_bind, Result.andThen_ok, run_underlying YQ, asInt, asIntOf, Sem.run_pure, hti, h3b, hw]; rw [ag (by simp; omega)]; simp only [Sem.run_bind, hask, Result.andThen_ok, hsz]; by_cases h0 : e.toNat * sz = 0
  · rw [aj h0]; have e4 : ((Array.range (e.toNat * sz)).map fun x => (#[] : Array Value)[x % (#[] : Array Value).size]!) = (Array.range (e.toNat * sz)).map fun i => z.cells[i % z.cells.size]! := by simp [h0]
    simp only [Sem.run_bind, Sem.run_pure, Result.andThen_ok]; rw [e4]; simp [newRow, newObj, Sem.run, pure, Sem.run_bind]
  · rw [ag h0]; simp only [Sem.run_bind, Sem.run_pure, Result.andThen_ok, nM h2 h5]; simp [newRow, newObj, Sem.run, pure, Sem.run_bind]
 simp only [Oper.wp, hrun, Oper.upon_value, hd]; have hzl : zs.length = sz := by rw [← (h7 K.ET w K.R).length, bU, h6]
 refine ⟨_, hs.o6 hn (iB.alloc w _) h9.2 h9.1 (.u (.c (.sl (F := []) (et := (_, (0, 0))) (lV w _) (eM ..) (aM _) h4 ?_ ?_ ?_ (.inl ⟨rfl, rfl⟩) (fun _ => rfl))))⟩
 · simp
 · intro r hr; rw [List.eq_of_mem_replicate hr]; exact hzl
 · rw [cl, cP (by simp)]; rw [hrm] at h8 ⊢; exact h8
end
end Go.Proofs.Ytmjnenjeckeklaa.V
namespace Go.Proofs.Ytmjnenjeckeklaa.V
open Go Go.RowKit
def tX : C → Bool
  | .v x => AX x
  | .err _ => true
  | _ => false
section
variable {P : Program} {ET : TypeId} {w w' : World} {R : Nat → Prop} {K : Ctx} {σ : St} {a : Act} {Fs : Nat → List Nat} {o : Oper} {d : Nat}
theorem tO {w : World} {g : Nat} {cur new : Array Value} {t : TypeId} {fr : Nat × Nat} (h : w.heap[g]? = some (.cells cur t fr)) : (w.setRow g new).heap[g]? = some (.cells new t fr) := setRow_heap w g cur new t fr h
theorem qV {w : World} {g b : Nat} {new : Array Value} (h : b ≠ g) : (w.setRow g new).heap[b]? = w.heap[b]? := by
 simp [World.setRow, eN, dz h]
theorem pJ {w : World} {g : Nat} {new : Array Value} : iB w [g] (w.setRow g new) :=
  ⟨rfl, rfl, rfl, by simp [World.setRow], fun b _ hb => qV (by simpa using hb)⟩
theorem wq {t n : Nat} (ht : (P.info? t).map (·.size) = some n) {b o : Nat} {arr : Array Value} {et : TypeId} {v : Value} (hb : w.heap[b]? = some (.cells arr et (0, 0))) (hn : v.cells.size = n) (hle : o + n ≤ arr.size) (h1 : ∀ x ∈ v.cells.toList, x.oneCell' = true) :
    (Instr.storeAt t (.pointer (some ⟨b, o, none⟩)) v).run P w = .ok () (w.setRow b (arr.toList.take o ++ (v.cells.toList ++ arr.toList.drop (o + n))).toArray) := by
 have h := run_storeCells_at (P := P) b o et v.cells.toList 0 arr w hb (by simp; omega) h1; rw [show o + 0 = o by rfl, show o + v.cells.toList.length = o + n by simp [hn]] at h
 cases hi : P.info? t with
 | none => simp [hi] at ht
 | some i =>
  have hs : i.size = n := by simpa [hi] using ht
  have hsz : (sizeOf t).run P w = .ok n w := by simp [sizeOf, typeInfo, hi, hs]
  rw [aW] at h; simp only [Instr.storeAt, Instr.sureAddr, storeVar, Sem.run_bind, Sem.run_pure, Result.andThen_ok, hsz]; rw [ag (by simp [hn])]; exact h
theorem jP.store_ (hs1 : jP K σ a w Fs) {r off n b2 o2 : Nat} {s : kG} {p : List (Nat × kG)} {c : C} {cs us : List C} {val : Value} {G : List Nat} (Dw : walk w (a.tmps.getD r undef) s p = some (b2, o2)) (hr : σ r = .u (.c c)) (hg : nx c s p = some cs) (hown : uq c s p = true)
    (hu : ig K.ET w K.R val.cells.toList us G) (hG : rG K Fs G) (hn : us.length = n) (hle : off + n ≤ cs.length) :
    ∃ arr et, w.heap[b2]? = some (.cells arr et (0, 0)) ∧ o2 + off + n ≤ arr.size ∧ (∃ Fi, ig K.ET w K.R ((arr.toList.drop o2).take cs.length) cs Fi) ∧ b2 ∈ Fs r ∧
      ∀ w', w' = w.setRow b2 (arr.toList.take (o2 + off) ++ (val.cells.toList ++ arr.toList.drop (o2 + off + n))).toArray →
        ∃ F2, iz K.ET w' K.R (a.tmps.getD r undef) (oE c s p (cs.take off ++ (us ++ cs.drop (off + n)))) F2 ∧ F2.Nodup ∧ (∀ b ∈ F2, b ∈ Fs r ∨ b ∈ G) := by
 have hrep := hs1.rep r; rw [hr] at hrep; have hnd := hs1.nd r; have hownR := hs1.own r; generalize AA : a.tmps.getD r undef = v0 at hrep Dw; have hGd : ∀ b ∈ G, b ∉ Fs r := fun b hb => (hG.2 b hb).1 r; generalize Fs r = Fr at hrep hnd hownR hGd
 cases hrep with
 | u hrep =>
 cases hrep with
 | c hrep =>
  obtain ⟨b, o', arr, et, Fo, Fi, h1, h2, h3, h4, h5, h6, h7⟩ := iz.lens p hrep hnd hg hown; rw [h1] at Dw; injection Dw with Dw; injection Dw with e1 e2; subst e1; subst e2; have hbF : b ∈ Fr := h5.mem_iff.mpr (an _ h6); refine ⟨arr, et, h2, by omega, ⟨Fi, h4⟩, hbF, fun w' hw' => ?_⟩; have ql : (Fo ++ Fi).Nodup := h5.nodup_iff.mp hnd; have hbFi : b ∉ Fi := fun h => (ax.mp ql).2.2 b h6 b h rfl; have hbG : b ∉ G := fun h => hGd b h hbF; have hbR : ¬ K.R b := (hownR b hbF).1; have hsame : ∀ x, x ≠ b → w'.heap[x]? = w.heap[x]? := fun x hx => by rw [hw']; exact qV hx
  have hne : ∀ x, K.R x → x ≠ b := fun x hx e => hbR (e ▸ hx); have h4' : ig K.ET w' K.R ((arr.toList.drop o').take cs.length) cs Fi := h4.frame (fun _ h => h) (fun x hx => hsame x (hx.elim (fun h e => hbFi (e ▸ h)) (hne x))); have hu' : ig K.ET w' K.R val.cells.toList us G := hu.frame (fun _ h => h) (fun x hx => hsame x (hx.elim (fun h e => hbG (e ▸ h)) (hne x))); obtain ⟨Fd, hwin, hndd, hsub⟩ := ig.LY h4' hu' hn hle
  have hFd : Fd.Nodup := hndd (by
   rw [ax]; refine ⟨(ax.mp ql).2.1, hG.1, fun x hx y hy e => ?_⟩; subst e
   exact hGd x hy (h5.mem_iff.mpr (ah _ hx)))
  have hlen : ((arr.toList.drop o').take cs.length).length = cs.length := h4.length; have hval : val.cells.toList.length = n := by rw [hu.length, hn]
  obtain ⟨F2, Tm, hp2⟩ := h7 w' _ _ _ Fd (by simp [hn]; omega) (by rw [hw']; exact tO h2) (by
   simp only [ek]
   have e1 : arr.toList = arr.toList.take o' ++ ((arr.toList.drop o').take cs.length ++ arr.toList.drop (o' + cs.length)) := by
    rw [← cG, bl, bl]
   generalize hW : (arr.toList.drop o').take cs.length = W at e1 hlen; generalize hA : arr.toList.take o' = A at e1; generalize hD : arr.toList.drop (o' + cs.length) = D at e1; have lA : A.length = o' := by rw [← hA, az]; simp; omega
   rw [e1]
   have t1 : (A ++ (W ++ D)).take (o' + off) = A ++ W.take off := by
    rw [← lA, List.take_length_add_append, dg (by omega)]
   have t2 : (A ++ (W ++ D)).drop (o' + off + n) = W.drop (off + n) ++ D := by
    rw [ef, ← lA, List.drop_length_add_append, cJ (by omega)]
   rw [t1, t2]
   simp) (fun x hx hxb => hsame x hxb) (fun x hx => hsame x (hne x hx)) hwin
  refine ⟨F2, Tm, ?_, fun x hx => ?_⟩
  · rw [hp2.nodup_iff, ax]; refine ⟨(ax.mp ql).1, hFd, fun x hx y hy e => ?_⟩; subst e; rcases hsub x hy with h | h
    · exact (ax.mp ql).2.2 x hx x h rfl
    · exact hGd x h (h5.mem_iff.mpr (an _ hx))
  · rcases aT.mp (hp2.mem_iff.mp hx) with h | h
    · exact .inl (h5.mem_iff.mpr (an _ h))
    · rcases hsub x h with h | h
      · exact .inl (h5.mem_iff.mpr (ah _ h))
      · exact .inr h
theorem ig.drop_take {xs : List Value} {cs : List C} {F : List Nat} (h : ig ET w R xs cs F) (off n : Nat) : ∃ G, ig ET w R ((xs.drop off).take n) ((cs.drop off).take n) G := by
 have hl := h.length; rcases Nat.le_total off cs.length with ho | ho
 · obtain ⟨ya, yz, F1, F2, e1, _, ha, hz⟩ := ig.split (cs := cs.take off) (ds := cs.drop off) (by rw [bl]; exact h); have la : ya.length = off := by rw [ha.length, az]; omega
   have t1 : xs.drop off = yz := by rw [e1, ← la, cR]
   obtain ⟨yx, yb, F3, F4, e3, _, hx, hb⟩ := ig.split (cs := (cs.drop off).take n) (ds := (cs.drop off).drop n) (by rw [bl]; exact hz); refine ⟨F3, ?_⟩; rw [t1, e3]; rcases Nat.le_total n (cs.drop off).length with hn | hn
   · have lx : yx.length = n := by rw [hx.length, az]; omega
     rw [← lx, cr, lx]; exact hx
   · have : yb = [] := bB (by rw [hb.length, aQ]; omega); rw [this, bA, cP (by rw [hx.length, az]; omega)]; exact hx
 · rw [eG ho, eG (by omega)]; exact ⟨[], by simpa using ig.nil⟩
theorem ig.scalar {xs : List Value} {cs : List C} {F : List Nat} (h : ig ET w R xs cs F) (hs : cs.all tX = true) : ∀ x ∈ xs, AX x = true := by
 induction cs generalizing xs F with
 | nil => cases h; simp
 | cons c cs ih =>
  cases h with
  | cons h t =>
   simp only [cM, ai] at hs; intro x hx; rcases bx.mp hx with rfl | hx
   · cases h with
     | v h => exact hs.1
     | err t => cases t <;> rfl
     | _ => simp [tX] at hs
   · exact ih t hs.2 x hx
theorem qS {K : Ctx} {σ' : St} (hd : o.dst = none) (h : ∀ a w, rC K σ a w → ∃ w', (execOp a.eval o).run P w = .ok .skip w' ∧ rC K σ' a w') : Step P K σ o σ' := by
 intro a w hs; obtain ⟨w', h1, h2⟩ := h a w hs; simp only [Oper.wp, h1, Oper.upon_skip, hd, Act.put]; exact h2
theorem rE (σ : St) (r : Nat) (x y : T) : jN (jN σ r x) r y = jN σ r y := by funext i; unfold jN; split <;> rfl
theorem jt {t i r off n : Nat} {s : kG} {p : List (Nat × kG)} {c : C} {cs : List C} {x : Operand} {u : U} {l : List Nat} (ho : o.op = .store t (.tmp i) x) (ht : (P.info? t).map (·.size) = some n) (hi : jA i (σ i) = .addr r s p off) (hx : Src K σ x u l) (hr : jb σ l r = .u (.c c)) (hg : nx c s p = some cs)
    (hown : uq c s p = true) (hn : (lN u).length = n) (hle : off + n ≤ cs.length) (hlv : vD (lN u) = true) (hd : o.dst = none) : Step P K σ o (jN (fun j => jq (jb σ l j)) r (.u (.c (oE c s p (cs.take off ++ (lN u ++ cs.drop (off + n))))))) := by
 refine qS hd ?_; rintro a w ⟨Fs, hs⟩; have hal := (xz.tmp hi).rep hs; obtain ⟨G, vE, hu, hs1, hG, _, _⟩ := hs.take hx; have huc := hu.cells hx.live; generalize hv : a.eval (.tmp i) = v at hal
 cases hal with
 | @addr _ _ b2 o2 _ _ Dw =>
 obtain ⟨arr, et, h1, h2, _, h3, h4⟩ := hs1.store_ (n := n) Dw hr hg hown huc hG hn hle; have hcl : (a.eval x).cells.size = n := by have := huc.length; rw [hn] at this; simpa using this
 have hrun := wq (P := P) (v := a.eval x) ht h1 hcl h2 (huc.rF hlv); refine ⟨w.setRow b2 (arr.toList.take (o2 + off) ++ ((a.eval x).cells.toList ++ arr.toList.drop (o2 + off + n))).toArray, by simp only [execOp, ho, hv, Sem.run_bind, hrun, Result.andThen_ok, Sem.run_pure], ?_⟩; obtain ⟨F2, k1, k2, k3⟩ := h4 _ rfl
 have h5 := (hs1.out r).world (E1 := [b2]) (w' := w.setRow b2 (arr.toList.take (o2 + off) ++ ((a.eval x).cells.toList ++ arr.toList.drop (o2 + off + n))).toArray) pJ
   (fun b hb => by rw [aE.mp hb]; exact (hs1.own r b2 h3).2) (fun j b hb e => by
     rw [aE] at e; subst e
     unfold jZ at hb
     split at hb
     · cases hb
     · rename_i hne; exact hne (hs1.dis j r b hb h3)) (fun b hb => by rw [aE.mp hb]; exact (hs1.own r b2 h3).1)
 have h6 := h5.MG (i := r) (t := .u (.c (oE c s p (cs.take off ++ (lN u ++ cs.drop (off + n)))))) (F := F2) (.u (.c k1)) k2 (fun j hj b hb jD => by
  unfold jZ at jD; rw [ag hj] at jD; rcases k3 b hb with h | h
  · exact hj (hs1.dis j r b jD h)
  · exact (hG.2 b h).1 j jD) (fun b hb => (k3 b hb).elim (fun h => hs1.own r b h) (fun h => (hG.2 b h).2))
 have e : (jN (fun j => jq (jN (jb σ l) r T.junk j)) r (.u (.c (oE c s p (cs.take off ++ (lN u ++ cs.drop (off + n))))))) = jN (fun j => jq (jb σ l j)) r (.u (.c (oE c s p (cs.take off ++ (lN u ++ cs.drop (off + n)))))) := by
  funext j; by_cases h : j = r <;> simp [jN, h]
 rw [e] at h6; exact ⟨_, h6⟩
theorem oZ {t i r off n : Nat} {s : kG} {p : List (Nat × kG)} {c : C} {cs us : List C} {x : Operand} {u : U} (ho : o.op = .store t (.tmp i) x) (ht : (P.info? t).map (·.size) = some n) (hi : jA i (σ i) = .addr r s p off) (hx : mV K.ET σ x = .u u) (hc : uD u = true) (hr : σ r = .u (.c c)) (hg : nx c s p = some cs)
    (hown : uq c s p = true) (hu : lN u = us) (hn : us.length = n) (hle : off + n ≤ cs.length) (hlv : vD us = true) (hsc : ((cs.drop off).take n).all tX = true) (hlu : uM u = true) (hd : o.dst = none) : Step P K σ o (jN σ r (.u (.c (oE c s p (cs.take off ++ (us ++ cs.drop (off + n))))))) := by
 subst hu; refine qS hd ?_; rintro a w ⟨Fs, hs⟩; have hal := (xz.tmp hi).rep hs; have hu := lE hs hx (by simp)
 have huc : ig K.ET w K.R (a.eval x).cells.toList (lN u) [] := by
  generalize a.eval x = vx at hu; cases hu with | u h => exact h.cells hlu
 have hG : rG K Fs [] := ⟨bu, by simp⟩; generalize hv : a.eval (.tmp i) = v at hal
 cases hal with
 | @addr _ _ b2 o2 _ _ Dw =>
 obtain ⟨arr, et, h1, h2, ⟨Fi, hwin⟩, h3, h4⟩ := hs.store_ (n := n) Dw hr hg hown huc hG hn hle; have hcl : (a.eval x).cells.size = n := by have := huc.length; rw [hn] at this; simpa using this
 have hrun := wq (P := P) (v := a.eval x) ht h1 hcl h2 (huc.rF hlv); refine ⟨w.setRow b2 (arr.toList.take (o2 + off) ++ ((a.eval x).cells.toList ++ arr.toList.drop (o2 + off + n))).toArray, by simp only [execOp, ho, hv, Sem.run_bind, hrun, Result.andThen_ok, Sem.run_pure], ?_⟩; obtain ⟨F2, k1, k2, k3⟩ := h4 _ rfl
 have h5 := (hs.out r).KT (E1 := [b2]) (w' := w.setRow b2 (arr.toList.take (o2 + off) ++ ((a.eval x).cells.toList ++ arr.toList.drop (o2 + off + n))).toArray) pJ
   (fun b hb => by rw [aE.mp hb]; exact (hs.own r b2 h3).2) (fun j b hb e => by
     rw [aE] at e; subst e
     unfold jZ at hb
     split at hb
     · cases hb
     · rename_i hne; exact hne (hs.dis j r b hb h3)) (fun b hb => by rw [aE.mp hb]; exact (hs.own r b2 h3).1) (fun ad y hy hst => by
     by_cases hb : ad.block = b2
     · obtain ⟨adb, ado, ads⟩ := ad
       simp only at hb
       subst hb
       simp only [World.cell?, h1] at hy
       cases ads with
       | some _ => simp at hy
       | none =>
         simp only [Option.isSome_none, bO, cQ] at hy
         simp only [World.cell?, tO h1, Option.isSome_none, bO, cQ, eO]
         have hvl : (a.eval x).cells.toList.length = n := by simpa using hcl
         by_cases hlo : ado < o2 + off
         · rw [cI (by rw [az]; simp; omega), cL hlo]
           simpa using hy
         · by_cases hhi : ado < o2 + off + n
           · exfalso
             obtain ⟨G2, hsub⟩ := hwin.drop_take off n
             have hmem : y ∈ (((arr.toList.drop o2).take cs.length).drop off).take n := by
               rw [eP]
               refine ⟨ado - (o2 + off), ?_⟩
               rw [cL (by omega), bL, cL (by omega), bL]
               rw [show o2 + (off + (ado - (o2 + off))) = ado by omega]
               simpa using hy
             rw [hsub.scalar hsc y hmem] at hst
             cases hst
           · have hla : (arr.toList.take (o2 + off)).length = o2 + off := by rw [az]; simp; omega
             rw [cC (by omega), cC (by omega), bL, hla, hvl]
             rw [show o2 + off + n + (ado - (o2 + off) - n) = ado by omega]
             simpa using hy
     · rw [pX (qV hb)]; exact hy)
 have h6 := h5.MG (i := r) (t := .u (.c (oE c s p (cs.take off ++ (lN u ++ cs.drop (off + n)))))) (F := F2) (.u (.c k1)) k2 (fun j hj b hb jD => by
  unfold jZ at jD; rw [ag hj] at jD; rcases k3 b hb with h | h
  · exact hj (hs.dis j r b jD h)
  · cases h) (fun b hb => (k3 b hb).elim (fun h => hs.own r b h) (fun h => by cases h))
 rw [rE] at h6; exact ⟨_, h6⟩
end
end Go.Proofs.Ytmjnenjeckeklaa.V
namespace Go.Proofs.Ytmjnenjeckeklaa.V
open Go Go.RowKit
inductive SQ (ET : TypeId) (σ : St) : Option Operand → Option Nat → Prop
  | none : SQ ET σ none none
  | some {x : Operand} {k : IntKind} {e : Int} (h : mV ET σ x = .u (.c (.v (.int k e)))) (h0 : 0 ≤ e) : SQ ET σ (some x) (some e.toNat)
section
variable {P : Program} {ET : TypeId} {w w' : World} {R : Nat → Prop} {K : Ctx} {σ : St} {a : Act} {Fs : Nat → List Nat} {o : Oper} {d : Nat}
theorem tP {x : Value} {k : IntKind} {e : Int} {y : Nat} {code : BoundsCode} (hx : x = .int k e) (h0 : 0 ≤ e) (h1 : e.toNat ≤ y) (w : World) : (Instr.sliceBound x y code).run P w = .ok e.toNat w := by
 subst hx; have : 0 ≤ e ∧ e ≤ (y : Int) := ⟨h0, by omega⟩; simp [Instr.sliceBound, asIntOf, this, pure]
theorem uS {lo hi : Option Operand} {l h : Option Nat} (hs : jP K σ a w Fs) (hl : SQ K.ET σ lo l) (hh : SQ K.ET σ hi h) {len cap : Nat} (hc : len ≤ cap) (h1 : l.getD 0 ≤ h.getD len) (h2 : h.getD len ≤ cap) (w2 : World) :
    (Instr.sliceBounds true len cap (lo.map a.eval) (hi.map a.eval) none).run P w2 = .ok (l.getD 0, h.getD len, cap) w2 := by
 cases hl with
 | none =>
  cases hh with
  | none => simp [Instr.sliceBounds, pure]
  | @some x k e hx h0 =>
   have := tP (P := P) (code := .sliceAcap) (j9 hs hx) h0 (y := cap) (by simpa using h2) w2; simp [Instr.sliceBounds, this, pure]
 | @some x' k' e' hx' h0' =>
  cases hh with
  | none =>
   have := tP (P := P) (code := .sliceB) (j9 hs hx') h0' (y := len) (by simpa using h1) w2; simp [Instr.sliceBounds, this, pure]
  | @some x k e hx h0 =>
   have t1 := tP (P := P) (code := .sliceAcap) (j9 hs hx) h0 (y := cap) (by simpa using h2) w2; have t2 := tP (P := P) (code := .sliceB) (j9 hs hx') h0' (y := e.toNat) (by simpa using h1) w2; simp [Instr.sliceBounds, t1, t2, pure]
theorem sW {t sz bytes : Nat} (hu : nS P t sz bytes) {ad : Option Addr} {len cap l h : Nat} {lo hi : Option Value} {w : World} (hb : (Instr.sliceBounds true len cap lo hi none).run P w = .ok (l, h, cap) w) :
    (Instr.sliceAt t (.slice ad len cap) lo hi none).run P w = .ok (.slice (if cap = l then ad else ad.map (·.add (l * sz))) (h - l) (cap - l)) w := by
 obtain ⟨e, i, hu, hi', hsz, _, _⟩ := hu; have hs : (sizeOf e).run P w = .ok sz w := by simp [sizeOf, typeInfo, hi', hsz]
 simp only [Instr.sliceAt, Sem.run_bind, run_underlying hu, Result.andThen_ok, Instr.slice, hb, hs, Sem.run_pure]
theorem Dq {t i r sz bytes lo n l' h' : Nat} {pl : Option (kG × List (Nat × kG) × Nat)} {lx hx : Option Operand} {l h : Option Nat} (ho : o.op = .slice t (.tmp i) lx hx none) (hu : nS P t sz bytes) (hi : nJ (jA i (σ i)) = some (r, pl, sz, lo, n)) (hl : SQ K.ET σ lx l) (hh : SQ K.ET σ hx h)
    (e1 : l.getD 0 = l') (e2 : h.getD n = h') (h1 : l' ≤ h') (h2 : h' ≤ n) (hd : o.dst = some d) (hn : mX K d = true) (hrd : (r == d) = false) : Step P K σ o (put σ d (.view r pl sz (lo + l') (h' - l'))) :=
  iH hd hn hrd (fun a w Fs hs => by
    obtain ⟨sv, hsl, hsub⟩ := ((xz.tmp rfl).rep hs (x := .tmp i)).nJ hi
    generalize hev : a.eval (.tmp i) = v at hsub
    · rcases hsub with ⟨rfl, rfl, rfl, rfl⟩ | ⟨b, o', L, cap, rfl, hcap, hlo, hv⟩
      · have : l' = 0 ∧ h' = 0 := by omega
        obtain ⟨rfl, rfl⟩ := this
        have hb := uS (P := P) hs hl hh (len := 0) (cap := 0) (aM _) (by omega) (by omega) w
        rw [e1, e2] at hb
        refine ⟨.slice none 0 0, ?_, .view hsl (.inl ⟨rfl, rfl, rfl, rfl⟩)⟩
        have := sW hu (ad := none) hb
        simp only [execOp, ho, hev, Sem.run_bind, eV, this, Result.andThen_ok, Sem.run_pure]
        simp
      · rcases hv with rfl | ⟨hn0, hlc, o2, AZ, rfl⟩
        · have hb := uS (P := P) hs hl hh (len := n) (cap := cap - lo) (by omega) (by omega) (by omega) w
          rw [e1, e2] at hb
          have hrun := sW hu (ad := some ⟨b, o' + lo * sz, none⟩) hb
          by_cases hc : cap - lo = l'
          · refine ⟨.slice (some ⟨b, o' + lo * sz, none⟩) (h' - l') 0, ?_, .view hsl (.inr ⟨b, o', L, cap, rfl, hcap, by omega, .inr ⟨by omega, by omega, o' + lo * sz, by rw [bQ]; omega, ?_⟩⟩)⟩
            · rw [aj hc, show cap - lo - l' = 0 by omega] at hrun
              simp only [execOp, ho, hev, Sem.run_bind, eV, hrun, Result.andThen_ok, Sem.run_pure]
            · rw [show h' - l' = 0 by omega]
          · refine ⟨.slice (some ⟨b, o' + (lo + l') * sz, none⟩) (h' - l') (cap - (lo + l')), ?_, .view hsl (.inr ⟨b, o', L, cap, rfl, hcap, by omega, .inl rfl⟩)⟩
            rw [ag hc] at hrun
            simp only [execOp, ho, hev, Sem.run_bind, eV, hrun, Result.andThen_ok, Sem.run_pure, ct, Addr.add_mid]
            rw [bQ, ef, Nat.sub_sub]
        · subst hn0
          have : l' = 0 ∧ h' = 0 := by omega
          obtain ⟨rfl, rfl⟩ := this
          have hb := uS (P := P) hs hl hh (len := 0) (cap := 0) (aM _) (by omega) (by omega) w
          rw [e1, e2] at hb
          have hrun := sW hu (ad := some ⟨b, o2, none⟩) hb
          refine ⟨.slice (some ⟨b, o2, none⟩) 0 0, ?_, .view hsl (.inr ⟨b, o', L, cap, rfl, hcap, by omega, .inr ⟨rfl, by omega, o2, by simpa using AZ, rfl⟩⟩)⟩
          simp only [execOp, ho, hev, Sem.run_bind, eV, hrun, Result.andThen_ok, Sem.run_pure]
          simp)
def qY (K : Ctx) (Fs : Nat → List Nat) : Nat → Prop := fun b => K.R b ∨ ∃ j, b ∈ Fs j
def mQ (ET : TypeId) (w : World) (R S : Nat → Prop) (v : Value) (sz : Nat) (rows : List (List C)) (F : List Nat) : Prop :=
  (v = .slice none 0 0 ∧ rows = []) ∨
  ∃ b off cap arr, ∃ et : TypeId × Nat × Nat, v = .slice (some ⟨b, off, none⟩) rows.length cap ∧ w.heap[b]? = some (.cells arr et.1 et.2) ∧ off + rows.length * sz ≤ arr.size ∧ off + cap * sz ≤ arr.size ∧ rows.length ≤ cap ∧ (∀ r ∈ rows, r.length = sz) ∧ ig ET w R ((arr.toList.drop off).take (rows.length * sz)) rows.flatten F ∧ 0 < sz ∧ S b
inductive Rows (K : Ctx) (σ : St) (sz : Nat) : Operand → List (List C) → Prop
  | nil : Rows K σ sz (.const (.slice none 0 0)) []
  | u {i : Nat} {own : Bool} {rows : List (List C)} (h : σ i = .u (.c (.sl own sz rows))) : Rows K σ sz (.tmp i) rows
  | v0 {i r lo n : Nat} {own : Bool} {rows gV : List (List C)} (h : nJ (jA i (σ i)) = some (r, none, sz, lo, n)) (hr : σ r = .u (.c (.sl own sz rows))) (e : (rows.drop lo).take n = gV) : Rows K σ sz (.tmp i) gV
  | v1 {i r lo n off : Nat} {s : kG} {p : List (Nat × kG)} {c : C} {cs : List C} {own : Bool} {rows gV : List (List C)} (h : nJ (jA i (σ i)) = some (r, some (s, p, off), sz, lo, n)) (hr : σ r = .u (.c c)) (hg : nx c s p = some cs) (hc : cs[off]? = some (.sl own sz rows)) (e : (rows.drop lo).take n = gV) : Rows K σ sz (.tmp i) gV
  | sem {x : Operand} {rows : List (List C)} (h : ∀ a w Fs, jP K σ a w Fs → ∃ G, mQ K.ET w K.R (qY K Fs) (a.eval x) sz rows G) : Rows K σ sz x rows
theorem iz.xA {S : Nat → Prop} {v : Value} {own : Bool} {sz : Nat} {rows : List (List C)} {F : List Nat} (h : iz ET w R v (.sl own sz rows) F) (hF : ∀ b ∈ F, S b) (hR : ∀ b, R b → S b) : ∃ G, mQ ET w R S v sz rows G := by
 cases h with
 | nil => exact ⟨[], .inl ⟨rfl, rfl⟩⟩
 | @sl b off len cap _ _ arr et _ F1 F' hb hlen hcap hsz hfit hrow hrep ho =>
  subst hlen; have := bg sz hcap; exact ⟨F1, .inr ⟨b, off, cap, arr, et, rfl, hb, by omega, hfit, hcap, hrow, hrep, hsz, ho.mem.elim (hF b) (hR b)⟩⟩
theorem mQ.sub {S : Nat → Prop} {sv v : Value} {sz lo n : Nat} {rows : List (List C)} {F : List Nat} (h : mQ ET w R S sv sz rows F) (hs : AW sz sv lo n v) : ∃ G, mQ ET w R S v sz ((rows.drop lo).take n) G := by
 rcases hs with ⟨rfl, rfl, rfl, rfl⟩ | ⟨b, o', L, cap, rfl, hcap, hlo, hv⟩
 · exact ⟨[], .inl ⟨rfl, by simp⟩⟩
 · rcases h with ⟨h, _⟩ | ⟨b2, off, uR, arr, et, h, hb, h1, h2, h3, hrow, hrep, hsz, hS⟩
   · cases h
   · injection h with e1 e2 e3; injection e1 with e1; injection e1 with e1 e1b; subst e1; subst e1b; subst e2; subst e3; have hlen : ((rows.drop lo).take n).length = n := by rw [az, aQ]; omega
     have hrow' : ∀ r ∈ (rows.drop lo).take n, r.length = sz := fun r hr => hrow r (eU (dZ hr))
     have hfl : ((rows.drop lo).take n).flatten = (rows.flatten.drop (lo * sz)).take (n * sz) := by
      have e1 : rows.flatten = (rows.take lo).flatten ++ (((rows.drop lo).take n).flatten ++ ((rows.drop lo).drop n).flatten) := by
       rw [← cN, bl, ← cN, bl]
      have l1 : (rows.take lo).flatten.length = lo * sz := by rw [lH (fun r hr => hrow r (dZ hr)), az, cj (by omega)]
      have l2 : ((rows.drop lo).take n).flatten.length = n * sz := by rw [lH hrow', hlen]
      rw [e1, ← l1, cR, ← l2, cr]
     have hmul : lo * sz + n * sz ≤ rows.length * sz := by rw [← bQ]; exact bg _ (by omega)
     obtain ⟨G, hG⟩ := hrep.drop_take (lo * sz) (n * sz)
     have hwin : (((arr.toList.drop o').take (rows.length * sz)).drop (lo * sz)).take (n * sz) = (arr.toList.drop (o' + lo * sz)).take (n * sz) := by
      rw [dG, cG, dW, cj (by omega)]
     rw [hwin, ← hfl] at hG; rcases hv with rfl | ⟨hn0, hlc, o2, AZ, rfl⟩
     · refine ⟨G, .inr ⟨b, o' + lo * sz, cap - lo, arr, et, by rw [hlen], hb, by rw [hlen]; omega, ?_, by rw [hlen]; omega, hrow', by rw [hlen]; exact hG, hsz, hS⟩⟩; have : lo * sz + (cap - lo) * sz = cap * sz := by rw [← bQ]; congr 1; omega
       omega
     · subst hn0; refine ⟨[], .inr ⟨b, o2, 0, arr, et, by simp, hb, ?_, ?_, by simp, by simp, by simpa using ig.nil, hsz, hS⟩⟩
       · simp; omega
       · simp; omega
theorem Rows.xA {x : Operand} {sz : Nat} {rows : List (List C)} (h : Rows K σ sz x rows) (hs : jP K σ a w Fs) : ∃ G, mQ K.ET w K.R (qY K Fs) (a.eval x) sz rows G := by
 cases h with
 | sem h => exact h a w Fs hs
 | nil => exact ⟨[], .inl ⟨rfl, rfl⟩⟩
 | @u i own _ h =>
  have h1 := hs.rep i; rw [h] at h1; rw [kE]; generalize a.tmps.getD i undef = v at h1; generalize hF : Fs i = F at h1; cases h1 with | u h1 => cases h1 with | c h1 => exact h1.xA (fun b hb => .inr ⟨i, by rw [hF]; exact hb⟩) (fun b hb => .inl hb)
 | @v0 i r lo n own rows _ h hr e =>
  subst e; obtain ⟨sv, hsl, hsub⟩ := ((xz.tmp rfl).rep hs (x := .tmp i)).nJ h; have h2 := hs.rep r; rw [hr] at h2; generalize hv : a.eval (.tmp i) = v at hsub
  · simp only [nI, aC] at hsl; rw [hsl] at h2; generalize hF : Fs r = F at h2
    cases h2 with | u h2 => cases h2 with | c h2 =>
     obtain ⟨G, hG⟩ := h2.xA (S := qY K Fs) (fun b hb => .inr ⟨r, by rw [hF]; exact hb⟩) (fun b hb => .inl hb); exact hG.sub hsub
 | @v1 i r lo n off s p c cs own rows _ h hr hg hc e =>
  subst e; obtain ⟨sv, hsl, hsub⟩ := ((xz.tmp rfl).rep hs (x := .tmp i)).nJ h; have h2 := hs.rep r; rw [hr] at h2; generalize hv : a.eval (.tmp i) = v at hsub
  · simp only [nI, aJ] at hsl; obtain ⟨⟨b2, o2⟩, k1, k2⟩ := hsl; generalize hF : Fs r = F at h2; generalize a.tmps.getD r undef = v0 at h2 k1
    cases h2 with | u h2 => cases h2 with | c h2 =>
     obtain ⟨b3, o3, arr, et, Fi, h3, h4, h5, h6, Ts, _⟩ := iz.read p h2 hg; rw [h3] at k1; injection k1 with k1; injection k1 with e1 e2; subst e1; subst e2; obtain ⟨y, F1, Fj, F2, hy, eF, hrx, _⟩ := h6.at_ hc; have hcell := kT h4 hy; rw [hcell] at k2; injection k2 with k2; subst k2; obtain ⟨G, hG⟩ := hrx.xA (S := qY K Fs) (fun b hb => .inr ⟨r, by rw [hF]; exact Ts b (by rw [eF]; exact ah _ (an _ hb))⟩) (fun b hb => .inl hb); exact hG.sub hsub
end
end Go.Proofs.Ytmjnenjeckeklaa.V
namespace Go.Proofs.Ytmjnenjeckeklaa.V
open Go Go.RowKit
section
variable {P : Program} {ET : TypeId} {w w' : World} {R : Nat → Prop} {K : Ctx} {σ : St} {a : Act} {Fs : Nat → List Nat} {o : Oper} {d : Nat}
theorem sO {t ty e : TypeId} {i : TypeInfo} (ht : P.underlying t = some (.slice e)) (hi : P.info? e = some i) {base ya : Option Addr} {len cap c : Nat} (hc : len ≤ cap) :
    (Builtin.append_ #[t, t] ty #[.slice base len cap, .slice ya 0 c]).run P w = .ok (.slice base len cap) w := by
 cases ya <;> cases base <;> simp [Builtin.append_, run_underlying ht, sizeOf, typeInfo, hi, Builtin.lenOf, hc, Builtin.firstCells, loadCells, loadCellsFrom, storeCells, pure]
theorem sQ {b off n : Nat} {arr : Array Value} {et : TypeId} {fz : Nat × Nat} (hb : w.heap[b]? = some (.cells arr et fz)) : ∀ j v, ((arr.toList.drop off).take n)[j]? = some v → w.cell? ((⟨b, off, none⟩ : Addr).add j) = some v := by
 intro j v hv; rw [Addr.add_mid]; exact kT hb hv
theorem yf (z : Array Value) (n : Nat) : (Builtin.zeroCells z n).size = n * z.size := by simp [Builtin.zeroCells]
theorem pY (w : World) (E : List Nat) : iB w E w.drew := ⟨rfl, rfl, rfl, aM _, fun _ _ _ => rfl⟩
theorem iz.grown {w w1 : World} {rows gV : List (List C)} {sz nc : Nat} {olds news : List Value} {z : Array Value} {et : TypeId} {F G : List Nat} (ho : ig ET w R olds rows.flatten F) (hn : ig ET w R news gV.flatten G) (hrow : ∀ r ∈ rows ++ gV, r.length = sz) (hsz : 0 < sz) (hz : z.size = sz)
    (hcap : rows.length + gV.length ≤ nc) (hw : w1 = w.drew.alloc (.cells (olds.toArray ++ news.toArray ++ Builtin.zeroCells z (nc - (rows.length + gV.length))) et)) (hlt : ∀ b, R b → b < w.heap.size) :
    iz ET w1 R (.slice (some ⟨w.heap.size, 0, none⟩) (rows.length + gV.length) nc) (.sl true sz (rows ++ gV)) (w.heap.size :: (F ++ G)) := by
     subst hw; have lo : olds.length = rows.length * sz := by rw [ho.length, lH (fun r hr => hrow r (an _ hr))]
     have ln : news.length = gV.length * sz := by rw [hn.length, lH (fun r hr => hrow r (ah _ hr))]
     have hfr : ∀ b, b < w.heap.size → (w.drew.alloc (.cells (olds.toArray ++ news.toArray ++ Builtin.zeroCells z (nc - (rows.length + gV.length))) et)).heap[b]? = w.heap[b]? := fun b hb => BN w.drew _ hb; refine .sl (F := F ++ G) (et := (et, (0, 0))) (lV w.drew _) (by simp) hcap hsz ?_ hrow ?_ (.inl ⟨rfl, rfl⟩) (fun _ => rfl)
     · simp only [Array.size_append, dV, yf, hz, lo, ln, aG]; rw [← bQ, ← bQ]; exact bg _ (by omega)
     · have e : ((olds.toArray ++ news.toArray ++ Builtin.zeroCells z (nc - (rows.length + gV.length))).toList.drop 0).take ((rows.length + gV.length) * sz) = olds ++ news := by
        simp only [Array.toList_append, cl]; rw [show (rows.length + gV.length) * sz = (olds ++ news).length by rw [aI, lo, ln, bQ]]; exact cr
       rw [e, cN]; exact (ho.frame (fun _ h => h) (fun b hb => hfr b (hb.elim (ho.lt b) (hlt b)))).append (hn.frame (fun _ h => h) (fun b hb => hfr b (hb.elim (hn.lt b) (hlt b))))
theorem sR {n b : Nat} (h : n ≤ 1000000) (hb : b ≤ 100000) : n * b ≤ 140737488355328 := bR (Nat.mul_le_mul h hb) (by decide)
theorem vL {rows : List (List C)} (h : ∀ r ∈ rows, r.all lR = true) : rows.flatten.all lR = true := by
 rw [aV]; intro x hx; obtain ⟨r, hr, hxr⟩ := fy.mp hx; exact aV.mp (h r hr) x hxr
theorem EE {xs : List Value} {cs : List C} {F : List Nat} (h : ig ET w R xs cs F) (hc : cs.all lR = true) : ∀ x ∈ xs, x.oneCell' = true := by
 refine h.rF ?_; unfold vD; rw [aV] at hc ⊢; intro c hc'; have := hc c hc'; cases c <;> first | rfl | cases this
theorem GL {t ty sz bytes : Nat} {zs : List C} (hz : mS P t sz bytes zs) {vx vy : Value} {rows gV : List (List C)} {F G : List Nat} (hx : iz ET w R vx (.sl true sz rows) F) (hnd : F.Nodup) (hR : ∀ b ∈ F, ¬ R b) (hlt : ∀ b, R b → b < w.heap.size) {S : Nat → Prop} (hy : mQ ET w R S vy sz gV G) (hcp : ∀ r ∈ gV, r.all lR = true)
    (hlen : rows.length + gV.length ≤ 1000000) (hby : bytes ≤ 100000) :
    ∃ v w1 F1, (Builtin.append_ #[t, t] ty #[vx, vy]).run P w = .ok v w1 ∧ iz ET w1 R v (.sl true sz (rows ++ gV)) F1 ∧ F1.Nodup ∧ (∀ b ∈ F1, b ∈ F ∨ w.heap.size ≤ b) ∧ ∃ E1, iB w E1 w1 ∧ ∀ b ∈ E1, b ∈ F := by
 obtain ⟨e, i, z, h1, h2, h3, h3b, h4, h5, h6, h7⟩ := hz; have hzs : z.cells.size = i.size := by omega
 by_cases hn : gV.length = 0
 · have yl : gV = [] := bB hn; subst yl
   obtain ⟨ad, c, hv⟩ : ∃ ad c, vy = .slice ad 0 c := by
    rcases hy with ⟨rfl, _⟩ | ⟨b, off, cap, arr, et, rfl, _⟩
    · exact ⟨_, _, rfl⟩
    · exact ⟨_, _, rfl⟩
   subst hv; rw [bA]
   obtain ⟨ad2, Tk, uR, Tl, Tm⟩ : ∃ ad len cap, vx = .slice ad len cap ∧ len ≤ cap := by
    cases hx with
    | nil => exact ⟨_, _, _, rfl, aM _⟩
    | sl _ _ hcap => exact ⟨_, _, _, rfl, hcap⟩
   subst Tl; exact ⟨_, w, F, sO h1 h2 Tm, hx, hnd, fun b hb => .inl hb, [], iB.refl _ _, by simp⟩
 · rcases hy with ⟨_, h⟩ | ⟨b2, off2, uR, vI, MZ, rfl, jD, k1, k2, k3, sP, lG, _, _⟩
   · subst h; simp at hn
   have hG : G = [] := lG.copy (vL hcp); subst hG; generalize hnews : (vI.toList.drop off2).take (gV.length * sz) = news at lG; have hnl : news.length = gV.length * i.size := by rw [lG.length, lH sP, h3]
   have hnc : ∀ j v, news[j]? = some v → w.cell? ((⟨b2, off2, none⟩ : Addr).add j) = some v := by rw [← hnews]; exact sQ jD
   cases hx with
   | nil =>
    have hrun := Go.run_append_nil w t ty e i z h1 h2 h5 ⟨b2, off2, none⟩ gV.length uR news hnl hnc (by omega) (by omega) (by
     have := sR (n := gV.length) (by simp at hlen; omega) hby
     rw [← h3b] at this; omega)
    have hg := iz.grown (w := w) (w1 := w.drew.alloc (.cells (news.toArray ++ Builtin.zeroCells z.cells (grownCap w gV.length 0 e - gV.length)) e)) (rows := []) (gV := gV) (sz := sz) (nc := grownCap w gV.length 0 e) (olds := []) (z := z.cells) (et := e) .nil lG (by simpa using sP) h4 h6
      (by simpa using grownCap_ge w gV.length 0 e) (by simp) hlt
    simp only [cW, aG, cn, bA] at hg; refine ⟨_, _, _, hrun, hg, by simp, fun b hb => .inr (by rw [aE.mp hb]; exact aM _), [], (pY w []).trans (iB.alloc _ _) (by simp), by simp⟩
   | @sl b off len cap _ _ arr et _ F1 F' hb hl hcap hsz hfit hrow hrep ho hz =>
    rcases ho with ⟨_, rfl⟩ | ⟨h, _⟩
    case inr => cases h
    subst hl; have holdl : ((arr.toList.drop off).take (rows.length * sz)).length = rows.length * i.size := by rw [hrep.length, lH hrow, h3]
    have hrows : ∀ r ∈ rows ++ gV, r.length = sz := fun r hr => (aT.mp hr).elim (hrow r) (sP r); have hmul := bg sz hcap; by_cases hroom : rows.length + gV.length ≤ cap
    · have J5 := bg sz hroom; rw [bQ] at J5; have B4 : news.length = gV.length * sz := by rw [hnl, h3]
      have hst := run_storeCells_at (P := P) b (off + rows.length * sz) et.1 news 0 arr w (by rw [← hz rfl]; exact hb) (by rw [B4]; omega) (EE lG (vL hcp)); rw [show off + rows.length * sz + 0 = off + rows.length * sz by rfl, B4] at hst; have hfc := run_firstCells_some (P := P) w i.size gV.length ⟨b2, off2, none⟩ gV.length uR news hnl hnc; rw [h3] at hfc; generalize hw' : w.setRow b ((arr.toList.take (off + rows.length * sz) ++ news ++ arr.toList.drop (off + rows.length * sz + gV.length * sz))).toArray = w' at hst; have hadd : (⟨b, off, none⟩ : Addr).add (rows.length * sz) = ⟨b, off + rows.length * sz, none⟩ := Addr.add_mid b off _
      have hrun : (Builtin.append_ #[t, t] ty #[.slice (some ⟨b, off, none⟩) rows.length cap, .slice (some ⟨b2, off2, none⟩) gV.length uR]).run P w = .ok (.slice (some ⟨b, off, none⟩) (rows.length + gV.length) cap) w' := by
       simp [Builtin.append_, run_underlying h1, sizeOf, typeInfo, h2, h3, Builtin.lenOf, hroom, hfc, hadd, hst, pure]
      have hbF : b ∈ b :: F1 := aN ..; have hsame : ∀ x, x ≠ b → w'.heap[x]? = w.heap[x]? := fun x hx => by rw [← hw']; exact qV hx
      have hnb : b ∉ F1 := (bh.mp hnd).1; refine ⟨_, w', b :: (F1 ++ []), hrun, .sl (rows := rows ++ gV) (et := et) (by rw [← hw']; exact tO hb) (by simp) hroom hsz ?_ hrows ?_ (.inl ⟨rfl, rfl⟩) hz, by rw [bA]; exact hnd, fun x hx => .inl (by rw [bA] at hx; exact hx), [b], by rw [← hw']; exact pJ, fun x hx => by rw [aE.mp hx]; exact hbF⟩
      · simp only [dV, aI, az, aQ, B4, bU]; omega
      · have e1 : ((arr.toList.take (off + rows.length * sz) ++ news ++ arr.toList.drop (off + rows.length * sz + gV.length * sz)).toArray.toList.drop off).take ((rows.length + gV.length) * sz) = (arr.toList.drop off).take (rows.length * sz) ++ news := by
         simp only [ek]; rw [aW, cJ (by rw [az]; simp; omega), dG, ez, ← aW]; rw [show (rows.length + gV.length) * sz = ((arr.toList.drop off).take (rows.length * sz) ++ news).length by rw [aI, holdl, B4, h3, bQ], cr]
        rw [e1, cN]; refine (hrep.frame (fun _ h => h) (fun x hx => hsame x ?_)).append (lG.frame (fun _ h => h) (fun x hx => hsame x ?_))
        · rintro rfl; exact hx.elim hnb (fun h => hR x hbF h)
        · rintro rfl; exact hx.elim (fun h => by cases h) (fun h => hR x hbF h)
    · have hgr : cap < rows.length + gV.length := by omega
      have hrun := Go.run_append_grow w t ty e i z h1 h2 h5 ⟨b, off, none⟩ rows.length cap _ holdl (sQ hb) ⟨b2, off2, none⟩ gV.length uR news hnl hnc hgr (by omega) (growslice_fits hgr (by rw [h3b]; exact sR hlen hby)); have hg := iz.grown (w := w) (rows := rows) (gV := gV) (sz := sz) (nc := grownCap w (rows.length + gV.length) cap e) (z := z.cells) (et := e) hrep lG hrows h4 h6 (grownCap_ge w _ cap e) rfl hlt; refine ⟨_, _, _, hrun, hg, ?_, fun x hx => ?_, [], (pY w []).trans (iB.alloc _ _) (by simp), by simp⟩
      · rw [bA, bh]; exact ⟨fun h => bX _ (hrep.lt _ h), (bh.mp hnd).2⟩
      · rw [bA] at hx; rcases bx.mp hx with rfl | hx
        · exact .inr (aM _)
        · exact .inl (aU _ hx)
theorem Ld {t sz bytes : Nat} {zs : List C} {x y : Operand} {rows gV : List (List C)} {l : List Nat} (ho : o.op = .call { callee := .builtin .append, args := #[x, y], argTypes := #[t, t] }) (hz : mS P t sz bytes zs) (hx : Src K σ x (.c (.sl true sz rows)) l) (hy : Rows K (jb σ l) sz y gV)
    (hcp : ∀ r ∈ gV, r.all lR = true) (hlen : rows.length + gV.length ≤ 1000000) (hby : bytes ≤ 100000) (hd : o.dst = some d) (hn : mX K d = true) : Step P K σ o (put (fun j => jq (jb σ l j)) d (.u (.c (.sl true sz (rows ++ gV))))) := by
 rintro a w ⟨Fs, hs⟩; obtain ⟨F, vE, hu, hs1, hF, _, _⟩ := hs.take hx; obtain ⟨G, hsh⟩ := hy.xA hs1; generalize hvx : a.eval x = vx at hu
 cases hu with
 | c hc =>
  obtain ⟨v, w1, F1, hrun, hrep, BW, hsub, E1, hk, hE⟩ := GL (P := P) (t := t) (ty := o.type) hz hc hF.1 (fun b hb => (hF.2 b hb).2.1) (fun b hb => bp (hs1.ro b hb).1 hs1.keeps.size) hsh hcp hlen hby
  have hexec : (execOp a.eval o).run P w = .ok (.value v) w1 := by
   simp only [execOp, ho, resolve, Sem.run_bind, Sem.run_pure, Result.andThen_ok, invoke, builtin]; simp [Sem.run_bind, hvx, hrun, pure]
  simp only [Oper.wp, hexec, Oper.upon_value, hd]; have h5 := hs1.world hk (fun b hb => (hF.2 b (hE b hb)).2.2) (fun j b hb e => (hF.2 b (hE b e)).1 j hb) (fun b hb => (hF.2 b (hE b hb)).2.1); refine ⟨_, h5.o6 hn (iB.refl w1 _) (fun b hb => ?_) BW (.u (.c hrep))⟩; rcases hsub b hb with h | h
  · exact hF.2 b h
  · refine ⟨fun j hj => ?_, fun hR => ?_, .inr (bR hs1.keeps.size h)⟩
    · have := (hs1.rep j).lt b hj; omega
    · have := bp (hs1.ro b hR).1 hs1.keeps.size; omega
end
end Go.Proofs.Ytmjnenjeckeklaa.V
namespace Go.Proofs.Ytmjnenjeckeklaa.V
open Go Go.RowKit
def mg (P : Program) (K : Ctx) (ops : Array Oper) (i : Nat) (σ σ' : St) : Prop := ∀ a w, rC K σ a w → wpOp P ops (fun _ _ _ => False) i (fun a' w' => rC K σ' a' w') a w
inductive nG (P : Program) (K : Ctx) (ops : Array Oper) : Nat → Nat → St → St → Prop
  | nil {i : Nat} {σ : St} : nG P K ops i 0 σ σ
  | cons {i n : Nat} {σ σ1 σ2 : St} (h : mg P K ops i σ σ1) (t : nG P K ops (i + 1) n σ1 σ2) : nG P K ops i (n + 1) σ σ2
def post (K : Ctx) (Q : Exit → St → Prop) (e : Exit) (a : Act) (w : World) : Prop := ∃ σ, rC K σ a w ∧ Q e σ
def lC (P : Program) (K : Ctx) (c : Code) (σ : St) (Q : Exit → St → Prop) : Prop := ∀ a w, rC K σ a w → c.wp P (post K Q) a w
def Dr (N : St → Prop) (Q : Exit → St → Prop) : Exit → St → Prop
  | .normal, σ => N σ
  | e, σ => Q e σ
def ME (id : Nat) (Q : Exit → St → Prop) : Exit → St → Prop
  | .exit id', σ => if id' = id then Q .normal σ else Q (.exit id') σ
  | e, σ => Q e σ
def Dc (P : Program) (K : Ctx) (c : Code) (n : Nat) (σ : St) (Q : Exit → St → Prop) : Prop := ∀ a w, rC K σ a w → Code.rounds P c (post K Q) n a w
section
variable {P : Program} {K : Ctx} {σ σ' : St} {Q Q' : Exit → St → Prop} {ops : Array Oper} {i d t : Nat} {o : Oper}
theorem fX (h : ops[i]? = some o) (hg : o.guard = none) (hs : Step P K σ o σ') : mg P K ops i σ σ' := by
 intro a w h1; unfold wpOp; rw [h]; simp only; rw [aj (by simp [Region.wanted, hg])]; exact .inl (hs a w h1)
theorem MF {a : Act} {w : World} {b : Bool} (hs : rC K σ a w) (h : σ t = .u (.c (.v (.bool b)))) : a.tmps[t]? = some (.bool b) := by
 obtain ⟨Fs, hs⟩ := hs; have h1 := hs.rep t; rw [h] at h1; have h2 := h1.J1.1; rw [bq] at h2
 cases h3 : a.tmps[t]? with
 | none => rw [h3] at h2; cases h2
 | some v => rw [h3] at h2; simp at h2; rw [h2]
theorem E7 {j : Nat} {b : Bool} (h : ops[i]? = some o) (hg : o.guard = some (j, b)) (hj : (ops[j]?).bind (·.dst) = some t) (ht : σ t = .u (.c (.v (.bool b)))) (hs : Step P K σ o σ') : mg P K ops i σ σ' := by
 intro a w h1; unfold wpOp; rw [h]; simp only
 have h2 : yielded ops a.tmps j = some b := by
  unfold yielded; rw [hj]; simp only [aq]; rw [MF h1 ht]
 rw [aj (by simp [Region.wanted, hg, h2])]; exact .inl (hs a w h1)
theorem zM {a : Act} {w : World} {N : Act → World → Prop} {N' : Act → World → Prop} {QQ : Exit → Act → World → Prop} (h : wpOp P ops (fun _ _ _ => False) i N a w) (hn : ∀ a w, N a w → N' a w) : wpOp P ops QQ i N' a w := by
 unfold wpOp at *; split
 · exact hn _ _ (by simpa [*] using h)
 · rename_i o ho; simp only [ho] at h; split
   · rename_i hw; simp only [hw, cB] at h; rcases h with h | ⟨_, _, _, h⟩
     · exact .inl (Oper.Ki h hn)
     · exact h.elim
   · rename_i hw; simp only [hw] at h; exact hn _ _ h
theorem Bo {n : Nat} (h : nG P K ops i n σ σ') : ∀ {QQ : Exit → Act → World → Prop}, (∀ a w, rC K σ' a w → QQ .normal a w) → ∀ a w, rC K σ a w → wpOps P ops QQ (List.range' i n) a w := by
 induction h with
 | nil => intro QQ hq a w hs; exact hq a w hs
 | cons h t ih =>
  intro QQ hq a w hs; rw [List.range'_succ, wpOps_cons]; exact zM (h a w hs) (fun a w hs => ih hq a w hs)
theorem LQ {id : Nat} (h : nG P K ops 0 ops.size σ σ') (hq : Q .normal σ') : lC P K (.region id ops false) σ Q := by
 intro a w hs; refine wp_region ?_; rw [List.range_eq_range']; exact Bo h (fun a w hs => ⟨σ', hs, hq⟩) a w hs
theorem QD {c : Code} (h : lC P K c σ Q) (hq : ∀ e σ, Q e σ → Q' e σ) : lC P K c σ Q' := fun a w hs => wp_mono (h a w hs) (fun e a w ⟨σ, h1, h2⟩ => ⟨σ, h1, hq e σ h2⟩)
theorem gB {c : Code} (hw : ∀ i, σ' i = σ i ∨ σ' i = .junk) (h : lC P K c σ' Q) : lC P K c σ Q := fun a w hs => h a w (hs.weaken hw)
theorem g8 (h : Q .normal σ) : lC P K .skip σ Q := fun _ _ hs => wp_skip ⟨σ, hs, h⟩
theorem l8 {id : Nat} (h : Q (.exit id) σ) : lC P K (.exit id) σ Q := fun _ _ hs => wp_exit ⟨σ, hs, h⟩
theorem gY (h : Q .ret σ) : lC P K .ret σ Q := fun _ _ hs => wp_ret ⟨σ, hs, h⟩
theorem gh {x y : Code} (h : lC P K x σ (Dr (fun σ' => lC P K y σ' Q) Q)) : lC P K (.seq x y) σ Q := fun a w hs =>
  wp_seq (wp_mono (h a w hs) (fun e a w ⟨σ', h1, h2⟩ => by
    cases e <;> first
      | exact h2 a w h1
      | exact ⟨σ', h1, h2⟩))
theorem LR {c : Operand} {x y : Code} {b : Bool} (hc : mV K.ET σ c = .u (.c (.v (.bool b)))) (h : lC P K (if b then x else y) σ Q) : lC P K (.cond c x y) σ Q := fun a w hs => by
  obtain ⟨Fs, hs1⟩ := hs
  exact wp_cond (j9 hs1 hc) (h a w ⟨Fs, hs1⟩)
theorem iQ {id : Nat} {c : Code} (h : lC P K c σ (ME id Q)) : lC P K (.block id c) σ Q := fun a w hs =>
  wp_block (wp_mono (h a w hs) (fun e a w ⟨σ', h1, h2⟩ => by
    cases e <;> first
      | exact ⟨σ', h1, h2⟩
      | (simp only [Exit.inBlock]
         simp only [ME] at h2
         split
         · rename_i e; rw [aj e] at h2; exact ⟨σ', h1, h2⟩
         · rename_i e; rw [ag e] at h2; exact ⟨σ', h1, h2⟩)))
theorem Sd {c : Code} (n : Nat) (h : Dc P K c n σ Q) : lC P K (.loop c) σ Q := fun a w hs => wp_loop_rounds n (h a w hs)
theorem EI {c : Code} {n : Nat} (hw : ∀ i, σ' i = σ i ∨ σ' i = .junk) (h : Dc P K c n σ' Q) : Dc P K c n σ Q := fun a w hs => h a w (hs.weaken hw)
end
end Go.Proofs.Ytmjnenjeckeklaa.V
namespace Go.Proofs.Ytmjnenjeckeklaa.V
open Go Go.RowKit
abbrev Pl := Option (kG × List (Nat × kG) × Nat)
def cellAt (c : C) : Pl → Option C
  | none => some c
  | some (s, p, off) => (nx c s p).bind fun cs => cs[off]?
def setAt (c : C) : Pl → C → C
  | none, x => x
  | some (s, p, off), x => oE c s p (((nx c s p).getD []).set off x)
def ko (c : C) : Pl → Bool
  | none => true
  | some (s, p, _) => uq c s p
mutual
def Km : C → C
  | .sl _ sz rows => .sl false sz rows
  | .pt _ cs => .pt false (SS cs)
  | .x _ => .dead
  | c => c
def SS : List C → List C
  | [] => []
  | c :: cs => Km c :: SS cs
end
mutual
def Bc : C → Prop
  | .sl _ _ rows => ∀ r ∈ rows, r.all lR = true
  | .pt _ cs => Dx cs
  | _ => True
def Dx : List C → Prop
  | [] => True
  | c :: cs => Bc c ∧ Dx cs
end
def sY : C → Bool
  | .v _ | .err _ => true
  | _ => false
mutual
def vA : C → Prop
  | .sl o _ rows => o = true ∧ ∀ r ∈ rows, r.all sY = true
  | .pt o cs => o = true ∧ xx cs
  | _ => True
def xx : List C → Prop
  | [] => True
  | c :: cs => vA c ∧ xx cs
end
def Kn : U → Prop
  | .c x => vA x
  | .agg cs => xx cs
  | .fn _ _ => False
section
variable {P : Program} {ET : TypeId} {w w' : World} {R R' : Nat → Prop} {K : Ctx} {σ : St} {a : Act} {Fs : Nat → List Nat}
theorem iz.cell {v0 : Value} {c x : C} {F : List Nat} {pl : Pl} {tmps : Array Value} {r : Nat} (hv : tmps.getD r undef = v0) (h : iz ET w R v0 c F) (hnd : F.Nodup) (hx : cellAt c pl = some x) (ho : ko c pl = true) :
    ∃ y Fo Fx, nI w tmps r pl = some y ∧ F.Perm (Fo ++ Fx) ∧ iz ET w R y x Fx ∧
      ∀ w' x' Fx', (∀ b, (b ∈ Fo ∨ R b) → w'.heap[b]? = w.heap[b]?) → iz ET w' R y x' Fx' → ∃ F2, iz ET w' R v0 (setAt c pl x') F2 ∧ F2.Perm (Fo ++ Fx') := by
 cases pl with
 | none =>
  simp only [cellAt, aC] at hx; subst hx; exact ⟨v0, [], F, by simp only [nI]; rw [hv], e8 _, h, fun w' x' Fx' _ hx' => ⟨Fx', hx', e8 _⟩⟩
 | some q =>
  obtain ⟨s, p, off⟩ := q; simp only [cellAt, aJ] at hx; obtain ⟨cs, hg, hc⟩ := hx; obtain ⟨b, o, arr, et, Fo, Fi, h1, h2, h3, h4, h5, h6, h7⟩ := iz.lens p h hnd hg ho; obtain ⟨y, F1, Fj, F2, hy, rfl, hrx, hset⟩ := h4.at_ hc; have hcell := kT h2 hy; refine ⟨y, Fo ++ (F1 ++ F2), Fj, ?_, ?_, hrx, ?_⟩
  · simp only [nI, hv, h1, aq]; exact hcell
  · refine h5.trans ?_; rw [aW]; refine bT _ ?_; rw [aW]; exact bT _ cT
  · intro w' x' Fx' hw hx'
    have hrow := hset w' y x' Fx' (fun z hz => hw z (by
     rcases hz with hz | hz | hz
     · exact .inl (ah _ (an _ hz))
     · exact .inl (ah _ (ah _ hz))
     · exact .inr hz)) hx'
    have hxs : ((arr.toList.drop o).take cs.length).set off y = (arr.toList.drop o).take cs.length := by
     rw [br] at hy; obtain ⟨hx1, hx2⟩ := hy; rw [← hx2]; exact fL _
    rw [hxs] at hrow
    have Kp : arr.toList = arr.toList.take o ++ ((arr.toList.drop o).take cs.length ++ arr.toList.drop (o + cs.length)) := by
     rw [← cG, bl, bl]
    obtain ⟨F4, Ym, Yn⟩ := h7 w' arr _ (cs.set off x') _ (by rw [bV]) ((hw b (.inl (an _ h6))).trans h2) Kp (fun z hz _ => hw z (.inl (an _ hz))) (fun z hz => hw z (.inr hz)) hrow; refine ⟨F4, ?_, Yn.trans ?_⟩
    · simp only [setAt, hg, b7]; exact Ym
    · rw [aW, aW]; refine bT _ (bT _ ?_); exact cT
theorem Bd {rows : List (List C)} (h : ∀ r ∈ rows, r.all lR = true) {xs : List Value} {F : List Nat} (hr : ig ET w R xs rows.flatten F) : F = [] := hr.copy (vL h)
theorem iz.qm {x : Value} {c : C} {F : List Nat} (h : iz ET w R x c F) : Bc c → (∀ b ∈ F, R' b) → (∀ b, R b → R' b) → iz ET w R' x (Km c) [] := by
 refine iz.rec (motive_1 := fun x c F _ => Bc c → (∀ b ∈ F, R' b) → (∀ b, R b → R' b) → iz ET w R' x (Km c) []) (motive_2 := fun xs cs F _ => Dx cs → (∀ b ∈ F, R' b) → (∀ b, R b → R' b) → ig ET w R' xs (SS cs) [])
   ?_ ?_ ?_ ?_ ?_ ?_ ?_ ?_ ?_ h
 · intro x h _ _ _; simp only [Km]; exact .v h
 · intro t _ _ _; simp only [Km]; exact .err t
 · intro o sz _ _ _; simp only [Km]; exact .nil false sz
 · intro b off len cap sz own arr et rows F F' hb hlen hcap hsz hfit hrow hrep ho hz ih hf hF hR; simp only [Km]; simp only [Bc] at hf; have hF0 := Bd hf hrep; subst hF0; refine .sl hb hlen hcap hsz hfit hrow (hrep.frame hR (fun _ _ => rfl)) (.inr ⟨rfl, ?_, rfl, rfl⟩) (fun h => by cases h); rcases ho with ⟨_, rfl⟩ | ⟨_, h, _⟩
   · exact hF b (aN ..)
   · exact hR b h
 · intro b own arr et cs F F' hb hrep ho ih hf hF hR; simp only [Km]; simp only [Bc] at hf; refine .pt hb (ih hf (fun x hx => ?_) hR) (.inr ⟨rfl, ?_, rfl, rfl⟩)
   · rcases ho with ⟨_, rfl⟩ | ⟨_, _, rfl, _⟩
     · exact hF x (aU _ hx)
     · cases hx
   · rcases ho with ⟨_, rfl⟩ | ⟨_, h, _⟩
     · exact hF b (aN ..)
     · exact hR b h
 · intro v q F h _ _ _; simp only [Km]; exact .dead v
 · intro x _ _ _; simp only [Km]; exact .dead x
 · intro _ _ _; simp only [SS]; exact .nil
 · intro x c xs cs F G _ _ ih1 ih2 hf hF hR; simp only [Dx] at hf; simp only [SS]; have h1 := ih1 hf.1 (fun b hb => hF b (an _ hb)) hR; have h2 := ih2 hf.2 (fun b hb => hF b (ah _ hb)) hR; exact ig.cons h1 h2
theorem IF {xs : List Value} {cs : List C} {F : List Nat} (h : ig ET w R xs cs F) (hp : cs.all sY = true) : ig ET w R' xs cs F := by
 induction cs generalizing xs F with
 | nil => cases h; exact .nil
 | cons c cs ih =>
  cases h with
  | cons h t =>
   simp only [cM, ai] at hp; refine .cons ?_ (ih t hp.2)
   cases h with
   | v h => exact .v h
   | err t => exact .err t
   | _ => simp [sY] at hp
theorem Kq {rows : List (List C)} (h : ∀ r ∈ rows, r.all sY = true) : rows.flatten.all sY = true := by
 rw [aV]; intro x hx; obtain ⟨r, hr, hxr⟩ := fy.mp hx; exact aV.mp (h r hr) x hxr
theorem iz.mine {x : Value} {c : C} {F : List Nat} (h : iz ET w R x c F) : vA c → iz ET w R' x c F := by
 refine iz.rec (motive_1 := fun x c F _ => vA c → iz ET w R' x c F) (motive_2 := fun xs cs F _ => xx cs → ig ET w R' xs cs F) ?_ ?_ ?_ ?_ ?_ ?_ ?_ ?_ ?_ h
 · intro x h _; exact .v h
 · intro t _; exact .err t
 · intro o sz _; exact .nil o sz
 · intro b off len cap sz own arr et rows F F' hb hlen hcap hsz hfit hrow hrep ho hz ih hm; simp only [vA] at hm; obtain ⟨rfl, hm⟩ := hm; refine .sl hb hlen hcap hsz hfit hrow (IF hrep (Kq hm)) ?_ hz; rcases ho with ⟨_, rfl⟩ | ⟨h, _⟩
   · exact .inl ⟨rfl, rfl⟩
   · cases h
 · intro b own arr et cs F F' hb hrep ho ih hm; simp only [vA] at hm; obtain ⟨rfl, hm⟩ := hm; refine .pt hb (ih hm) ?_; rcases ho with ⟨_, rfl⟩ | ⟨h, _⟩
   · exact .inl ⟨rfl, rfl⟩
   · cases h
 · intro v q F h _; exact .x h
 · intro x _; exact .dead x
 · intro _; exact .nil
 · intro x c xs cs F G _ _ ih1 ih2 hm; simp only [xx] at hm; exact .cons (ih1 hm.1) (ih2 hm.2)
theorem ig.mine {xs : List Value} {cs : List C} {F : List Nat} (h : ig ET w R xs cs F) (hm : xx cs) : ig ET w R' xs cs F := by
 induction cs generalizing xs F with
 | nil => cases h; exact .nil
 | cons c cs ih =>
  cases h with
  | cons h t =>
   simp only [xx] at hm; exact .cons (h.mine hm.1) (ih t hm.2)
theorem kY.mine {x : Value} {u : U} {F : List Nat} (h : kY ET w R x u F) (hm : Kn u) : kY ET w R' x u F := by
 cases h with
 | c h => exact .c (h.mine hm)
 | agg h => exact .agg (h.mine hm)
 | fn h => exact hm.elim
inductive qI (ET : TypeId) (w : World) (R : Nat → Prop) : List Value → List (Option U) → List Nat → Prop
  | nil : qI ET w R [] [] []
  | skip {x : Value} {xs : List Value} {us : List (Option U)} {F : List Nat} (t : qI ET w R xs us F) : qI ET w R (x :: xs) (none :: us) F
  | cons {x : Value} {u : U} {xs : List Value} {us : List (Option U)} {F G : List Nat} (h : kY ET w R x u F) (t : qI ET w R xs us G) : qI ET w R (x :: xs) (some u :: us) (F ++ G)
inductive qK (ET : TypeId) (w : World) (R : Nat → Prop) : Value → List U → List Nat → Prop
  | one {v : Value} {u : U} {F : List Nat} (h : kY ET w R v u F) : qK ET w R v [u] F
  | many {arr : Array Value} {us : List U} {F : List Nat} (hl : us.length ≠ 1) (h : ke ET w R arr.toList us F) : qK ET w R (.tuple arr) us F
def AC (P : Program) (ET : TypeId) (f : FuncId) (ins : List U) (outs : List (Option U)) (res : List U) : Prop :=
  ∀ (R : Nat → Prop) (w : World) (vs : List Value) (F : List Nat), ke ET w R vs ins F → F.Nodup → (∀ b ∈ F, ¬ R b) → (∀ b, R b → b < w.heap.size) →
    Calls P f vs.toArray w (fun e w' => ∃ rv H1 H2, e = .returned rv ∧ qI ET w' R vs outs H1 ∧ qK ET w' R rv res H2 ∧ (H1 ++ H2).Nodup ∧ (∀ b ∈ H1 ++ H2, b ∈ F ∨ w.heap.size ≤ b) ∧ iB w F w')
def Tx (T : (Nat → Prop) → World → Prop) (P : Program) (ET : TypeId) (f : FuncId) (ins : List U) (outs : List (Option U)) (res : List U) : Prop :=
  ∀ (R : Nat → Prop) (w : World) (vs : List Value) (F : List Nat), T R w → ke ET w R vs ins F → F.Nodup → (∀ b ∈ F, ¬ R b) → (∀ b, R b → b < w.heap.size) →
    Calls P f vs.toArray w (fun e w' => ∃ rv H1 H2, e = .returned rv ∧ qI ET w' R vs outs H1 ∧ qK ET w' R rv res H2 ∧ (H1 ++ H2).Nodup ∧ (∀ b ∈ H1 ++ H2, b ∈ F ∨ w.heap.size ≤ b) ∧ iB w F w')
def Ty (g : Nat) (Q : Option Obj → Prop) (R : Nat → Prop) (w : World) : Prop := R g ∧ Q w.heap[g]?
abbrev ACT (g : Nat) (Q : Option Obj → Prop) := Tx (Ty g Q)
def MP (K : Ctx) (P : Program) (f : FuncId) (ins : List U) (outs : List (Option U)) (res : List U) : Prop :=
  ∀ (R : Nat → Prop) (w : World) (vs : List Value) (F : List Nat), (∀ b, K.R b → R b) → (∀ b, K.R b → w.heap[b]? = K.w0.heap[b]?) → ke K.ET w R vs ins F → F.Nodup → (∀ b ∈ F, ¬ R b) → (∀ b, R b → b < w.heap.size) →
    Calls P f vs.toArray w (fun e w' => ∃ rv H1 H2, e = .returned rv ∧ qI K.ET w' R vs outs H1 ∧ qK K.ET w' R rv res H2 ∧ (H1 ++ H2).Nodup ∧ (∀ b ∈ H1 ++ H2, b ∈ F ∨ w.heap.size ≤ b) ∧ iB w F w')
theorem AC.k {K : Ctx} {P : Program} {f : FuncId} {ins : List U} {outs : List (Option U)} {res : List U} (h : AC P K.ET f ins outs res) : MP K P f ins outs res := fun R w vs F _ _ => h R w vs F
end
end Go.Proofs.Ytmjnenjeckeklaa.V
namespace Go.Proofs.Ytmjnenjeckeklaa.V
open Go Go.RowKit
inductive qC (σ : St) : Operand → Nat → Pl → Prop
  | ptr {i r : Nat} {own : Bool} {cs : List C} (h : jA i (σ i) = .addr r .d [] 0) (hr : σ r = .u (.c (.pt own cs))) : qC σ (.tmp i) r none
  | ptrC {i r off : Nat} {s : kG} {p : List (Nat × kG)} {own : Bool} {c : C} {cs ds : List C} (h : jA i (σ i) = .addr r s (p ++ [(off, .d)]) 0) (hr : σ r = .u (.c c)) (hg : nx c s p = some cs) (hc : cs[off]? = some (.pt own ds)) : qC σ (.tmp i) r (some (s, p, off))
  | ptrX {i r : Nat} {q : Az} (h : jA i (σ i) = .addr r .d [] 0) (hr : σ r = .u (.c (.x q))) (hq : q.isp = true) : qC σ (.tmp i) r none
  | sl {i r sz n : Nat} {pl : Pl} (h : jA i (σ i) = .whole r pl sz n) : qC σ (.tmp i) r pl
abbrev vG := Nat × Pl × C
inductive o7 (AR : Operand → U → Prop) : St → List Operand → List U → List (Option vG) → St → Prop
  | nil {σ : St} : o7 AR σ [] [] [] σ
  | hand {σ σ' : St} {x : Operand} {r : Nat} {pl : Pl} {c y : C} {xs : List Operand} {us : List U} {hs : List (Option vG)} (hp : qC σ x r pl) (hr : σ r = .u (.c c)) (hc : cellAt c pl = some y) (ho : ko c pl = true) (t : o7 AR (jN σ r .junk) xs us hs σ') : o7 AR σ (x :: xs) (.c y :: us) (some (r, pl, c) :: hs) σ'
  | move {σ σ' : St} {i : Nat} {u : U} {xs : List Operand} {us : List U} {hs : List (Option vG)} (hi : σ i = .u u) (t : o7 AR (jN σ i .junk) xs us hs σ') : o7 AR σ (.tmp i :: xs) (u :: us) (none :: hs) σ'
  | rd {σ σ' : St} {x : Operand} {u : U} {xs : List Operand} {us : List U} {hs : List (Option vG)} (h : AR x u) (t : o7 AR σ xs us hs σ') : o7 AR σ (x :: xs) (u :: us) (none :: hs) σ'
def back : List (Option vG) → List (Option U) → St → St
  | some (r, pl, c) :: hs, some (.c y) :: os, σ => back hs os (jN σ r (.u (.c (setAt c pl y))))
  | _ :: hs, _ :: os, σ => back hs os σ
  | _, _, σ => σ
def kK : List (Option vG) → List (Option U) → Bool
  | some _ :: hs, some (.c _) :: os => kK hs os
  | some _ :: hs, none :: os => kK hs os
  | none :: hs, none :: os => kK hs os
  | [], [] => true
  | _, _ => false
inductive AF (K : Ctx) (σ : St) : Operand → U → Prop
  | copy {x : Operand} {u : U} (h : mV K.ET σ x = .u u) (hc : uD u = true) : AF K σ x u
  | nil (sz : Nat) (o : Bool) : AF K σ (.const (.slice none 0 0)) (.c (.sl o sz []))
  | func {f : FuncId} : AF K σ (.func f) (.fn f [])
inductive xS (σ : St) : List MW → List C → Prop
  | nil : xS σ [] []
  | val {x : C} {caps : List MW} {cs : List C} (t : xS σ caps cs) : xS σ (.val x :: caps) (x :: cs)
  | ref {r : Nat} {own : Bool} {ds ds' : List C} {caps : List MW} {cs : List C} (hr : σ r = .u (.c (.pt own ds))) (hf : Dx ds) (e : SS ds = ds') (t : xS σ caps cs) : xS σ (.ref r :: caps) (.pt false ds' :: cs)
inductive xd (K : Ctx) (σ : St) : Operand → U → Prop
  | copy {x : Operand} {u : U} (h : AF K σ x u) : xd K σ x u
  | qm {x : Operand} {r : Nat} {pl : Pl} {c y y' : C} (hp : qC σ x r pl) (hr : σ r = .u (.c c)) (hc : cellAt c pl = some y) (hf : Bc y) (e : Km y = y') : xd K σ x (.c y')
  | fn {i : Nat} {f : FuncId} {caps : List MW} {cs : List C} (h : jA i (σ i) = .fn f caps) (hc : xS σ caps cs) : xd K σ (.tmp i) (.fn f cs)
  | view {x : Operand} {sz : Nat} {rows : List (List C)} (h : Rows K σ sz x rows) (hf : ∀ r ∈ rows, r.all lR = true) : xd K σ x (.c (.sl false sz rows))
  | sem {x : Operand} {u : U} (h : ∀ a w Fs, jP K σ a w Fs → kY K.ET w (qY K Fs) (a.eval x) u []) : xd K σ x u
section
variable {P : Program} {ET : TypeId} {w w' : World} {R R' : Nat → Prop} {K : Ctx} {σ σ' : St} {a : Act} {Fs : Nat → List Nat} {o : Oper} {d : Nat}
theorem qC.at_ {x : Operand} {r : Nat} {pl : Pl} (h : qC σ x r pl) (hs : jP K σ a w Fs) : nI w a.tmps r pl = some (a.eval x) := by
 cases h with
 | @ptr i r own cs h hr =>
  have h1 := (xz.tmp h).rep hs; have h2 := hs.rep r; rw [hr] at h2; generalize hv : a.eval (.tmp i) = v at h1
  cases h1 with
  | @addr _ _ b o' _ _ hw =>
   simp only [nI]; generalize a.tmps.getD r undef = v0 at h2 hw; generalize Fs r = F at h2
   cases h2 with | u h2 => cases h2 with | c h2 => cases h2 with
     | pt hb hrep ho =>
       simp only [walk, su, aC, bE] at hw
       obtain ⟨rfl, rfl⟩ := hw
       rfl
 | @ptrX i r q h hr hq =>
  have h1 := (xz.tmp h).rep hs; have h2 := hs.rep r; rw [hr] at h2; generalize hv : a.eval (.tmp i) = v at h1
  cases h1 with
  | @addr _ _ b o' _ _ hw =>
   simp only [nI]; generalize a.tmps.getD r undef = v0 at h2 hw; generalize Fs r = F at h2
   cases h2 with | u h2 => cases h2 with | c h2 => cases h2 with
     | x h2 =>
       obtain ⟨b2, rfl⟩ := q.ptr hq h2
       simp only [walk, su, aC, bE] at hw
       obtain ⟨rfl, rfl⟩ := hw
       rfl
 | @ptrC i r off s p own c cs ds h hr hg hc =>
  have h1 := (xz.tmp h).rep hs; have h2 := hs.rep r; rw [hr] at h2; generalize hv : a.eval (.tmp i) = v at h1
  cases h1 with
  | @addr _ _ b o' _ _ hw =>
   simp only [nI]; generalize a.tmps.getD r undef = v0 at h2 hw; generalize Fs r = F at h2
   cases h2 with | u h2 => cases h2 with | c h2 =>
    obtain ⟨b3, o3, arr, et, Fi, h3, h4, h5, h6, _⟩ := iz.read p h2 hg; obtain ⟨y, F1, Fj, F2, hy, _, hrx, _⟩ := h6.at_ hc; have hcell := kT h4 hy; simp only [h3, aq, hcell]
    cases hrx with
    | @pt b4 _ vI MZ _ P9 F' jD hrep AZ =>
     have := tF h3 hcell (s' := .d) (q := (b4, 0)) rfl; rw [this] at hw; injection hw with hw; injection hw with e1 e2; subst e1; subst e2; rfl
 | @sl i r sz n pl h =>
  have h1 := (xz.tmp h).rep hs; generalize hv : a.eval (.tmp i) = v at h1
  cases h1 with
  | whole h hs => exact h
theorem AF.rep {x : Operand} {u : U} (h : AF K σ x u) (hs : jP K σ a w Fs) : kY K.ET w K.R (a.eval x) u [] := by
 cases h with
 | copy h hc =>
  have h1 := lE hs h (by simp); generalize a.eval x = v at h1; cases h1 with | u h => exact h
 | nil sz o => exact .c (.nil o sz)
 | func => exact .fn .nil
theorem xS.rep {xs : List Value} {caps : List MW} {cs : List C} (h : xS σ caps cs) (hs : jP K σ a w Fs) (hx : xs.length = caps.length) (hv : ∀ (i : Nat) (c : MW), caps[i]? = some c → ∃ v, xs[i]? = some v ∧ match c with | .ref r => v = a.tmps.getD r undef | .val x => iz K.ET w K.R v x []) : ig K.ET w (qY K Fs) xs cs [] := by
 induction h generalizing xs with
 | nil => obtain rfl := bB hx; exact .nil
 | val t ih =>
  cases xs with
  | nil => cases hx
  | cons y xs =>
   obtain ⟨v, h1, h2⟩ := hv 0 _ rfl; obtain rfl : y = v := by simpa using h1
   exact ig.cons (F := []) (G := []) (h2.frame (fun _ h => .inl h) (fun _ _ => rfl)) (ih (by simpa using hx) (fun i c hi => by simpa using hv (i + 1) c (by simpa using hi)))
 | @ref r own ds ds' caps cs hr hf e t ih =>
  cases xs with
  | nil => cases hx
  | cons y xs =>
   obtain ⟨v, h1, h2⟩ := hv 0 _ rfl; obtain rfl : y = v := by simpa using h1
   subst e; have h3 := hs.rep r; rw [hr] at h3; simp only at h2; rw [← h2] at h3; generalize hF : Fs r = F at h3
   cases h3 with | u h3 => cases h3 with | c h3 =>
    have h4 := h3.qm (R' := qY K Fs) hf (fun b hb => .inr ⟨r, by rw [hF]; exact hb⟩) (fun b hb => .inl hb); exact ig.cons (F := []) (G := []) h4 (ih (by simpa using hx) (fun i c hi => by simpa using hv (i + 1) c (by simpa using hi)))
theorem kY.more {x : Value} {u : U} {F : List Nat} (h : kY ET w R x u F) (hR : ∀ b, R b → R' b) : kY ET w R' x u F := h.frame hR (fun _ _ => rfl)
theorem xd.rep {x : Operand} {u : U} (h : xd K σ x u) (hs : jP K σ a w Fs) : kY K.ET w (qY K Fs) (a.eval x) u [] := by
 cases h with
 | sem h => exact h a w Fs hs
 | copy h => exact (h.rep hs).more (fun b hb => .inl hb)
 | @qm _ r pl c y y' hp hr hc hf e =>
  subst e; have hv := hp.at_ hs; have h2 := hs.rep r; rw [hr] at h2; generalize hF : Fs r = F at h2; generalize AA : a.tmps.getD r undef = v0 at h2
  cases h2 with | u h2 => cases h2 with | c h2 =>
   have hy : ∃ Fx, iz K.ET w K.R (a.eval x) y Fx ∧ ∀ b ∈ Fx, b ∈ F := by
    cases pl with
    | none =>
     simp only [nI, aC] at hv; simp only [cellAt, aC] at hc; rw [← hv, AA, ← hc]; exact ⟨F, h2, fun _ h => h⟩
    | some q =>
     obtain ⟨s, p, off⟩ := q; simp only [cellAt, aJ] at hc; obtain ⟨cs, hg, hc⟩ := hc; obtain ⟨b3, o3, arr, et, Fi, h3, h4, h5, h6, h7, _⟩ := iz.read p h2 hg; obtain ⟨y1, F1, Fj, F2, hy, e1, hrx, _⟩ := h6.at_ hc; have hcell := kT h4 hy; simp only [nI, AA, h3, aq, hcell, aC] at hv; rw [← hv]; exact ⟨Fj, hrx, fun b hb => h7 b (by rw [e1]; exact ah _ (an _ hb))⟩
   obtain ⟨Fx, hrx, hsub⟩ := hy; exact .c (hrx.qm hf (fun b hb => .inr ⟨r, by rw [hF]; exact hsub b hb⟩) (fun b hb => .inl hb))
 | @fn i f caps cs h hc =>
  have h1 := (xz.tmp h).rep hs; generalize a.eval (.tmp i) = v at h1
  cases h1 with
  | fn hl h1 => exact .fn (hc.rep hs (by simpa using hl) (fun i c hi => by obtain ⟨v, h2, h3⟩ := h1 i c hi; exact ⟨v, by simpa using h2, h3⟩))
 | @view _ sz rows h hf =>
  obtain ⟨G, hG⟩ := h.xA hs; rcases hG with ⟨h1, rfl⟩ | ⟨b, off, cap, arr, et, h1, hb, k1, k2, k3, hrow, hrep, hsz, hS⟩
  · rw [h1]; exact .c (.nil false sz)
  · rw [h1]; have hG0 := Bd hf hrep; subst hG0; exact .c (.sl hb rfl k3 hsz k2 hrow (hrep.frame (fun b hb => .inl hb) (fun _ _ => rfl)) (.inr ⟨rfl, hS, rfl, rfl⟩) (fun h => by cases h))
end
end Go.Proofs.Ytmjnenjeckeklaa.V
namespace Go.Proofs.Ytmjnenjeckeklaa.V
open Go Go.RowKit
def xU : List U → T
  | [u] => .u u
  | us => .tup us
section
variable {P : Program} {ET : TypeId} {w w' : World} {R R' : Nat → Prop} {K : Ctx} {σ σ' : St} {a : Act} {Fs : Nat → List Nat} {o : Oper} {d : Nat}
theorem rG.sub {F G : List Nat} (h : rG K Fs F) (hn : G.Nodup) (hs : ∀ b ∈ G, b ∈ F) : rG K Fs G := ⟨hn, fun b hb => h.2 b (hs b hb)⟩
theorem jP.args {AR : Operand → U → Prop} {xs : List Operand} {us : List U} {hs : List (Option vG)} (h : o7 AR σ xs us hs σ') : ∀ {Fs}, jP K σ a w Fs →
    ∃ vE Fin Fo, jP K σ' a w vE ∧ rG K vE (Fin ++ Fo) ∧ (∀ b ∈ Fin ++ Fo, ∃ j, b ∈ Fs j) ∧ (∀ j b, b ∈ vE j → b ∈ Fs j) ∧
      (∀ R', (∀ b, K.R b → R' b) → (∀ x u, AR x u → kY K.ET w R' (a.eval x) u []) → ke K.ET w R' (xs.map a.eval) us Fin) ∧
      (∀ w' σw Fsw outs H1, jP K σw a w' Fsw → kK hs outs = true → (∀ b, (b ∈ Fo ∨ K.R b) → w'.heap[b]? = w.heap[b]?) → qI K.ET w' K.R (xs.map a.eval) outs H1 → rG K Fsw (H1 ++ Fo) →
        ∃ xV, jP K (back hs outs σw) a w' xV ∧ ∀ j b, b ∈ xV j → b ∈ Fsw j ∨ b ∈ H1 ∨ b ∈ Fo) := by
 induction h with
 | nil =>
  intro Fs hs; refine ⟨Fs, [], [], hs, ⟨bu, by simp⟩, by simp, fun _ _ h => h, fun _ _ _ => .nil, fun w' σw Fsw outs H1 h1 h2 _ h4 h5 => ?_⟩
  cases outs with
  | nil => exact ⟨Fsw, h1, fun j b hb => .inl hb⟩
  | cons _ _ => simp [kK] at h2
 | @hand σ σ' x r pl c y xs us hs hp hr hc ho t ih =>
  intro Fs hsim; have hv := hp.at_ hsim; have hrep := hsim.rep r; rw [hr] at hrep; have hnd := hsim.nd r
  have hex : ∃ Fo Fx, (Fs r).Perm (Fo ++ Fx) ∧ iz K.ET w K.R (a.eval x) y Fx ∧ ∀ w' x' Fx', (∀ b, (b ∈ Fo ∨ K.R b) → w'.heap[b]? = w.heap[b]?) → iz K.ET w' K.R (a.eval x) x' Fx' → ∃ F2, iz K.ET w' K.R (a.tmps.getD r undef) (setAt c pl x') F2 ∧ F2.Perm (Fo ++ Fx') := by
   generalize hF : Fs r = F at hrep hnd; generalize AA : a.tmps.getD r undef = v0 at hrep
   cases hrep with | u hrep => cases hrep with | c hrep =>
    obtain ⟨y1, Fo, Fx, h1, h2, h3, h4⟩ := hrep.cell AA hnd hc ho; rw [h1] at hv; injection hv with hv; subst hv; exact ⟨Fo, Fx, h2, h3, h4⟩
  obtain ⟨For, Fx, hperm, hy, hback⟩ := hex; obtain ⟨vE, Fin, Fo, k1, k2, k3, k4, k5, k6⟩ := ih (hsim.out r); have hndr : (For ++ Fx).Nodup := hperm.nodup_iff.mp hnd; have hin : ∀ b, b ∈ For ++ Fx → b ∈ Fs r := fun b hb => hperm.mem_iff.mpr hb
  have hne : ∀ b, b ∈ Fs r → b ∉ Fin ++ Fo := by
   intro b hb jD; obtain ⟨j, hj⟩ := k3 b jD; unfold jZ at hj; split at hj
   · cases hj
   · rename_i hn; exact hn (hsim.dis j r b hj hb)
  have hfr : ∀ b ∈ Fs r, (∀ j, b ∉ vE j) ∧ ¬ K.R b ∧ (b ∈ K.E ∨ K.w0.heap.size ≤ b) := by
   intro b hb; refine ⟨fun j hj => ?_, hsim.own r b hb⟩; have := k4 j b hj; unfold jZ at this; split at this
   · cases this
   · rename_i hn; exact hn (hsim.dis j r b this hb)
  refine ⟨vE, Fx ++ Fin, For ++ Fo, k1, ⟨?_, ?_⟩, ?_, ?_, ?_, ?_⟩
  · have n1 := ax.mp hndr; have n2 := ax.mp k2.1; simp only [ax, aT]; refine ⟨⟨n1.2.1, n2.1, fun x hx y hy e => hne x (hin x (ah _ hx)) (by rw [e]; exact an _ hy)⟩, ⟨n1.1, n2.2.1, fun x hx y hy e => hne x (hin x (an _ hx)) (by rw [e]; exact ah _ hy)⟩, ?_⟩; intro x hx y hy e; subst e; rcases hx with hx | hx <;> rcases hy with hy | hy
    · exact n1.2.2 x hy x hx rfl
    · exact hne x (hin x (ah _ hx)) (ah _ hy)
    · exact hne x (hin x (an _ hy)) (an _ hx)
    · exact n2.2.2 x hx x hy rfl
  · intro b hb; simp only [aT] at hb; rcases hb with (hb | hb) | hb | hb
    · exact hfr b (hin b (ah _ hb))
    · exact k2.2 b (an _ hb)
    · exact hfr b (hin b (an _ hb))
    · exact k2.2 b (ah _ hb)
  · intro b hb; simp only [aT] at hb
    have hk3 : ∀ b ∈ Fin ++ Fo, ∃ j, b ∈ Fs j := by
     intro b hb; obtain ⟨j, hj⟩ := k3 b hb; unfold jZ at hj; split at hj
     · cases hj
     · exact ⟨j, hj⟩
    rcases hb with (hb | hb) | hb | hb
    · exact ⟨r, hin b (ah _ hb)⟩
    · exact hk3 b (an _ hb)
    · exact ⟨r, hin b (an _ hb)⟩
    · exact hk3 b (ah _ hb)
  · intro j b hb; have := k4 j b hb; unfold jZ at this; split at this
    · cases this
    · exact this
  · intro R' hR hA; exact .cons ((kY.c hy).more hR) (k5 R' hR hA)
  · intro w' σw Fsw outs H1 h1 h2 h3 h4 h5
    cases outs with
    | nil => simp [kK] at h2
    | cons u os =>
     cases u with
     | none =>
      cases h4 with
      | skip h4 =>
       obtain ⟨xV, l1, l2⟩ := k6 w' σw Fsw os H1 h1 (by simpa [kK] using h2) (fun b hb => h3 b (hb.imp (fun h => ah _ h) id)) h4 (h5.sub (by
        have := ax.mp h5.1; have n2 := ax.mp this.2.1; rw [ax]
        exact ⟨this.1, n2.2.1, fun x hx y hy => this.2.2 x hx y (ah _ hy)⟩) (fun b hb => by
        rcases aT.mp hb with h | h
        · exact an _ h
        · exact ah _ (ah _ h)))
       exact ⟨xV, l1, fun j b hb => (l2 j b hb).imp id (fun h => h.imp id (fun h => ah _ h))⟩
     | some u =>
      cases u with
      | agg cs => simp [kK] at h2
      | fn f cs => simp [kK] at h2
      | c y' =>
       cases h4 with
       | @cons _ _ _ _ Fa Ha h4 h4t =>
        have h4 : iz K.ET w' K.R (a.eval x) y' Fa := by
         generalize a.eval x = vx at h4; cases h4 with | c h => exact h
        · obtain ⟨F2, m1, m2⟩ := hback w' y' Fa (fun b hb => h3 b (hb.imp (fun h => an _ h) id)) h4; have n0 := ax.mp h5.1; have n1 := ax.mp n0.1; have n2 := ax.mp n0.2.1; have SR : ∀ b ∈ F2, b ∈ For ∨ b ∈ Fa := fun b hb => aT.mp (m2.mem_iff.mp hb)
          have hF2f : ∀ b ∈ F2, b ∈ (Fa ++ Ha) ++ (For ++ Fo) := fun b hb => by
           rcases SR b hb with h | h
           · exact ah _ (an _ h)
           · exact an _ (an _ h)
          have M9 := h1.MG (i := r) (t := .u (.c (setAt c pl y'))) (F := F2) (.u (.c m1)) (by
           rw [m2.nodup_iff, ax]
           exact ⟨n2.1, n1.1, fun x hx y hy e => n0.2.2 y (an _ hy) x (an _ hx) e.symm⟩) (fun j _ b hb => (h5.2 b (hF2f b hb)).1 j) (fun b hb => (h5.2 b (hF2f b hb)).2)
          obtain ⟨xV, l1, l2⟩ := k6 w' _ _ os Ha M9 (by simpa [kK] using h2) (fun b hb => h3 b (hb.imp (fun h => ah _ h) id)) h4t ⟨by
           rw [ax]
           exact ⟨n1.2.1, n2.2.1, fun x hx y hy => n0.2.2 x (ah _ hx) y (ah _ hy)⟩, fun b hb => by
           have hb' : b ∈ (Fa ++ Ha) ++ (For ++ Fo) := by
            rcases aT.mp hb with h | h
            · exact an _ (ah _ h)
            · exact ah _ (ah _ h)
           refine ⟨fun j hj => ?_, (h5.2 b hb').2⟩; unfold jZ at hj; split at hj
           · rcases SR b hj with h | h <;> rcases aT.mp hb with h' | h'
             · exact n0.2.2 b (ah _ h') b (an _ h) rfl
             · exact n2.2.2 b h b h' rfl
             · exact n1.2.2 b h b h' rfl
             · exact n0.2.2 b (an _ h) b (ah _ h') rfl
           · exact (h5.2 b hb').1 j hj⟩
          refine ⟨xV, l1, fun j b hb => ?_⟩; rcases l2 j b hb with h | h | h
          · unfold jZ at h; split at h
            · rcases SR b h with h | h
              · exact .inr (.inr (an _ h))
              · exact .inr (.inl (an _ h))
            · exact .inl h
          · exact .inr (.inl (ah _ h))
          · exact .inr (.inr (ah _ h))
 | @move σ σ' i u xs us hs hi t ih =>
  intro Fs hsim; have hrep := hsim.rep i; rw [hi] at hrep; obtain ⟨vE, Fin, Fo, k1, k2, k3, k4, k5, k6⟩ := ih (hsim.out i)
  have hne : ∀ b, b ∈ Fs i → b ∉ Fin ++ Fo := by
   intro b hb jD; obtain ⟨j, hj⟩ := k3 b jD; unfold jZ at hj; split at hj
   · cases hj
   · rename_i hn; exact hn (hsim.dis j i b hj hb)
  refine ⟨vE, Fs i ++ Fin, Fo, k1, ⟨?_, ?_⟩, ?_, ?_, ?_, ?_⟩
  · rw [aW, ax]; exact ⟨hsim.nd i, k2.1, fun x hx y hy e => hne x hx (e ▸ hy)⟩
  · intro b hb; rw [aW] at hb; rcases aT.mp hb with hb | hb
    · refine ⟨fun j hj => ?_, hsim.own i b hb⟩; have := k4 j b hj; unfold jZ at this; split at this
      · cases this
      · rename_i hn; exact hn (hsim.dis j i b this hb)
    · exact k2.2 b hb
  · intro b hb; rw [aW] at hb; rcases aT.mp hb with hb | hb
    · exact ⟨i, hb⟩
    · obtain ⟨j, hj⟩ := k3 b hb; unfold jZ at hj; split at hj
      · cases hj
      · exact ⟨j, hj⟩
  · intro j b hb; have := k4 j b hb; unfold jZ at this; split at this
    · cases this
    · exact this
  · intro R' hR hA; refine .cons ?_ (k5 R' hR hA); rw [kE]; generalize a.tmps.getD i undef = v at hrep ⊢; generalize Fs i = F at hrep ⊢; cases hrep with | u h => exact h.more hR
  · intro w' σw Fsw outs H1 h1 h2 h3 h4 h5
    cases outs with
    | nil => simp [kK] at h2
    | cons u os =>
     cases u with
     | some u => simp [kK] at h2
     | none =>
      cases h4 with
      | skip h4 => exact k6 w' σw Fsw os H1 h1 (by simpa [kK] using h2) h3 h4 h5
 | @rd σ σ' x u xs us hs hA t ih =>
  intro Fs hsim; obtain ⟨vE, Fin, Fo, k1, k2, k3, k4, k5, k6⟩ := ih hsim; refine ⟨vE, Fin, Fo, k1, k2, k3, k4, fun R' hR hAR => ?_, fun w' σw Fsw outs H1 h1 h2 h3 h4 h5 => ?_⟩
  · have := ke.cons (hAR x u hA) (k5 R' hR hAR); simpa using this
  · cases outs with
    | nil => simp [kK] at h2
    | cons u os =>
     cases u with
     | some u => simp [kK] at h2
     | none =>
      cases h4 with
      | skip h4 => exact k6 w' σw Fsw os H1 h1 (by simpa [kK] using h2) h3 h4 h5
end
end Go.Proofs.Ytmjnenjeckeklaa.V
namespace Go.Proofs.Ytmjnenjeckeklaa.V
open Go Go.RowKit
def zz : List (Option U) → Prop
  | [] => True
  | none :: os => zz os
  | some u :: os => Kn u ∧ zz os
def tc : List U → Prop
  | [] => True
  | u :: us => Kn u ∧ tc us
def Is (P : Program) (f : FuncId) : Prop := ∃ fn, P.funcs[f]? = some fn ∧ fn.body.isSome = true ∧ (fn.name == "runtime.NumGoroutine") = false
inductive pI (K : Ctx) (σ : St) : Callee → FuncId → List C → Prop
  | func {f : FuncId} : pI K σ (.value (.func f)) f []
  | u {i : Nat} {f : FuncId} {caps : List C} (h : σ i = .u (.fn f caps)) : pI K σ (.value (.tmp i)) f caps
section
variable {P : Program} {ET : TypeId} {w w' : World} {R R' : Nat → Prop} {K : Ctx} {σ σ' : St} {a : Act} {Fs : Nat → List Nat} {o : Oper} {d : Nat}
theorem qI.mine {xs : List Value} {us : List (Option U)} {F : List Nat} (h : qI ET w R xs us F) (hm : zz us) : qI ET w R' xs us F := by
 induction us generalizing xs F with
 | nil => cases h; exact .nil
 | cons u us ih =>
  cases h with
  | skip t => exact .skip (ih t (by simpa [zz] using hm))
  | cons h t => exact .cons (h.mine hm.1) (ih t hm.2)
theorem ke.mine {xs : List Value} {us : List U} {F : List Nat} (h : ke ET w R xs us F) (hm : tc us) : ke ET w R' xs us F := by
 induction us generalizing xs F with
 | nil => cases h; exact .nil
 | cons u us ih => cases h with | cons h t => exact .cons (h.mine hm.1) (ih t hm.2)
theorem qK.mine {v : Value} {us : List U} {F : List Nat} (h : qK ET w R v us F) (hm : tc us) : qK ET w R' v us F := by
 cases h with
 | one h => exact .one (h.mine hm.1)
 | many hl h => exact .many hl (h.mine hm)
theorem qK.QK {tmps : Array Value} {v : Value} {us : List U} {F : List Nat} (h : qK ET w R v us F) : kI ET w R tmps v (xU us) F := by
 cases h with
 | one h => exact .u h
 | many hl h =>
  have : xU us = .tup us := by
   cases us with
   | nil => rfl
   | cons u us => cases us with
     | nil => simp at hl
     | cons _ _ => rfl
  rw [this]; exact .tup h
theorem vR {f : FuncId} (h : Is P f) (args : Array Value) (w : World) : (callFunc f args).run P w = .ok (.enter f args) w := by
 obtain ⟨fn, h1, h2, h3⟩ := h; have h4 : fn.body.isNone = false := by cases hb : fn.body <;> simp_all
 unfold callFunc; rw [Sem.run_bind, run_program]; simp only [Result.andThen_ok]; rw [h1]; simp only [h3, h4, bO, cQ, Sem.run_pure]
theorem zB {c : Callee} {args : Array Operand} {tys : Array TypeId} {f : FuncId} {caps : List C} (ho : o.op = .call { callee := c, args := args, argTypes := tys }) (hc : pI K σ c f caps) (hf : Is P f) (hs : jP K σ a w Fs) :
    ∃ vc, ig K.ET w K.R vc caps [] ∧ (execOp a.eval o).run P w = .ok (.enter f ((args.toList.map a.eval) ++ vc).toArray) w := by
 cases hc with
 | func =>
  refine ⟨[], .nil, ?_⟩; simp only [execOp, ho, resolve, Act.eval, Deferred.ofValue, Sem.run_bind, Sem.run_pure, Result.andThen_ok, invoke]; rw [vR hf]; congr 2; apply Array.toList_inj.mp; simp
 | @u i _ _ h =>
  have h1 := hs.rep i; rw [h] at h1; generalize hv : a.tmps.getD i undef = v at h1; generalize Fs i = F at h1
  cases h1 with | u h1 => cases h1 with
    | @fn _ arr _ h1 =>
      refine ⟨arr.toList, h1, ?_⟩
      simp only [execOp, ho, resolve, kE, hv, Deferred.ofValue, Sem.run_bind, Sem.run_pure, Result.andThen_ok, invoke]
      rw [vR hf]
      congr 2
      apply Array.toList_inj.mp
      simp
theorem ke.app {xs : List Value} {us : List U} {F : List Nat} (h : ke ET w R xs us F) {vc : List Value} {caps : List C} (hc : ig ET w R vc caps []) : ke ET w R (xs ++ vc) (us ++ caps.map .c) F := by
 induction us generalizing xs F with
 | nil =>
  cases h; simp only [cn]
  induction caps generalizing vc with
  | nil => cases hc; exact .nil
  | cons c caps ih =>
   generalize hF : ([] : List Nat) = F at hc
   cases hc with
   | cons h t =>
    obtain ⟨e1, e2⟩ := cO.mp hF.symm; subst e1; subst e2; simpa using ke.cons (kY.c h) (ih t)
 | cons u us ih => cases h with | cons h t => rw [bS, bS]; exact .cons h (ih t)
theorem qI.cut {xs : List Value} {os : List (Option U)} {F : List Nat} {vc : List Value} {n : Nat} (h : qI ET w R (xs ++ vc) (os ++ List.replicate n none) F) (hl : xs.length = os.length) : qI ET w R xs os F := by
 induction os generalizing xs F with
 | nil =>
  have : xs = [] := bB (by simpa using hl); subst this; simp only [cn] at h
  have : F = [] := by
   clear hl
   induction n generalizing vc with
   | zero => simp only [List.replicate_zero] at h; cases h; rfl
   | succ n ih => rw [ej] at h; cases h with | skip t => exact ih t
  subst this; exact .nil
 | cons u os ih =>
  cases xs with
  | nil => simp at hl
  | cons x xs =>
   rw [bS, bS] at h
   cases h with
   | skip t => exact .skip (ih t (by simpa using hl))
   | cons h t => exact .cons h (ih t (by simpa using hl))
def za (σ : St) : Option Nat → T → St
  | some d, t => put σ d t
  | none, _ => σ
def MQ (K : Ctx) : Option Nat → Bool
  | some d => mX K d
  | none => true
theorem jP.za (h : jP K σ a w Fs) {od : Option Nat} {v : Value} {t : T} {F : List Nat} (hd : MQ K od = true) (hF : rG K Fs F) (hr : ∀ d, od = some d → refs t d = false) (ht : kI K.ET w K.R a.tmps v t F) : rC K (V.za σ od t) (a.put od v) w := by
 cases od with
 | none => exact ⟨Fs, h⟩
 | some d => exact ⟨_, h.o6 hd (iB.refl w _) hF.2 hF.1 (ht.Ca (hr d rfl))⟩
theorem xb (us : List U) (d : Nat) : refs (xU us) d = false := by
 cases us with
 | nil => rfl
 | cons u us => cases us <;> rfl
theorem Nf {AR : Operand → U → Prop} {c : Callee} {args : Array Operand} {tys : Array TypeId} {f : FuncId} {caps : List C} {ins : List U} {hs : List (Option vG)} {outs : List (Option U)} {res : List U} {qm : Bool} (ho : o.op = .call { callee := c, args := args, argTypes := tys }) (hf : Is P f) (hc : pI K σ c f caps)
    (hA : o7 AR σ args.toList ins hs σ') (hAR : ∀ a w Fs, jP K σ' a w Fs → ∀ x u, AR x u → kY K.ET w (if qm then qY K Fs else K.R) (a.eval x) u []) (hac : MP K P f (ins ++ caps.map .c) (outs ++ List.replicate caps.length none) res) (hok : kK hs outs = true) (hm : qm = true → zz outs ∧ tc res)
    (hd : MQ K o.dst = true) : Step P K σ o (za (back hs outs (fun j => jq (σ' j))) o.dst (xU res)) := by
 rintro a w ⟨Fs, hsim⟩; obtain ⟨vc, hvc, hrun⟩ := zB (P := P) ho hc hf hsim; obtain ⟨vE, Fin, Fo, k1, k2, k3, k4, k5, k6⟩ := hsim.args hA; simp only [Oper.wp, hrun, Oper.upon_enter]; obtain ⟨R', hR'⟩ : ∃ R', (if qm then qY K vE else K.R) = R' := ⟨_, rfl⟩
 have hRR : ∀ b, K.R b → R' b := by
  intro b hb; rw [← hR']; split
  · exact .inl hb
  · exact hb
 have hRlt : ∀ b, R' b → b < w.heap.size := by
  intro b hb; rw [← hR'] at hb; split at hb
  · rcases hb with hb | ⟨j, hb⟩
    · exact bp (k1.ro b hb).1 k1.keeps.size
    · exact (k1.rep j).lt b hb
  · exact bp (k1.ro b hb).1 k1.keeps.size
 have hnodup := ax.mp k2.1
 have hinR : ∀ b ∈ Fin, ¬ R' b := by
  intro b hb jD; rw [← hR'] at jD; have h1 := k2.2 b (an _ hb); split at jD
  · rcases jD with h | ⟨j, h⟩
    · exact h1.2.1 h
    · exact h1.1 j h
  · exact h1.2.1 jD
 have hins := (k5 R' hRR (fun x u h => by rw [← hR']; exact hAR a w vE k1 x u h)).app (hvc.frame hRR (fun _ _ => rfl)); refine (hac R' w _ Fin hRR (fun b hb => k1.keeps.block b (k1.ro b hb).1 (k1.ro b hb).2) hins hnodup.1 hinR hRlt).mono ?_; rintro e w2 ⟨rv, H1, H2, rfl, hO, hRr, hnd, hsub, hk⟩
 have JP : qI K.ET w2 K.R (args.toList.map a.eval) outs H1 := by
  have hlen : (args.toList.map a.eval).length = outs.length := by
   have l1 : ∀ {σ0 : St} {xs : List Operand} {us : List U} {hs : List (Option vG)} {σ1 : St}, o7 AR σ0 xs us hs σ1 → xs.length = hs.length := by
    intro σ0 xs us hs σ1 h; induction h <;> simp_all
   have l2 : ∀ (hs : List (Option vG)) (os : List (Option U)), kK hs os = true → hs.length = os.length := by
    intro hs
    induction hs with
    | nil => intro os h; cases os <;> simp_all [kK]
    | cons x hs ih =>
     intro os h
     cases os with
     | nil => cases x <;> simp [kK] at h
     | cons y os =>
      simp only [bC]; congr 1; apply ih
      cases x with
      | none => cases y with
        | none => exact h
        | some u => simp [kK] at h
      | some x => cases y with
        | none => exact h
        | some u => cases u with
          | c u => exact h
          | agg u => simp [kK] at h
          | fn f u => simp [kK] at h
   rw [ak, l1 hA, l2 hs outs hok]
  have := hO.cut hlen
  cases hl : qm with
  | true => exact this.mine (hm hl).1
  | false => rw [hl, ag cA] at hR'; rw [hR']; exact this
 have vw : qK K.ET w2 K.R rv res H2 := by
  cases hl : qm with
  | true => exact hRr.mine (hm hl).2
  | false => rw [hl, ag cA] at hR'; rw [hR']; exact hRr
 have Dw := k1.world hk (fun b hb => (k2.2 b (an _ hb)).2.2) (fun j b hb h => (k2.2 b (an _ h)).1 j hb) (fun b hb => (k2.2 b (an _ hb)).2.1)
 have hFoK : ∀ b, (b ∈ Fo ∨ K.R b) → w2.heap[b]? = w.heap[b]? := by
  intro b hb; rcases hb with hb | hb
  · obtain ⟨j, hj⟩ := k3 b (ah _ hb); exact hk.block b ((hsim.rep j).lt b hj) (fun h => hnodup.2.2 b h b hb rfl)
  · exact hk.block b (hRlt b (hRR b hb)) (fun h => hinR b h (hRR b hb))
 have hfree : ∀ b ∈ H1 ++ H2, (∀ j, b ∉ vE j) ∧ ¬ K.R b ∧ (b ∈ K.E ∨ K.w0.heap.size ≤ b) := by
  intro b hb; rcases hsub b hb with h | h
  · exact k2.2 b (an _ h)
  · refine ⟨fun j hj => ?_, fun hR => ?_, .inr (bR k1.keeps.size h)⟩
    · have := (k1.rep j).lt b hj; omega
    · have := hRlt b (hRR b hR); omega
 have hHF : ∀ b ∈ H1 ++ H2, b ∉ Fo := by
  intro b hb h2; rcases hsub b hb with h | h
  · exact hnodup.2.2 b h b h2 rfl
  · obtain ⟨j, hj⟩ := k3 b (ah _ h2); have := (hsim.rep j).lt b hj; omega
 have hH := ax.mp hnd
 obtain ⟨xV, m1, m2⟩ := k6 w2 _ vE outs H1 Dw hok hFoK JP ⟨by
  rw [ax]
  exact ⟨hH.1, hnodup.2.1, fun x hx y hy e => hHF x (an _ hx) (e ▸ hy)⟩, fun b hb => by
  rcases aT.mp hb with hb | hb
  · exact hfree b (an _ hb)
  · exact k2.2 b (ah _ hb)⟩
 refine m1.za hd ⟨hH.2.1, fun b hb => ⟨fun j hj => ?_, (hfree b (ah _ hb)).2⟩⟩ (fun d _ => xb res d) vw.QK; rcases m2 j b hj with h | h | h
 · exact (hfree b (ah _ hb)).1 j h
 · exact hH.2.2 b h b hb rfl
 · exact hHF b (ah _ hb) h
end
end Go.Proofs.Ytmjnenjeckeklaa.V
namespace Go.Proofs.Ytmjnenjeckeklaa.V
open Go Go.RowKit
inductive MH (AR : Operand → U → Prop) : List Operand → List U → Prop
  | nil : MH AR [] []
  | cons {x : Operand} {u : U} {xs : List Operand} {us : List U} (h : AR x u) (t : MH AR xs us) : MH AR (x :: xs) (u :: us)
def sD (us : List U) : St := fun i => match us[i]? with
  | some u => .u u
  | none => .junk
def TY (K : Ctx) (rts : List Nat) (outs : List (Option U)) (res : List U) (e : Exit) (σ : St) : Prop :=
  (e = .normal ∨ e = .ret) ∧ ∃ σ' us, Ds K σ (rts.map fun t => (t, .tmp t)) us σ' ∧ us.map (·.2) = res ∧ ∀ (i : Nat) (u : U), outs[i]? = some (some u) → σ' i = .u u ∧ K.pins.contains i = true
section
variable {P : Program} {ET : TypeId} {w w' : World} {R R' : Nat → Prop} {K : Ctx} {σ σ' : St} {a : Act} {Fs : Nat → List Nat} {o : Oper} {d : Nat}
theorem MR {c : Callee} {args : Array Operand} {tys : Array TypeId} {f : FuncId} {caps : List C} {ins : List U} {hs : List (Option vG)} {outs : List (Option U)} {res : List U} (ho : o.op = .call { callee := c, args := args, argTypes := tys }) (hf : Is P f) (hc : pI K σ c f caps)
    (hA : o7 (AF K σ') σ args.toList ins hs σ') (hac : MP K P f (ins ++ caps.map .c) (outs ++ List.replicate caps.length none) res) (hok : kK hs outs = true)
    (hd : MQ K o.dst = true) : Step P K σ o (za (back hs outs (fun j => jq (σ' j))) o.dst (xU res)) :=
  Nf (qm := false) ho hf hc hA (fun _ _ _ hs x u h => by simpa using h.rep hs) hac hok (by simp) hd
theorem MH.YP {AR : Operand → U → Prop} {xs : List Operand} {us : List U} (h : MH AR xs us) (hA : ∀ x u, AR x u → kY ET w R (a.eval x) u []) : ke ET w R (xs.map a.eval) us [] := by
 induction h with
 | nil => exact .nil
 | cons h t ih => exact ke.cons (hA _ _ h) ih
theorem D6 {AR : Operand → U → Prop} {c : Callee} {args : Array Operand} {tys : Array TypeId} {f : FuncId} {caps : List C} {ins : List U} {outs : List (Option U)} {res : List U} {qm : Bool} (ho : o.op = .call { callee := c, args := args, argTypes := tys }) (hf : Is P f) (hc : pI K σ c f caps)
    (hA : MH AR args.toList ins) (hAR : ∀ a w Fs, jP K σ a w Fs → ∀ x u, AR x u → kY K.ET w (if qm then qY K Fs else K.R) (a.eval x) u []) (hac : MP K P f (ins ++ caps.map .c) outs res) (hm : qm = true → tc res)
    (hd : MQ K o.dst = true) : Step P K σ o (za σ o.dst (xU res)) := by
 rintro a w ⟨Fs, hsim⟩; obtain ⟨vc, hvc, hrun⟩ := zB (P := P) ho hc hf hsim; simp only [Oper.wp, hrun, Oper.upon_enter]; obtain ⟨R', hR'⟩ : ∃ R', (if qm then qY K Fs else K.R) = R' := ⟨_, rfl⟩
 have hRR : ∀ b, K.R b → R' b := by
  intro b hb; rw [← hR']; split
  · exact .inl hb
  · exact hb
 have hRlt : ∀ b, R' b → b < w.heap.size := by
  intro b hb; rw [← hR'] at hb; split at hb
  · rcases hb with hb | ⟨j, hb⟩
    · exact bp (hsim.ro b hb).1 hsim.keeps.size
    · exact (hsim.rep j).lt b hb
  · exact bp (hsim.ro b hb).1 hsim.keeps.size
 have hins := (hA.YP (fun x u h => by have := hAR a w Fs hsim x u h; rw [hR'] at this; exact this)).app (hvc.frame hRR (fun _ _ => rfl)); refine (hac R' w _ [] hRR (fun b hb => hsim.keeps.block b (hsim.ro b hb).1 (hsim.ro b hb).2) hins bu (by simp) hRlt).mono ?_; rintro e w2 ⟨rv, H1, H2, rfl, hO, hRr, hnd, hsub, hk⟩
 have vw : qK K.ET w2 K.R rv res H2 := by
  cases hl : qm with
  | true => exact hRr.mine (hm hl)
  | false => rw [hl, ag cA] at hR'; rw [hR']; exact hRr
 have hfree : rG K Fs H2 := ⟨(ax.mp hnd).2.1, fun b hb => by
  rcases hsub b (ah _ hb) with h | h
  · cases h
  · refine ⟨fun j hj => ?_, fun hR => ?_, .inr (bR hsim.keeps.size h)⟩
    · have := (hsim.rep j).lt b hj; omega
    · have := hRlt b (hRR b hR); omega⟩
 cases hod : o.dst with
 | none =>
  refine ⟨Fs, ?_⟩; have hall : ∀ b, b < w.heap.size → w2.heap[b]? = w.heap[b]? := fun b hb => hk.block b hb (by simp); refine ⟨fun i => (hsim.rep i).turn (fun b hb => hall b (hb.elim ((hsim.rep i).lt b) (fun h => hRlt b (hRR b h)))) (fun s p v q => tN hall) (fun ad sv sz lo n v hc _ => (pX (hall _ (yj hc))).trans hc) (fun _ _ => rfl), hsim.nd, hsim.dis, hsim.own, hsim.keeps.trans hk (by simp), hsim.ro, hsim.size, hsim.pin, hsim.defers⟩
 | some d =>
  rw [hod] at hd; exact ⟨_, hsim.o6 hd hk hfree.2 hfree.1 (vw.QK.Ca (xb res d))⟩
theorem MS {c : Callee} {args : Array Operand} {tys : Array TypeId} {f : FuncId} {caps : List C} {ins : List U} {outs : List (Option U)} {res : List U} (ho : o.op = .call { callee := c, args := args, argTypes := tys }) (hf : Is P f) (hc : pI K σ c f caps)
    (hA : MH (AF K σ) args.toList ins) (hac : MP K P f (ins ++ caps.map .c) outs res) (hd : MQ K o.dst = true) : Step P K σ o (za σ o.dst (xU res)) :=
  D6 (qm := false) ho hf hc hA (fun _ _ _ hs x u h => by simpa using h.rep hs) hac (by simp) hd
theorem Lc {c : Callee} {args : Array Operand} {tys : Array TypeId} {f : FuncId} {caps : List C} {ins : List U} {outs : List (Option U)} {res : List U} (ho : o.op = .call { callee := c, args := args, argTypes := tys }) (hf : Is P f) (hc : pI K σ c f caps)
    (hA : MH (xd K σ) args.toList ins) (hac : MP K P f (ins ++ caps.map .c) outs res) (hm : tc res) (hd : MQ K o.dst = true) : Step P K σ o (za σ o.dst (xU res)) :=
  D6 (qm := true) ho hf hc hA (fun _ _ _ hs x u h => by simpa using h.rep hs) hac (fun _ => hm) hd
theorem ke.fs {xs : List Value} {us : List U} {F : List Nat} (h : ke ET w R xs us F) (hnd : F.Nodup) : ∃ Fs : Nat → List Nat, (∀ i u, us[i]? = some u → ∃ x, xs[i]? = some x ∧ kY ET w R x u (Fs i)) ∧ (∀ i, us.length ≤ i → Fs i = []) ∧ (∀ i, (Fs i).Nodup) ∧ (∀ i j b, b ∈ Fs i → b ∈ Fs j → i = j) ∧ (∀ i b, b ∈ Fs i → b ∈ F) := by
 induction us generalizing xs F with
 | nil => cases h; exact ⟨fun _ => [], by simp, fun _ _ => rfl, fun _ => bu, by simp, by simp⟩
 | cons u us ih =>
  cases h with
  | @cons x _ xs _ F1 G h t =>
   obtain ⟨n1, n2, n3⟩ := ax.mp hnd; obtain ⟨Fs, h1, h2, h3, h4, h5⟩ := ih t n2; refine ⟨fun i => match i with | 0 => F1 | i + 1 => Fs i, ?_, ?_, ?_, ?_, ?_⟩
   · intro i u' hi
     cases i with
     | zero => simp only [bF, aC] at hi; subst hi; exact ⟨x, rfl, h⟩
     | succ i => simpa using h1 i u' (by simpa using hi)
   · intro i hi
     cases i with
     | zero => simp at hi
     | succ i => exact h2 i (by simpa using hi)
   · intro i; cases i with
     | zero => exact n1
     | succ i => exact h3 i
   · intro i j b hi hj
     cases i with
     | zero => cases j with
       | zero => rfl
       | succ j => exact absurd rfl (n3 b hi b (h5 j b hj))
     | succ i => cases j with
       | zero => exact absurd rfl (n3 b hj b (h5 i b hi))
       | succ j => rw [h4 i j b hi hj]
   · intro i b hb
     cases i with
     | zero => exact an _ hb
     | succ i => exact ah _ (h5 i b hb)
theorem ke.len {xs : List Value} {us : List U} {F : List Nat} (h : ke ET w R xs us F) : xs.length = us.length := by
 induction us generalizing xs F with
 | nil => cases h; rfl
 | cons u us ih => cases h with | cons h t => simp [ih t]
theorem zQ {α β : Type} (f : α → Sem β) (g : α → β) (h : ∀ x, f x = pure (g x)) (l : List α) : l.mapM f = pure (l.map g) := by
 induction l with
 | nil => rfl
 | cons x l ih => simp only [List.mapM_cons, ih, h, pure_bind, aK]
theorem D7 {fn : Func} {rts : List Nat} (h : fn.results = (rts.map ResultVar.tmp).toArray) (tmps : Array Value) (w : World) :
    (results fn tmps).run P w = .ok (match rts.map (tmps.getD · undef) with | [v] => v | vs => .tuple vs.toArray) w := by
 unfold results; rw [h, List.mapM_toArray, List.mapM_map, zQ (g := fun t => tmps.getD t undef)]
 · match rts with
   | [] => rfl
   | [t] => rfl
   | t :: u :: l => simp
 · intro x; rfl
theorem zR.res {xs : List (Nat × Value)} {us : List (Nat × U)} {F : List Nat} (h : zR ET w R xs us F) : ke ET w R (xs.map (·.2)) (us.map (·.2)) F := by
 induction us generalizing xs F with
 | nil => cases h; exact .nil
 | cons u us ih => cases h with | cons h _ t => exact .cons h (ih t)
theorem zP {outs : List (Option U)} {vs : List Value} {Fs : Nat → List Nat} {k : Nat} (hl : outs.length = vs.length) (h : ∀ (i : Nat) (u : U), outs[i]? = some (some u) → ∃ v, vs[i]? = some v ∧ kY ET w R v u (Fs (k + i))) : ∃ H, qI ET w R vs outs H ∧ ((∀ i, (Fs i).Nodup) → (∀ i j b, b ∈ Fs i → b ∈ Fs j → i = j) → H.Nodup) ∧ ∀ b ∈ H, ∃ j, k ≤ j ∧ b ∈ Fs j := by
 induction outs generalizing vs k with
 | nil => cases vs with
   | nil => exact ⟨[], .nil, fun _ _ => bu, by simp⟩
   | cons _ _ => simp at hl
 | cons u outs ih =>
  cases vs with
  | nil => simp at hl
  | cons v vs =>
   obtain ⟨H, h1, h2, h3⟩ := ih (vs := vs) (k := k + 1) (by simpa using hl) (fun i u hi => by
    have := h (i + 1) u (by simpa using hi); rw [show k + (i + 1) = k + 1 + i by omega] at this
    simpa using this)
   cases u with
   | none => exact ⟨H, .skip h1, h2, fun b hb => by obtain ⟨j, h4, h5⟩ := h3 b hb; exact ⟨j, by omega, h5⟩⟩
   | some u =>
    obtain ⟨v', h4, h5⟩ := h 0 u rfl; simp only [bF, aC] at h4; subst h4; refine ⟨Fs k ++ H, .cons (by simpa using h5) h1, fun n1 n2 => ?_, fun b hb => ?_⟩
    · rw [ax]; refine ⟨n1 k, h2 n1 n2, fun x hx y hy e => ?_⟩; subst e; obtain ⟨j, h6, h7⟩ := h3 x hy; have := n2 k j x hx h7; omega
    · rcases aT.mp hb with hb | hb
      · exact ⟨k, aM _, hb⟩
      · obtain ⟨j, h6, h7⟩ := h3 b hb; exact ⟨j, by omega, h7⟩
theorem I7 {T : (Nat → Prop) → World → Prop} {f : FuncId} {fn : Func} {c : Code} {ins : List U} {outs : List (Option U)} {res : List U} {rts : List Nat} {n : Nat} {pins : List Nat} (hf : P.funcs[f]? = some fn) (hb : fn.body = some c) (hn : fn.ntmps = n) (hr : fn.results = (rts.map ResultVar.tmp).toArray) (hin : ins.length ≤ n) (hpin : ∀ i, pins.contains i = true → i < ins.length) (hout : outs.length = ins.length)
    (h : ∀ (w : World) (R : Nat → Prop) (E : List Nat) (vs : Nat → Value), T R w → lC P ⟨ET, w, R, E, n, pins, vs⟩ c (sD ins) (TY ⟨ET, w, R, E, n, pins, vs⟩ rts outs res)) : Tx T P ET f ins outs res := by
 intro R w vs F hT hrep hnd hR hRlt; obtain ⟨Fs, f1, f2, f3, f4, f5⟩ := hrep.fs hnd; have hlen := hrep.len
 have htm : ∀ i, i < vs.length → (vs.toArray ++ Array.replicate (fn.ntmps - vs.toArray.size) undef).getD i undef = vs.getD i undef := by
  intro i hi; simp [bq, aH, eR, hi]
 refine calls_of_wp hf hb ?_
 have hs : rC ⟨ET, w, R, F, n, pins, fun i => vs.getD i undef⟩ (sD ins) { tmps := vs.toArray ++ Array.replicate (fn.ntmps - vs.toArray.size) undef, defers := [] } w := by
  refine ⟨Fs, ?_, f3, f4, fun i b hb => ⟨hR b (f5 i b hb), .inl (f5 i b hb)⟩, iB.refl w F, fun b hb => ⟨hRlt b hb, fun h => hR b h hb⟩, by simp [hn, hlen]; omega, fun i hi => htm i (by rw [hlen]; exact hpin i hi), rfl⟩; intro i; unfold sD
  cases hu : ins[i]? with
  | none =>
   have : ins.length ≤ i := by
    rcases b5 i ins.length with h | h
    · rw [aA h] at hu; cases hu
    · exact h
   rw [f2 i this]; exact .junk _
  | some u =>
   obtain ⟨x, hx, hru⟩ := f1 i u hu
   have hi : i < vs.length := by
    rcases b5 i vs.length with h | h
    · exact h
    · rw [bH h] at hx; cases hx
   simp only; rw [htm i hi, aH, hx]; exact .u hru
 refine wp_mono (h w R F (fun i => vs.getD i undef) hT _ _ hs) ?_; rintro e a' w' ⟨σ, ⟨xV, hsim⟩, he, σ', us, hsrc, hres, houts⟩; obtain ⟨G, Fs3, hp, CL, hG, g1, _⟩ := hsim.takes hsrc; have hrr := hp.res; rw [bW] at hrr
 have hvs : (rts.map (fun t => (t, Operand.tmp t))).map ((fun x => x.2) ∘ fun p => (p.1, a'.eval p.2)) = rts.map (a'.tmps.getD · undef) := by
  rw [bW]; apply bY; intro t _; rfl
 rw [hvs, hres] at hrr
 obtain ⟨H, TW, TX, PK⟩ := zP (ET := ET) (w := w') (R := R) (outs := outs) (vs := vs) (Fs := Fs3) (k := 0) (by rw [hout, hlen]) (fun i u hi => by
  obtain ⟨h1, h2⟩ := houts i u hi; have h3 := CL.rep i; rw [h1] at h3; have h4 := CL.pin i h2; have hi2 : i < vs.length := by rw [hlen]; exact hpin i h2
  simp only at h4; rw [h4] at h3; refine ⟨vs.getD i undef, by rw [aH, aA hi2]; rfl, ?_⟩; rw [aG]; generalize Fs3 i = F3 at h3; generalize vs.getD i undef = v at h3 ⊢
  cases h3 with | u h => exact h)
 have hfin : ∃ v, (results fn a'.tmps).run P w' = .ok v w' ∧ ∃ rv H1 H2, Ending.returned v = .returned rv ∧ qI ET w' R vs outs H1 ∧ qK ET w' R rv res H2 ∧ (H1 ++ H2).Nodup ∧ (∀ b ∈ H1 ++ H2, b ∈ F ∨ w.heap.size ≤ b) ∧ iB w F w' := by
  refine ⟨_, D7 hr a'.tmps w', _, H, G, rfl, TW, ?_, ?_, ?_, hsim.keeps⟩
  · generalize hl : rts.map (a'.tmps.getD · undef) = l at hrr; have hll := hrr.len
    match l, hrr with
    | [v], hrr =>
     match res, hrr with
     | [u], .cons h .nil => simpa using qK.one h
    | [], hrr => exact .many (by simp at hll; omega) (by simpa using hrr)
    | v1 :: v2 :: l, hrr => exact .many (by simp at hll; omega) (by simpa using hrr)
  · rw [ax]; refine ⟨TX CL.nd CL.dis, hG.1, fun x hx y hy e => ?_⟩; subst e; obtain ⟨j, _, hj⟩ := PK x hx; exact (hG.2 x hy).1 j hj
  · intro b hb; rcases aT.mp hb with hb | hb
    · obtain ⟨j, _, hj⟩ := PK b hb; exact (CL.own j b hj).2
    · exact (hG.2 b hb).2.2
 rcases he with rfl | rfl
 · exact ⟨hsim.defers, hfin⟩
 · exact ⟨hsim.defers, hfin⟩
theorem iR {f : FuncId} {fn : Func} {c : Code} {ins : List U} {outs : List (Option U)} {res : List U} {rts : List Nat} {n : Nat} {pins : List Nat} (hf : P.funcs[f]? = some fn) (hb : fn.body = some c) (hn : fn.ntmps = n) (hr : fn.results = (rts.map ResultVar.tmp).toArray) (hin : ins.length ≤ n) (hpin : ∀ i, pins.contains i = true → i < ins.length) (hout : outs.length = ins.length)
    (h : ∀ (w : World) (R : Nat → Prop) (E : List Nat) (vs : Nat → Value), lC P ⟨ET, w, R, E, n, pins, vs⟩ c (sD ins) (TY ⟨ET, w, R, E, n, pins, vs⟩ rts outs res)) : AC P ET f ins outs res :=
  fun R w vs F => I7 (T := fun _ _ => True) hf hb hn hr hin hpin hout (fun w R E vs _ => h w R E vs) R w vs F trivial
end
end Go.Proofs.Ytmjnenjeckeklaa.V
