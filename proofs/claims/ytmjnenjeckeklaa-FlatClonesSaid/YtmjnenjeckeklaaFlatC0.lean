import Derived.Test.YtmjnenjeckeklaaVZh
import Derived.Test.YtmjnenjeckeklaaQx0
namespace Go.Proofs.Ytmjnenjeckeklaa.V
open Go Go.RowKit Go.Proofs.YtmjnenjeckeklaaW.PrintWords Go.Proofs.YtmjnenjeckeklaaW.PrintLast Go.Proofs.YtmjnenjeckeklaaW.PrintMore Go.Proofs.Ytmjnenjeckeklaa.Q
set_option linter.unusedVariables false
set_option linter.unusedSimpArgs false
abbrev uc (c : C) : T := .u (.c c)
abbrev rP (a : l6) : C := .pt true [.v (.bool a.f0), .v (.bool a.f1)]
abbrev zL : List C := [.v (.int .i64 0), .v (.int .i64 0), .v (.bool false), .v (.bool false), .v (.bool false)]
abbrev aL (x : gu) : List C := [.v (.int .i64 x.f0), .v (.int .i64 x.f1), .v (.bool x.f2.f0), .v (.bool x.f2.f1), .v (.bool x.f3)]
def ie (x : gu) : List C := [.v (.int .i64 x.f0), .v (.int .i64 x.f1), .v (.bool x.f2.f0), .v (.bool x.f2.f1), .v (.bool x.f3)]
def jE (x : j5) : List C := [.v (.bool x.f0), .v (.bool x.f1), .v (.bool x.f2), .v (.bool x.f3)]
section
variable {α : Type} {d : Kd α} {fe : α → List C} {fv : α → List Value} {ET : TypeId} {w w' : World} {R : Nat → Prop} {v : Value} {F : List Nat} {l : List α}
theorem I3 (vs : List Value) : qq (vs.map C.v) = some vs := by
 induction vs with
 | nil => rfl
 | cons v vs ih => simp only [aK, qq, NV, ih]
theorem qy (hf : ∀ x, fe x = (fv x).map C.v) (hK : ∀ w x, d.K w x (fv x)) {own : Bool} (h : iz ET w R v (.sl own d.sz (l.map fe)) F) (hl : l.length ≤ 1000000) : ∃ A c, v = .slice A l.length c ∧ d.C w A l.length l ∧ l.length ≤ c := by
 have h0 := h; generalize hrows : l.map fe = rows at h
 cases h with
 | nil =>
  have : l = [] := dh.mp hrows; subst this; exact ⟨none, 0, rfl, ⟨rfl, by simp, fun h => by simp at h⟩, aM _⟩
 | @sl b off len cap _ _ arr et _ F1 _ hb hlen hcap hsz hfit hrow hrep ho hz =>
  subst hrows; rw [ak] at hlen; subst hlen; refine ⟨_, _, rfl, ⟨rfl, by omega, fun _ => ⟨_, rfl, fun j p hj => ?_⟩⟩, hcap⟩; obtain ⟨b', o', arr', et', Fo, Fi, e1, e2, e3, e4, _⟩ := h0.DY (s := .i j d.sz) (cs := fe p) (by simp [qj, bD, hj]); simp only [su, aC, bE] at e1; obtain ⟨rfl, rfl⟩ := e1; rw [hf] at e4 e3; obtain ⟨e5, rfl⟩ := e4.vals (I3 _); have e6 := e4.length; refine ⟨fv p, d.K_len (hK w p), hK w p, fun i u hu => ?_⟩; have := kT e2 (j := i) (x := u) (n := ((fv p).map C.v).length) (by rw [e5]; exact hu); unfold Addr.add; split
  · rename_i e; rw [← this]; congr 2; omega
  · rw [← this]; congr 2; simp only; omega
theorem Hy {n : Nat} (hf : ∀ x, fe x = (fv x).map C.v) (hpl : ∀ x, (fv x).all ot = true) {M : α → List Value → Prop} (hM : ∀ x cs, M x cs → cs = fv x) : ∀ {l : List α} {cs : List Value}, jj M n l cs → ig ET w R cs (l.map fe).flatten []
  | [], cs, h => by
    have h1 := h.1
    simp only [cW, dH] at h1
    rw [fB.mp h1]
    exact .nil
  | x :: l, cs, h => by
    have h1 := h.1
    have h2 := hM _ _ (h.2 0 x rfl)
    rw [dH, cl] at h2
    have h3 : jj M n l (cs.drop n) := by
     refine ⟨by rw [aQ, h1, bC, bQ, ei]; omega, fun j p hj => ?_⟩; have := h.2 (j + 1) p (by simpa using hj); rw [cG]; rw [bQ, ei, fo] at this; exact this
    rw [aK, cv, ← bl n cs, h2, hf]
    exact ig.append (F := []) (G := []) (xB (hpl x)) (Hy hf hpl hM h3)
theorem vT {e base : Nat} {ok : Nat → Prop} (hf : ∀ x, fe x = (fv x).map C.v) (hpl : ∀ x, (fv x).all ot = true) (hM : ∀ w base ok x cs, d.M w base ok x cs → cs = fv x) (hln : ∀ x, (fv x).length = d.sz) (h0 : 0 < d.sz) (h : d.R e w base ok v l) : ∃ F, iz ET w R v (.sl true d.sz (l.map fe)) F ∧ F.Nodup ∧ ∀ b ∈ F, base ≤ b := by
 obtain ⟨_, inner, ⟨h1, h2⟩, h3⟩ := h; have h4 := Hy (ET := ET) (w := w) (R := R) hf hpl (hM _ _ _) h3; rcases h2 with ⟨rfl, h2⟩ | ⟨g, cap, cur, rfl, hb, hg, hc, hm, hs, ht⟩
 · have : l = [] := fB.mp h2; subst this; exact ⟨[], .nil true _, bu, by simp⟩
 · refine ⟨[g], .sl (F := []) (et := (e, (0, 0))) hg (by rw [ak]) hc h0 (by omega) (fun r hr => ?_) (by rw [cl, ht]; exact h4) (.inl ⟨rfl, rfl⟩) (fun _ => rfl), by simp, fun b jD => by rw [aE.mp jD]; exact hb⟩; obtain ⟨x, _, rfl⟩ := aX.mp hr; rw [hf, ak, hln]
end
def tj (x : gu) : List Value := [.int .i64 x.f0, .int .i64 x.f1, .bool x.f2.f0, .bool x.f2.f1, .bool x.f3]
def YN (x : j5) : List Value := [.bool x.f0, .bool x.f1, .bool x.f2, .bool x.f3]
theorem vU {w : World} {R : Nat → Prop} (t : Option Int) : iz 45 w R (wN t) (.err t) [] := by
 cases t with
 | none => exact .err none
 | some n => exact .err (some n)
theorem NX {ET : TypeId} {w : World} {R : Nat → Prop} (x : gu) : ig ET w R (tj x) (ie x) [] := xB (ks := tj x) rfl
theorem tZ {ET : TypeId} {w : World} {R : Nat → Prop} {arr : Array Value} {cs : List C} {F : List Nat} {vs : List Value} (h : ig ET w R arr.toList cs F) (hv : qq cs = some vs) : arr = vs.toArray := by
 rw [← (h.vals hv).1]
theorem zN (x : gu) : (ie x).all lR = true := rfl
abbrev zA : gu := ⟨0, 0, ⟨false, false⟩, false⟩
def Rk (w : World) (A : Option Addr) (c : Nat) (l : List gu) : Prop := Kd.C kN w A l.length l ∧ iz 45 w (fun b => b < w.heap.size) (.slice A l.length c) (.sl false 5 (l.map ie)) []
theorem NY {ET : TypeId} {w : World} {R : Nat → Prop} {v : Value} {sz : Nat} {rows : List (List C)} {F : List Nat} (h : iz ET w R v (.sl false sz rows) F) : F = [] := by
 cases h with
 | nil => rfl
 | sl _ _ _ _ _ _ _ ho _ =>
  rcases ho with ⟨h, _⟩ | ⟨_, _, _, h⟩
  · cases h
  · exact h
theorem DZ {w : World} {R : Nat → Prop} {A : Option Addr} {c : Nat} {l : List gu} {F : List Nat} (h0 : iz 45 w R (.slice A l.length c) (.sl false 5 (l.map ie)) F) (hC : Kd.C kN w A l.length l) (hR : ∀ x, R x → x < w.heap.size) : Rk w A c l :=
  ⟨hC, by obtain rfl := NY h0; exact h0.frame hR (fun _ _ => rfl)⟩
theorem m7 {w w1 : World} {A : Option Addr} {c : Nat} {l : List gu} (h : Rk w A c l) (hb : Below w.heap.size w w1) : Rk w1 A c l :=
  ⟨Kd.nQ h.1 hb, h.2.frame (fun b hb' => bp hb' hb.size) (fun b hb' => hb.block b (hb'.resolve_left (by simp)))⟩
end Go.Proofs.Ytmjnenjeckeklaa.V
