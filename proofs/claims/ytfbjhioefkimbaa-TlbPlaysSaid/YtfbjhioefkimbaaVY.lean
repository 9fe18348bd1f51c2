/- V: closures made; whether a slice is nil; the head of a slice of one's own goes on as that slice; a part cleared. -/
import Derived.Test.YtfbjhioefkimbaaVU
import Derived.Lib.AppendZerosOnto
import Derived.Lib.Overlaps
import Derived.KernelRfl
namespace Go.Proofs.Ytfbjhioefkimbaa.V
open Go Go.RowKit
set_option linter.unusedVariables false
set_option linter.unusedSimpArgs false
section
variable {P : Program} {ET : TypeId} {w w' : World} {R : Nat → Prop} {K : Ctx} {σ σ' : St} {a : Act} {Fs : Nat → List Nat} {o : Oper} {d : Nat}
theorem s_makeFunc {f : FuncId} {cs : Array Operand} {is : List Nat} (ho : o.op = .makeFunc (.func f) #[] cs) (hc : cs.toList = is.map .tmp) (hd : o.dst = some d) (hn : okT K d = true) (hr : (is.any fun r => r == d) = false) : Step P K σ o (put σ d (.fn f (is.map .ref))) :=
  step_quiet hd hn (by show ((is.map Cap.ref).any _) = false; rw [List.any_map]; exact hr) (fun a w Fs hs => by
    refine ⟨.func (.func f) #[] (cs.map a.eval), by simp [execOp, ho, Instr.makeFunc, pure], .fn ?_ (fun i c hi => ?_)⟩
    · have := congrArg List.length hc
      simpa using this
    · have h1 : (cs.toList.map a.eval)[i]? = ((is.map Operand.tmp).map a.eval)[i]? := by rw [hc]
      rw [List.getElem?_map] at hi
      cases hi2 : is[i]? with
      | none => rw [hi2] at hi; cases hi
      | some r =>
        rw [hi2] at hi
        simp only [Option.map_some, Option.some.injEq] at hi
        subst hi
        refine ⟨a.tmps.getD r undef, ?_, rfl⟩
        rw [List.getElem?_map, List.getElem?_map, List.getElem?_map, hi2] at h1
        simp only [Option.map_some] at h1
        rw [getD_eval] at h1
        simpa using h1)
/-- What a variable's cell owns is loaded, and goes with it. -/
theorem s_loadTake {t i r off : Nat} {s : Sel} {p : List (Nat × Sel)} {c c' x : C} {cs : List C} (ho : o.op = .load t (.tmp i)) (ht : OneT P t) (hi : aliasT i (σ i) = .addr r s p off) (hr : σ r = .u (.c c)) (hg : getP c s p = some cs) (hx : cs[off]? = some x)
    (hown : ownP c s p = true) (e : setP c s p (cs.set off .dead) = c') (hd : o.dst = some d) (hn : okT K d = true) : Step P K σ o (put (upd σ r (.u (.c c'))) d (.u (.c x))) := by
  rintro a w ⟨Fs, hs⟩
  obtain ⟨b, o', arr, et, Fi, h1, h2, h3, h4, h5⟩ := hs.place hi hr hg
  have hR := hs.rep r
  rw [hr] at hR
  have hnd := hs.nd r
  have hdi := fun j b (hj : j ≠ r) (hb : b ∈ Fs r) (hb2 : b ∈ Fs j) => hj (hs.dis j r b hb2 hb)
  have how := hs.own r
  have hout := hs.out r
  generalize hv : a.tmps.getD r undef = v at hR h5
  generalize hFr : Fs r = F at hR hnd hdi how
  cases hR with
  | u hR => cases hR with
    | c hR =>
      obtain ⟨y, Fo, Fx, k1, k2, k3, k4⟩ := RepC.cell (pl := some (s, p, off)) hv hR hnd (by simp only [cellAt, hg, Option.bind_some]; exact hx) hown
      obtain ⟨F2, k5, k6⟩ := k4 w .dead [] (fun _ _ => rfl) (.dead y)
      rw [List.append_nil] at k6
      have hcell : w.cell? ⟨b, o' + off, none⟩ = some y := by
        simp only [slAt, hv, h5, Option.bind_some] at k1
        exact k1
      have hrun : (execOp a.eval o).run P w = .ok (.value y) w := by
        simp only [execOp, ho, h1, Sem.run_bind, run_load1 ht hcell, Result.andThen_ok, Sem.run_pure]
      simp only [Oper.wp, hrun, Oper.upon_value, hd]
      have hnd2 : (Fo ++ Fx).Nodup := k2.nodup_iff.mp hnd
      have e2 : setAt c (some (s, p, off)) .dead = c' := by simp only [setAt, hg, Option.getD_some]; exact e
      rw [e2] at k5
      have hs2 := hout.in_ (i := r) (t := .u (.c c')) (F := F2) (by rw [hv]; exact .u (.c k5)) (k6.nodup_iff.mpr (List.nodup_append.mp hnd2).1) (fun j hj b' hb' hb2 => by
        unfold updF at hb2
        try rw [if_neg hj] at hb2
        exact hdi j b' hj (k2.mem_iff.mpr (List.mem_append_left _ (k6.mem_iff.mp hb'))) hb2) (fun b' hb' => how b' (k2.mem_iff.mpr (List.mem_append_left _ (k6.mem_iff.mp hb'))))
      rw [upd_upd] at hs2
      exact ⟨_, hs2.put2 hn (Keeps.refl _ _) (F := Fx) (fun b' hb' => ⟨fun j hj => by
        unfold updF at hj
        split at hj
        · exact (List.nodup_append.mp hnd2).2.2 b' (k6.mem_iff.mp hj) b' hb' rfl
        · rename_i hne
          try rw [if_neg hne] at hj
          exact hdi j b' hne (k2.mem_iff.mpr (List.mem_append_right _ hb')) hj, how b' (k2.mem_iff.mpr (List.mem_append_right _ hb'))⟩) (List.nodup_append.mp hnd2).2.1 (.u (.c k3))⟩
/-- A load through a pointer to a variable that is only read. -/
theorem SimF.roPlace (hs : SimF K σ a w Fs) {i : Nat} {cs : List C} (hr : σ i = .u (.c (.pt false cs))) : ∃ b arr, ∃ et : TypeId, a.eval (.tmp i) = .pointer (some ⟨b, 0, none⟩) ∧ w.heap[b]? = some (.cells arr et (0, 0)) ∧ RepL K.ET w K.R arr.toList cs [] := by
  have hR := hs.rep i
  rw [hr] at hR
  rw [getD_eval]
  generalize a.tmps.getD i undef = v at hR
  generalize Fs i = F at hR
  cases hR with
  | u hR => cases hR with
    | c hR => cases hR with
      | pt hb hrep ho =>
        rcases ho with ⟨h, _⟩ | ⟨_, _, rfl, _⟩
        · cases h
        · exact ⟨_, _, _, rfl, hb, hrep⟩
theorem s_loadR1 {t i : Nat} {x : C} {cs : List C} (ho : o.op = .load t (.tmp i)) (ht : OneT P t) (hr : σ i = .u (.c (.pt false cs))) (hx : cs[0]? = some x) (hc : copyC x = true) (hd : o.dst = some d) (hn : okT K d = true) : Step P K σ o (put σ d (.u (.c x))) :=
  step_quiet hd hn rfl (fun a w Fs hs => by
    obtain ⟨b, arr, et, h1, h2, h4⟩ := hs.roPlace hr
    obtain ⟨y, F1, Fj, F2, hy, _, hrx, _⟩ := h4.at_ hx
    rw [hrx.copy hc] at hrx
    have hcell : w.cell? ⟨b, 0, none⟩ = some y := by
      simp only [World.cell?, h2]
      simpa using hy
    refine ⟨y, ?_, .u (.c hrx)⟩
    simp only [execOp, ho, h1, Sem.run_bind, run_load1 ht hcell, Result.andThen_ok, Sem.run_pure])
theorem s_loadRA {t i n : Nat} {cs : List C} (ho : o.op = .load t (.tmp i)) (ht : AggT P t n) (hr : σ i = .u (.c (.pt false cs))) (hl : cs.length = n) (hd : o.dst = some d) (hn : okT K d = true) : Step P K σ o (put σ d (.u (.agg cs))) :=
  step_quiet hd hn rfl (fun a w Fs hs => by
    obtain ⟨b, arr, et, h1, h2, h4⟩ := hs.roPlace hr
    have hsz : arr.size = n := by rw [← hl, ← h4.length]; simp
    have := run_loadA (P := P) ht h2 (o := 0) (by omega)
    rw [List.drop_zero, ← hsz, ← Array.length_toList, List.take_length] at this
    refine ⟨.agg arr, ?_, .u (.agg h4)⟩
    simp only [execOp, ho, h1, Sem.run_bind, this, Result.andThen_ok, Sem.run_pure])
/-- What a pinned pointer is stays, whatever becomes of its variable. -/
theorem r_pinPtr {i : Nat} {c : Code} {cs : List C} {own : Bool} {Q : Exit → St → Prop} (hi : σ i = .u (.c (.pt own cs))) (hp : K.pins.contains i = true) (h : (∃ b, K.vs i = .pointer (some ⟨b, 0, none⟩)) → Run P K c σ Q) : Run P K c σ Q := by
  rintro a w ⟨Fs, hs⟩
  refine h ?_ a w ⟨Fs, hs⟩
  have h1 := hs.rep i
  have h2 := hs.pin i hp
  rw [hi] at h1
  rw [h2] at h1
  generalize K.vs i = v at h1
  generalize Fs i = F at h1
  cases h1 with
  | u h1 => cases h1 with
    | c h1 => cases h1 with
      | pt hb hrep ho => exact ⟨_, rfl⟩
theorem s_movePin {i : Nat} (ho : o.op = .move (.tmp i)) (hp : K.pins.contains i = true) (hv : ∃ b, K.vs i = .pointer (some ⟨b, 0, none⟩)) (hd : o.dst = some d) (hn : okT K d = true) (hr : (i == d) = false) : Step P K σ o (put σ d (.addr i .d [] 0)) :=
  step_quiet hd hn hr (fun a w Fs hs => by
    obtain ⟨b, hv⟩ := hv
    have h2 := hs.pin i hp
    have hv0 : a.eval (.tmp i) = .pointer (some ⟨b, 0, none⟩) := by rw [getD_eval, h2, hv]
    have h3 := RepT.addr (ET := K.ET) (w := w) (R := K.R) (tmps := a.tmps) (r := i) (off := 0) (s := .d) (p := []) (b := b) (o := 0) (by rw [h2, hv]; rfl)
    rw [Nat.add_zero] at h3
    exact ⟨_, by simp [execOp, ho, hv0, pure], h3⟩)
theorem os_toG {ops : Array Oper} {j : Nat} {σ1 : St} {t t' : T} (h : OStep P K ops j σ (put σ1 d t)) (e : t = t') : OStep P K ops j σ (put σ1 d t') := by subst e; exact h
theorem copy_map {α : Type} {f : α → List C} {xs : List α} (h : ∀ x, (f x).all copyC = true) : ∀ r ∈ xs.map f, r.all copyC = true := fun r hr => by
  obtain ⟨x, _, rfl⟩ := List.mem_map.mp hr
  exact h x
theorem rows_all {rows : List (List C)} : (rows.drop 0).take rows.length = rows := by rw [List.drop_zero, List.take_length]
/-- A bool of which one only knows what follows where it is true. -/
def boolQ (p : Prop) : Opq where
  rep := fun _ v F => F = [] ∧ ∃ b, v = .bool b ∧ (b = true → p)
  frame := fun h _ => h
  lt := fun h b hb => by rw [h.1] at hb; cases hb
  one := fun h => by obtain ⟨_, b, rfl, _⟩ := h; exact ⟨rfl, rfl⟩
  isp := false
  ptr := fun h => by cases h
theorem s_isNil {t sz bytes : Nat} {i : Nat} {own : Bool} {rows : List (List C)} (ho : o.op = .binOp .eql t (.tmp i) (.const (.slice none 0 0)) t) (hu : SliceT P t sz bytes) (hi : σ i = .u (.c (.sl own sz rows))) (hd : o.dst = some d) (hn : okT K d = true) : Step P K σ o (put σ d (.u (.c (.x (boolQ (rows = [])))))) :=
  step_quiet hd hn rfl (fun a w Fs hs => by
    obtain ⟨e, inf, hu, _⟩ := hu
    have h := hs.rep i
    rw [hi] at h
    have hv0 : a.eval (.tmp i) = a.tmps.getD i undef := rfl
    generalize a.tmps.getD i undef = v at h hv0
    generalize Fs i = F at h
    have hy : a.eval (.const (.slice none 0 0)) = .slice none 0 0 := rfl
    cases h with
    | u h => cases h with
      | c h => cases h with
        | nil =>
          refine ⟨.bool true, ?_, .u (.c (.x ⟨rfl, true, rfl, fun _ => rfl⟩))⟩
          have h1 : (Op.equal t (.slice none 0 0) (.slice none 0 0)).run P w = .ok true w := equal_at (fun n => by simp [Op.equalIn, run_underlying hu, pure])
          simp [execOp, ho, Sem.run_bind, hv0, hy, eqGuard_plain, binOp, h1, pure]
        | @sl b off len cap _ _ arr et _ _ _ =>
          refine ⟨.bool false, ?_, .u (.c (.x ⟨rfl, false, rfl, fun h => by cases h⟩))⟩
          have h1 : (Op.equal t (.slice (some ⟨b, off, none⟩) len cap) (.slice none 0 0)).run P w = .ok false w := equal_at (fun n => by simp [Op.equalIn, run_underlying hu, pure])
          simp [execOp, ho, Sem.run_bind, hv0, hy, eqGuard_plain, binOp, h1, pure])
theorem r_condU {i : Nat} {p : Prop} {x y : Code} {Q : Exit → St → Prop} (hc : σ i = .u (.c (.x (boolQ p)))) (hT : p → Run P K x σ Q) (hF : Run P K y σ Q) : Run P K (.cond (.tmp i) x y) σ Q := by
  rintro a w ⟨Fs, hs⟩
  have h := hs.rep i
  rw [hc] at h
  have hv0 : a.eval (.tmp i) = a.tmps.getD i undef := rfl
  generalize a.tmps.getD i undef = v at h hv0
  generalize Fs i = F at h
  cases h with
  | u h => cases h with
    | c h => cases h with
      | x h =>
        obtain ⟨_, b, rfl, hb⟩ := h
        cases b with
        | true => exact wp_cond hv0 (hT (hb rfl) a w ⟨Fs, hs⟩)
        | false => exact wp_cond hv0 (hF a w ⟨Fs, hs⟩)
/-- A struct's variable and one more are handed back. -/
def retCT (K : Ctx) (P : Program) (b t c2 : Nat) (u2 : U) (outs : List (Option U)) (cs : List C) (e : Exit) (σ : St) : Prop :=
  (e = .normal ∨ e = .ret) ∧ σ b = .u (.c (.pt true cs)) ∧ σ c2 = .u u2 ∧ copyU u2 = true ∧ AggT P t cs.length ∧ ∀ (i : Nat) (u : U), outs[i]? = some (some u) → upd σ b .junk i = .u u ∧ K.pins.contains i = true
theorem resultCT_run {fn : Func} {b t c2 blk : Nat} {arr : Array Value} {et : TypeId} (h : fn.results = #[.cell b t, .tmp c2]) (tmps : Array Value) (w : World) (hp : tmps.getD b undef = .pointer (some ⟨blk, 0, none⟩)) (hb : w.heap[blk]? = some (.cells arr et (0, 0))) (ht : AggT P t arr.size) :
    (results fn tmps).run P w = .ok (.tuple #[.agg arr, tmps.getD c2 undef]) w := by
  have h1 := run_loadA (P := P) (w := w) ht hb (o := 0) (by omega)
  rw [List.drop_zero, ← Array.length_toList, List.take_length] at h1
  simp only [Instr.loadAt, Instr.sureAddr, Sem.run_bind, Sem.run_pure, Result.andThen_ok] at h1
  unfold results
  rw [h]
  rw [Array.getD_eq_getD_getElem?] at hp
  simp [hp, asAddr, h1, Result.andThen, Array.getD_eq_getD_getElem?]
theorem act_introCT {T : (Nat → Prop) → World → Prop} {f : FuncId} {fn : Func} {c : Code} {ins : List U} {outs : List (Option U)} {cs : List C} {b t c2 : Nat} {u2 : U} {n : Nat} {pins : List Nat} (hf : P.funcs[f]? = some fn) (hb : fn.body = some c) (hn : fn.ntmps = n) (hr : fn.results = #[.cell b t, .tmp c2]) (hin : ins.length ≤ n) (hpin : ∀ i, pins.contains i = true → i < ins.length) (hout : outs.length = ins.length)
    (h : ∀ (w : World) (R : Nat → Prop) (E : List Nat) (vs : Nat → Value), T R w → Run P ⟨ET, w, R, E, n, pins, vs⟩ c (initS ins) (retCT ⟨ET, w, R, E, n, pins, vs⟩ P b t c2 u2 outs cs)) : ACg T P ET f ins outs [.agg cs, u2] := by
  intro R w vs F hT hrep hnd hR hRlt
  obtain ⟨Fs, f1, f2, f3, f4, f5⟩ := hrep.fs hnd
  have hlen := hrep.len
  have htm : ∀ i, i < vs.length → (vs.toArray ++ Array.replicate (fn.ntmps - vs.toArray.size) undef).getD i undef = vs.getD i undef := by
    intro i hi
    simp [Array.getD_eq_getD_getElem?, List.getD_eq_getElem?_getD, Array.getElem?_append, hi]
  refine calls_of_wp hf hb ?_
  have hs : Sim ⟨ET, w, R, F, n, pins, fun i => vs.getD i undef⟩ (initS ins) { tmps := vs.toArray ++ Array.replicate (fn.ntmps - vs.toArray.size) undef, defers := [] } w := by
    refine ⟨Fs, ?_, f3, f4, fun i b hb => ⟨hR b (f5 i b hb), .inl (f5 i b hb)⟩, Keeps.refl w F, fun b hb => ⟨hRlt b hb, fun h => hR b h hb⟩, by simp [hn, hlen]; omega, fun i hi => htm i (by rw [hlen]; exact hpin i hi), rfl⟩
    intro i
    unfold initS
    cases hu : ins[i]? with
    | none =>
      have : ins.length ≤ i := by
        rcases Nat.lt_or_ge i ins.length with h | h
        · rw [List.getElem?_eq_getElem h] at hu; cases hu
        · exact h
      rw [f2 i this]
      exact .junk _
    | some u =>
      obtain ⟨x, hx, hru⟩ := f1 i u hu
      have hi : i < vs.length := by
        rcases Nat.lt_or_ge i vs.length with h | h
        · exact h
        · rw [List.getElem?_eq_none h] at hx; cases hx
      simp only
      rw [htm i hi, List.getD_eq_getElem?_getD, hx]
      exact .u hru
  refine wp_mono (h w R F (fun i => vs.getD i undef) hT _ _ hs) ?_
  rintro e a' w' ⟨σ, ⟨Fs2, hsim⟩, he, hσ, hσ2, hcu, hagg, houts⟩
  have hs3 := hsim.out b
  obtain ⟨H, hH1, hH2, hH3⟩ := outs_rep (ET := ET) (w := w') (R := R) (outs := outs) (vs := vs) (Fs := updF Fs2 b []) (k := 0) (by rw [hout, hlen]) (fun i u hi => by
    obtain ⟨h1, h2⟩ := houts i u hi
    have h3 := hs3.rep i
    rw [h1] at h3
    have h4 := hs3.pin i h2
    have hi2 : i < vs.length := by rw [hlen]; exact hpin i h2
    simp only at h4
    rw [h4] at h3
    refine ⟨vs.getD i undef, by rw [List.getD_eq_getElem?_getD, List.getElem?_eq_getElem hi2]; rfl, ?_⟩
    rw [Nat.zero_add]
    generalize updF Fs2 b [] i = F3 at h3
    generalize vs.getD i undef = v at h3 ⊢
    cases h3 with | u h => exact h)
  have hfin : ∃ v, (results fn a'.tmps).run P w' = .ok v w' ∧ ∃ rv H1 H2, Ending.returned v = .returned rv ∧ RepO ET w' R vs outs H1 ∧ RepR ET w' R rv [.agg cs, u2] H2 ∧ (H1 ++ H2).Nodup ∧ (∀ b ∈ H1 ++ H2, b ∈ F ∨ w.heap.size ≤ b) ∧ Keeps w F w' := by
    have h1 := hsim.rep b
    rw [hσ] at h1
    have hu2 := hsim.rep c2
    rw [hσ2] at hu2
    have hu2' : RepU ET w' R (a'.tmps.getD c2 undef) u2 [] := by
      generalize a'.tmps.getD c2 undef = v2 at hu2 ⊢
      generalize Fs2 c2 = F2 at hu2
      cases hu2 with | u hu2 => have := hu2.copy hcu; subst this; exact hu2
    clear hu2
    have hnd2 := hsim.nd b
    have hdis := fun j x (hj : j ≠ b) (hx : x ∈ Fs2 b) (hx2 : x ∈ Fs2 j) => hj (hsim.dis j b x hx2 hx)
    have hown := hsim.own b
    generalize hv : a'.tmps.getD b undef = v at h1
    generalize hFb : Fs2 b = Fb at h1 hnd2 hdis hown
    cases h1 with
    | u h1 => cases h1 with
      | c h1 => cases h1 with
        | @pt blk own arr et cs F1 F' hbk hrep2 ho =>
          rcases ho with ⟨_, rfl⟩ | ⟨h, _⟩
          · have hsz : arr.size = cs.length := by rw [← hrep2.length]; simp
            obtain ⟨n1, n2⟩ := List.nodup_cons.mp hnd2
            refine ⟨_, resultCT_run hr a'.tmps w' hv hbk (by rw [hsz]; exact hagg), _, H, F1, rfl, hH1, .many (Nat.ne_of_beq_eq_false rfl) (by have := RepUs.cons (RepU.agg hrep2) (RepUs.cons hu2' .nil); rw [List.append_nil, List.append_nil] at this; exact this), ?_, ?_, hsim.keeps⟩
            · rw [List.nodup_append]
              refine ⟨hH2 hs3.nd hs3.dis, n2, fun x hx y hy e => ?_⟩
              subst e
              obtain ⟨j, _, hj⟩ := hH3 x hx
              unfold updF at hj
              split at hj
              · cases hj
              · rename_i hne
                exact hdis j x hne (List.mem_cons_of_mem _ hy) hj
            · intro x hx
              rcases List.mem_append.mp hx with hx | hx
              · obtain ⟨j, _, hj⟩ := hH3 x hx
                exact (hs3.own j x hj).2
              · exact (hown x (List.mem_cons_of_mem _ hx)).2
          · cases h
  rcases he with rfl | rfl
  · exact ⟨hsim.defers, hfin⟩
  · exact ⟨hsim.defers, hfin⟩
theorem ac_introCT {f : FuncId} {fn : Func} {c : Code} {ins : List U} {outs : List (Option U)} {cs : List C} {b t c2 : Nat} {u2 : U} {n : Nat} {pins : List Nat} (hf : P.funcs[f]? = some fn) (hb : fn.body = some c) (hn : fn.ntmps = n) (hr : fn.results = #[.cell b t, .tmp c2]) (hin : ins.length ≤ n) (hpin : ∀ i, pins.contains i = true → i < ins.length) (hout : outs.length = ins.length)
    (h : ∀ (w : World) (R : Nat → Prop) (E : List Nat) (vs : Nat → Value), Run P ⟨ET, w, R, E, n, pins, vs⟩ c (initS ins) (retCT ⟨ET, w, R, E, n, pins, vs⟩ P b t c2 u2 outs cs)) : AC P ET f ins outs [.agg cs, u2] :=
  fun R w vs F => act_introCT (T := fun _ _ => True) hf hb hn hr hin hpin hout (fun w R E vs _ => h w R E vs) R w vs F trivial
theorem e_leafCT {b t c2 : Nat} {u2 : U} {outs : List (Option U)} {cs : List C} {e : Exit} (he : e = .normal ∨ e = .ret) (h1 : σ b = .u (.c (.pt true cs))) (h3 : σ c2 = .u u2) (h4 : copyU u2 = true) (h2 : aggB P t cs.length = true) (h5 : OutsAt (upd σ b .junk) K.pins 0 outs) : retCT K P b t c2 u2 outs cs e σ := ⟨he, h1, h3, h4, aggB_ok h2, outs_of h5⟩
theorem c_callL {args : Array Operand} {tys : Array TypeId} {f : FuncId} {ins : List U} {hs : List (Option Hole)} {outs : List (Option U)} {res : List U} (hac : ACK K P f ins outs res) (hf : FnT P f) (ho : o.op = .call { callee := .value (.func f), args := args, argTypes := tys })
    (hA : Args (ArgL K σ') σ args.toList ins hs σ') (hok : okOuts hs outs = true) (hm1 : mineOs outs) (hm2 : mineUs res) (hd : okD K o.dst = true) : Step P K σ o (putR (back hs outs (fun j => killD (σ' j))) o.dst (resT res)) :=
  s_callL (caps := []) ho hf calleeF hA (by simpa using hac) hok hm1 hm2 hd
theorem c_callQL {args : Array Operand} {tys : Array TypeId} {f : FuncId} {ins : List U} {outs : List (Option U)} {res : List U} (hac : ACK K P f ins outs res) (hf : FnT P f) (ho : o.op = .call { callee := .value (.func f), args := args, argTypes := tys })
    (hA : Rds (ArgL K σ) args.toList ins) (hm : mineUs res) (hd : okD K o.dst = true) : Step P K σ o (putR σ o.dst (resT res)) :=
  s_callQL (caps := []) ho hf calleeF hA (by simpa using hac) hm hd
theorem view_map {α : Type} {f : α → List C} {l : List α} {lo n : Nat} : ((l.map f).drop lo).take n = ((l.drop lo).take n).map f := by rw [List.map_take, List.map_drop]
theorem junks_one (σ : St) (i : Nat) : junks σ [i] = upd σ i .junk := by
  funext j
  unfold junks upd
  by_cases h : j = i
  · subst h; simp
  · rw [if_neg h, if_neg (by simpa using h)]
/-- Append, where the slice's value goes over. -/
theorem s_appendM {t sz bytes : Nat} {zs : List C} {i : Nat} {y : Operand} {rows rows2 : List (List C)} (ho : o.op = .call { callee := .builtin .append, args := #[.tmp i, y], argTypes := #[t, t] }) (hz : SliceZ P t sz bytes zs) (hx : σ i = .u (.c (.sl true sz rows))) (hy : Rows K (upd σ i .junk) sz y rows2)
    (hcp : ∀ r ∈ rows2, r.all copyC = true) (hlen : rows.length + rows2.length ≤ 1000000) (hby : bytes ≤ 100000) (hd : o.dst = some d) (hn : okT K d = true) : Step P K σ o (put (fun j => killD (upd σ i .junk j)) d (.u (.c (.sl true sz (rows ++ rows2))))) := by
  have := s_append (K := K) (σ := σ) (l := [i]) ho hz (.move hx rfl) (by rw [junks_one]; exact hy) hcp hlen hby hd hn
  rwa [junks_one] at this
/-- A function handed over: what it captured, what it tells of an element. -/
structure FnB {α : Type} (P : Program) (ET : TypeId) (enc : α → U) (φ : α → Option Bool) where
  f : FuncId
  caps : List C
  ok : FnT P f
  ac : ∀ x r, φ x = some r → AC P ET f (enc x :: caps.map .c) (none :: caps.map fun _ => none) [.c (.v (.bool r))]
end
end Go.Proofs.Ytfbjhioefkimbaa.V
namespace Go.Proofs.Ytfbjhioefkimbaa.V
open Go Go.RowKit
set_option linter.unusedVariables false
set_option linter.unusedSimpArgs false
section
variable {P : Program} {ET : TypeId} {w w' : World} {R : Nat → Prop} {K : Ctx} {σ σ' : St} {a : Act} {Fs : Nat → List Nat} {o : Oper} {d : Nat}
theorem win_set {α : Type} (A news : List α) (off L lo n sz : Nat) (hA : off + L * sz ≤ A.length) (hn : news.length = n * sz) (hle : lo + n ≤ L) :
    ((A.take (off + lo * sz) ++ news ++ A.drop (off + lo * sz + n * sz)).drop off).take (L * sz) = ((A.drop off).take (L * sz)).take (lo * sz) ++ (news ++ ((A.drop off).take (L * sz)).drop ((lo + n) * sz)) := by
  have h1 := Nat.mul_le_mul_right sz hle
  rw [Nat.add_mul] at h1
  have e1 : A = A.take off ++ ((A.drop off).take (L * sz) ++ A.drop (off + L * sz)) := by
    rw [← List.drop_drop, List.take_append_drop, List.take_append_drop]
  have lW : ((A.drop off).take (L * sz)).length = L * sz := by rw [List.length_take, List.length_drop]; omega
  generalize hW : (A.drop off).take (L * sz) = W at e1 lW ⊢
  generalize hP : A.take off = P at e1
  generalize hS : A.drop (off + L * sz) = S at e1
  have lP : P.length = off := by rw [← hP, List.length_take]; omega
  have t1 : A.take (off + lo * sz) = P ++ W.take (lo * sz) := by
    rw [e1, ← lP, List.take_length_add_append, List.take_append_of_le_length (by omega)]
  have t2 : A.drop (off + lo * sz + n * sz) = W.drop ((lo + n) * sz) ++ S := by
    rw [e1, Nat.add_assoc, ← lP, List.drop_length_add_append, Nat.add_mul, List.drop_append_of_le_length (by omega)]
  rw [t1, t2, List.append_assoc, List.append_assoc, ← lP, List.drop_left]
  have lX : (W.take (lo * sz) ++ (news ++ W.drop ((lo + n) * sz))).length = L * sz := by
    rw [List.length_append, List.length_append, List.length_take, List.length_drop, hn, lW, Nat.add_mul]; omega
  rw [show W.take (lo * sz) ++ (news ++ (W.drop ((lo + n) * sz) ++ S)) = (W.take (lo * sz) ++ (news ++ W.drop ((lo + n) * sz))) ++ S by simp]
  rw [← lX, List.take_left]
/-- Of nobody's blocks. -/
def flat0 : C → Bool
  | .dead => true
  | c => copyC c
theorem RepL.flat {xs : List Value} {cs : List C} {F : List Nat} (h : RepL ET w R xs cs F) (hc : cs.all flat0 = true) : F = [] := by
  induction cs generalizing xs F with
  | nil => cases h; rfl
  | cons c cs ih =>
    cases h with
    | cons h t =>
      simp only [List.all_cons, Bool.and_eq_true] at hc
      have h1 := ih t hc.2
      subst h1
      cases c with
      | dead => cases h; rfl
      | _ => have := h.copy hc.1; subst this; rfl
theorem allFlat {rows : List (List C)} (h : ∀ r ∈ rows, r.all flat0 = true) : rows.flatten.all flat0 = true := by
  rw [List.all_eq_true]
  intro x hx
  obtain ⟨r, hr, hxr⟩ := List.mem_flatten.mp hx
  exact List.all_eq_true.mp (h r hr) x hxr
theorem copy_flat {rows : List (List C)} (h : ∀ r ∈ rows, r.all copyC = true) : ∀ r ∈ rows, r.all flat0 = true := fun r hr => by
  have h1 := h r hr
  rw [List.all_eq_true] at h1 ⊢
  intro c hc
  have := h1 c hc
  cases c <;> first | rfl | exact this
theorem SimF.rowsW (hs : SimF K σ a w Fs) {r sz b off len cap : Nat} {rows : List (List C)} (hr : σ r = .u (.c (.sl true sz rows))) (hcp : ∀ x ∈ rows, x.all flat0 = true) (hv : a.tmps.getD r undef = .slice (some ⟨b, off, none⟩) len cap) :
    rows.length = len ∧ len ≤ cap ∧ 0 < sz ∧ (∀ x ∈ rows, x.length = sz) ∧ ∃ arr, ∃ et : TypeId, w.heap[b]? = some (.cells arr et (0, 0)) ∧ off + cap * sz ≤ arr.size ∧ RepL K.ET w K.R ((arr.toList.drop off).take (len * sz)) rows.flatten [] ∧
    ∀ (lo n : Nat) (news : List Value) (rs : List (List C)), lo + n ≤ rows.length → RepL K.ET w K.R news rs.flatten [] → rs.length = n → (∀ x ∈ rs, x.length = sz) →
      SimF K (upd (fun j => killD (σ j)) r (.u (.c (.sl true sz (rows.take lo ++ (rs ++ rows.drop (lo + n))))))) a (w.setRow b (arr.toList.take (off + lo * sz) ++ news ++ arr.toList.drop (off + lo * sz + n * sz)).toArray) Fs := by
  have hR := hs.rep r
  rw [hr, hv] at hR
  have hown := hs.own r
  have hdi := fun j x (hj : j ≠ r) (hx : x ∈ Fs r) (hx2 : x ∈ Fs j) => hj (hs.dis j r x hx2 hx)
  generalize hFr : Fs r = F at hR hown hdi
  generalize hv2 : (Value.slice (some ⟨b, off, none⟩) len cap) = v2 at hR
  cases hR with
  | u hR => cases hR with
    | c hR => cases hR with
      | nil => cases hv2
      | @sl b2 off2 len2 cap2 _ _ arr et _ F1 F' hb hlen hcap hsz hfit hrow hrep ho hz =>
        injection hv2 with e1 e2 e3
        injection e1 with e1
        injection e1 with e0 e1 _
        subst e0; subst e1; subst e2; subst e3
        have hF1 : F1 = [] := hrep.flat (allFlat hcp)
        subst hF1
        rcases ho with ⟨_, rfl⟩ | ⟨h, _⟩
        case inr => cases h
        rw [hz rfl] at hb
        refine ⟨hlen, hcap, hsz, hrow, arr, et.1, hb, hfit, hrep, fun lo n news rs hle hnews hrl hrs => ?_⟩
        have hbF : b ∈ Fs r := by rw [hFr]; exact List.mem_singleton.mpr rfl
        have hbR : ¬ K.R b := (hs.own r b hbF).1
        have hnl : news.length = n * sz := by rw [hnews.length, flatten_len hrs, hrl]
        have hcapz := Nat.mul_le_mul_right sz hcap
        have hA : off + len * sz ≤ arr.toList.length := by rw [Array.length_toList]; omega
        have hlo : (lo + n) * sz ≤ len * sz := Nat.mul_le_mul_right sz (by omega)
        have hlo2 := Nat.add_mul lo n sz
        have hwin := win_set arr.toList news off len lo n sz hA hnl (by omega)
        generalize hw' : w.setRow b (arr.toList.take (off + lo * sz) ++ news ++ arr.toList.drop (off + lo * sz + n * sz)).toArray = w'
        have hsame : ∀ x, x ≠ b → w'.heap[x]? = w.heap[x]? := fun x hx => by rw [← hw']; exact setRow_ne hx
        have hb' : w'.heap[b]? = some (.cells (arr.toList.take (off + lo * sz) ++ news ++ arr.toList.drop (off + lo * sz + n * sz)).toArray et.1 (0, 0)) := by rw [← hw']; exact setRow_at hb
        have h5 := (hs.out r).world (E1 := [b]) (w' := w') (by rw [← hw']; exact setRow_keeps)
          (fun x hx => by rw [List.mem_singleton.mp hx]; exact (hs.own r b hbF).2) (fun j x hx e => by
            rw [List.mem_singleton] at e; subst e
            unfold updF at hx
            split at hx
            · cases hx
            · rename_i hne; exact hne (hs.dis j r x hx hbF)) (fun x hx => by rw [List.mem_singleton.mp hx]; exact hbR)
        have hfr : ∀ {xs : List Value} {cs : List C}, RepL K.ET w K.R xs cs [] → RepL K.ET w' K.R xs cs [] := fun h => h.frame (fun _ h => h) (fun x hx => hsame x (by
          rcases hx with hx | hx
          · cases hx
          · exact fun e => hbR (e ▸ hx)))
        have hp1 : ∃ G, RepL K.ET w K.R (((arr.toList.drop off).take (len * sz)).take (lo * sz)) (rows.take lo).flatten G := by
          obtain ⟨G, hG⟩ := hrep.drop_take 0 (lo * sz)
          rw [List.drop_zero, List.drop_zero] at hG
          have : rows.flatten.take (lo * sz) = (rows.take lo).flatten := by
            have e : rows.flatten = (rows.take lo).flatten ++ (rows.drop lo).flatten := by rw [← List.flatten_append, List.take_append_drop]
            have l1 : (rows.take lo).flatten.length = lo * sz := by rw [flatten_len (fun x hx => hrow x (List.mem_of_mem_take hx)), List.length_take, Nat.min_eq_left (by omega)]
            rw [e, ← l1, List.take_left]
          rw [this] at hG
          exact ⟨G, hG⟩
        have hp2 : ∃ G, RepL K.ET w K.R (((arr.toList.drop off).take (len * sz)).drop ((lo + n) * sz)) (rows.drop (lo + n)).flatten G := by
          have key : ∀ W : List Value, W.length = len * sz → RepL K.ET w K.R W rows.flatten [] → ∃ G, RepL K.ET w K.R (W.drop ((lo + n) * sz)) (rows.flatten.drop ((lo + n) * sz)) G := by
            intro W l0 hW
            obtain ⟨G, hG⟩ := hW.drop_take ((lo + n) * sz) (len * sz)
            have l2 : rows.flatten.length = len * sz := by rw [flatten_len hrow, hlen]
            rw [List.take_of_length_le (by rw [List.length_drop, l0]; omega), List.take_of_length_le (by rw [List.length_drop, l2]; omega)] at hG
            exact ⟨G, hG⟩
          obtain ⟨G, hG⟩ := key _ (by rw [hrep.length, flatten_len hrow, hlen]) hrep
          have : rows.flatten.drop ((lo + n) * sz) = (rows.drop (lo + n)).flatten := by
            have e : rows.flatten = (rows.take (lo + n)).flatten ++ (rows.drop (lo + n)).flatten := by rw [← List.flatten_append, List.take_append_drop]
            have l1 : (rows.take (lo + n)).flatten.length = (lo + n) * sz := by rw [flatten_len (fun x hx => hrow x (List.mem_of_mem_take hx)), List.length_take, Nat.min_eq_left (by omega)]
            rw [e, ← l1, List.drop_left]
          rw [this] at hG
          exact ⟨G, hG⟩
        have hnil : ∀ {xs : List Value} {q : List (List C)} {G : List Nat}, (∀ x ∈ q, x ∈ rows) → RepL K.ET w K.R xs q.flatten G → RepL K.ET w K.R xs q.flatten [] := fun hq h => by
          have := h.flat (allFlat (fun x hx => hcp x (hq x hx)))
          subst this
          exact h
        obtain ⟨G1, hp1⟩ := hp1
        obtain ⟨G2, hp2⟩ := hp2
        have hp1 := hfr (hnil (fun x hx => List.mem_of_mem_take hx) hp1)
        have hp2 := hfr (hnil (fun x hx => List.mem_of_mem_drop hx) hp2)
        have hnew := RepL.append (F := []) (G := []) hp1 (RepL.append (F := []) (G := []) (hfr hnews) hp2)
        rw [← hwin] at hnew
        have hflat : (rows.take lo).flatten ++ (rs.flatten ++ (rows.drop (lo + n)).flatten) = (rows.take lo ++ (rs ++ rows.drop (lo + n))).flatten := by rw [List.flatten_append, List.flatten_append]
        rw [hflat] at hnew
        have hc : RepC K.ET w' K.R (.slice (some ⟨b, off, none⟩) len cap) (.sl true sz (rows.take lo ++ (rs ++ rows.drop (lo + n)))) [b] := by
          refine .sl (et := (et.1, (0, 0))) (F := []) hb' ?_ hcap hsz ?_ ?_ ?_ (.inl ⟨rfl, rfl⟩) (fun _ => rfl)
          · rw [List.length_append, List.length_append, List.length_take, List.length_drop, hrl]; omega
          · simp only [List.size_toArray, List.length_append, List.length_take, List.length_drop, Array.length_toList, hnl]
            omega
          · intro x hx
            rcases List.mem_append.mp hx with hx | hx
            · exact hrow x (List.mem_of_mem_take hx)
            · rcases List.mem_append.mp hx with hx | hx
              · exact hrs x hx
              · exact hrow x (List.mem_of_mem_drop hx)
          · rw [List.toList_toArray]; simpa using hnew
        have h6 := h5.in_ (i := r) (t := .u (.c (.sl true sz (rows.take lo ++ (rs ++ rows.drop (lo + n)))))) (F := [b]) (by rw [hv]; exact .u (.c hc)) (by simp) (fun j hj x hx hx2 => by
            rw [List.mem_singleton] at hx; subst hx
            unfold updF at hx2
            rw [if_neg hj] at hx2
            exact hj (hs.dis j r _ hx2 hbF)) (fun x hx => by rw [List.mem_singleton.mp hx]; exact hs.own r b hbF)
        have e1 : upd (fun j => killD (upd σ r .junk j)) r (.u (.c (.sl true sz (rows.take lo ++ (rs ++ rows.drop (lo + n)))))) = upd (fun j => killD (σ j)) r (.u (.c (.sl true sz (rows.take lo ++ (rs ++ rows.drop (lo + n)))))) := by
          funext j; by_cases h : j = r <;> simp [upd, h]
        have e2 : updF (updF Fs r []) r [b] = Fs := by
          funext j; by_cases h : j = r
          · subst h; simp [updF, hFr]
          · simp [updF, h]
        rw [e1, e2] at h6
        exact h6
theorem SimF.killed (hs : SimF K σ a w Fs) : Sim K (fun j => killD (σ j)) a w := Sim.weaken ⟨Fs, hs⟩ (fun j => by
  cases h : σ j with
  | addr r s p off => cases p with
    | nil => exact .inl rfl
    | cons _ _ => exact .inr rfl
  | view r pl sz lo n => cases pl with
    | none => exact .inl rfl
    | some _ => exact .inr rfl
  | whole r pl sz n => cases pl with
    | none => exact .inl rfl
    | some _ => exact .inr rfl
  | _ => exact .inl rfl)
theorem step_noneV {σ' : St} (hd : o.dst = none) (h : ∀ a w, Sim K σ a w → ∃ v w', (execOp a.eval o).run P w = .ok (.value v) w' ∧ Sim K σ' a w') : Step P K σ o σ' := by
  intro a w hs
  obtain ⟨v, w', h1, h2⟩ := h a w hs
  simp only [Oper.wp, h1, Oper.upon_value, hd, Act.put]
  exact h2
/-- A part of a slice of one's own is cleared. -/
theorem s_clear {t sz bytes i r lo n : Nat} {zs : List C} {rows : List (List C)} (ho : o.op = .call { callee := .builtin .clear, args := #[.tmp i], argTypes := #[t] }) (hz : SliceZ P t sz bytes zs) (hi : viewOf (aliasT i (σ i)) = some (r, none, sz, lo, n)) (hr : σ r = .u (.c (.sl true sz rows))) (hcp : ∀ x ∈ rows, x.all copyC = true) (hle : lo + n ≤ rows.length) (hzc : zs.all copyC = true) (hd : o.dst = none) :
    Step P K σ o (upd (fun j => killD (σ j)) r (.u (.c (.sl true sz (rows.take lo ++ (List.replicate n zs ++ rows.drop (lo + n))))))) := by
  obtain ⟨e, inf, z, h1, h2, h3, _, h4, h5, h6, h7⟩ := hz
  refine step_noneV hd ?_
  rintro a w ⟨Fs, hs⟩
  obtain ⟨sv, hsl, hsub⟩ := ((OpT.tmp rfl).rep hs (x := .tmp i)).viewOf hi
  generalize hev : a.eval (.tmp i) = v at hsub
  simp only [slAt, Option.some.injEq] at hsl
  have same : n = 0 → Sim K (upd (fun j => killD (σ j)) r (.u (.c (.sl true sz (rows.take lo ++ (List.replicate n zs ++ rows.drop (lo + n))))))) a w := by
    rintro rfl
    have e : upd (fun j => killD (σ j)) r (.u (.c (.sl true sz (rows.take lo ++ (List.replicate 0 zs ++ rows.drop (lo + 0)))))) = fun j => killD (σ j) := by
      funext j
      by_cases hj : j = r
      · subst hj; simp [upd, hr, killD]
      · simp [upd, hj]
    rw [e]
    exact hs.killed
  have run0 : ∀ ad c, v = .slice ad 0 c → (execOp a.eval o).run P w = .ok (.value (.tuple #[])) w := by
    rintro ad c rfl
    simp only [execOp, ho, resolve, Sem.run_bind, Sem.run_pure, Result.andThen_ok, invoke, builtin]
    cases ad <;> simp [Sem.run_bind, hev, Builtin.clear_, run_underlying h1, pure]
  rcases hsub with ⟨rfl, rfl, rfl, rfl⟩ | ⟨b, o', L, cap, rfl, hcap, hlo, hv⟩
  · exact ⟨_, w, run0 _ _ rfl, same rfl⟩
  · rcases hv with rfl | ⟨rfl, hlc, o2, ho2, rfl⟩
    · by_cases hn : n = 0
      · subst hn; exact ⟨_, w, run0 _ _ rfl, same rfl⟩
      · obtain ⟨k1, k2, k3, k4, arr, et, k5, k6, k7, k8⟩ := hs.rowsW hr (copy_flat hcp) hsl
        have hsz : z.cells.size = sz := h6
        have hrep : RepL K.ET w K.R (Builtin.zeroCells z.cells n).toList (List.replicate n zs).flatten [] := by
          have := range_mod z.cells n
          show RepL K.ET w K.R ((Array.range (n * z.cells.size)).map fun i => z.cells[i % z.cells.size]!).toList _ _
          rw [this]
          exact RepL.replicate (h7 K.ET w K.R) n
        have hzl : zs.length = sz := by rw [← (h7 K.ET w K.R).length]; simpa using hsz
        have hnl : (Builtin.zeroCells z.cells n).toList.length = n * sz := by rw [hrep.length, flatten_len (sz := sz) (fun x hx => by rw [List.eq_of_mem_replicate hx]; exact hzl), List.length_replicate]
        have hcapz := Nat.mul_le_mul_right sz hcap
        have hloz := Nat.mul_le_mul_right sz (show lo + n ≤ L by omega)
        rw [Nat.add_mul] at hloz
        have hone : ∀ x ∈ (Builtin.zeroCells z.cells n).toList, x.oneCell' = true := by
          exact oneCellCopy hrep (allCopy (fun x hx => by rw [List.eq_of_mem_replicate hx]; exact hzc))
        have hst := run_storeCells_at (P := P) b (o' + lo * sz) et (Builtin.zeroCells z.cells n).toList 0 arr w k5 (by rw [hnl]; omega) hone
        rw [Nat.add_zero, hnl] at hst
        have hzv : ∀ w, (zeroValue e).run P w = .ok z w := fun w => by simp [zeroValue, typeInfo, h2, h5, pure]
        refine ⟨.tuple #[], _, ?_, Fs, k8 lo n _ (List.replicate n zs) hle hrep (List.length_replicate ..) (fun x hx => by rw [List.eq_of_mem_replicate hx]; exact hzl)⟩
        obtain ⟨m, rfl⟩ : ∃ m, n = m + 1 := ⟨n - 1, by omega⟩
        simp only [execOp, ho, resolve, Sem.run_bind, Sem.run_pure, Result.andThen_ok, invoke, builtin]
        simp [Sem.run_bind, hev, Builtin.clear_, run_underlying h1, hzv, hst, pure]
    · exact ⟨_, w, run0 _ _ rfl, same rfl⟩
/-- The head of a slice of one's own goes on as that slice. -/
theorem s_takeView {i r sz lo n : Nat} {rows : List (List C)} (ho : o.op = .move (.tmp i) ∨ o.op = .assign (.tmp i)) (hi : viewOf (aliasT i (σ i)) = some (r, none, sz, lo, n)) (h0 : lo = 0) (hr : σ r = .u (.c (.sl true sz rows))) (hcp : ∀ x ∈ rows, x.all copyC = true) (hd : o.dst = some d) (hn : okT K d = true) :
    Step P K σ o (put (upd σ r .junk) d (.u (.c (.sl true sz (rows.take n))))) := by
  subst h0
  rintro a w ⟨Fs, hs⟩
  obtain ⟨sv, hsl, hsub⟩ := ((OpT.tmp rfl).rep hs (x := .tmp i)).viewOf hi
  simp only [slAt, Option.some.injEq] at hsl
  have hR := hs.rep r
  rw [hr, hsl] at hR
  have hnd := hs.nd r
  have hdi := fun j x (hj : j ≠ r) (hx : x ∈ Fs r) (hx2 : x ∈ Fs j) => hj (hs.dis j r x hx2 hx)
  have how := hs.own r
  have hout := hs.out r
  generalize hFr : Fs r = F at hR hnd hdi how
  have hrun : (execOp a.eval o).run P w = .ok (.value (a.eval (.tmp i))) w := by
    rcases ho with ho | ho <;> simp [execOp, ho, pure]
  simp only [Oper.wp, hrun, Oper.upon_value, hd]
  generalize hev : a.eval (.tmp i) = v at hsub
  have hrep : ∃ F2, RepC K.ET w K.R v (.sl true sz (rows.take n)) F2 ∧ F2.Nodup ∧ ∀ b ∈ F2, b ∈ F := by
    cases hR with
    | u hR => cases hR with
      | c hR => cases hR with
        | nil =>
          rcases hsub with ⟨_, rfl, _, rfl⟩ | ⟨b, o', L, cap, h, _⟩
          · exact ⟨[], by rw [List.take_nil]; exact .nil true sz, List.nodup_nil, by simp⟩
          · cases h
        | @sl b off len cap _ _ arr et _ F1 F' hb hlen hcap hsz hfit hrow hrep ho hz =>
          have hF1 : F1 = [] := hrep.copy (allCopy hcp)
          subst hF1
          rcases ho with ⟨_, rfl⟩ | ⟨h, _⟩
          case inr => cases h
          rcases hsub with ⟨h, _⟩ | ⟨b2, o', L, cap2, h, hcap2, hlo, hv⟩
          · cases h
          · injection h with e1 e2 e3
            injection e1 with e1
            injection e1 with e0 e1 _
            subst e0; subst e1; subst e2; subst e3
            have hwin : ∀ m, m ≤ len → RepL K.ET w K.R ((arr.toList.drop off).take (m * sz)) (rows.take m).flatten [] := fun m hm => by
              obtain ⟨G, hG⟩ := hrep.drop_take 0 (m * sz)
              have hms := Nat.mul_le_mul_right sz hm
              rw [List.drop_zero, List.drop_zero, List.take_take, Nat.min_eq_left hms] at hG
              have e : rows.flatten.take (m * sz) = (rows.take m).flatten := by
                have e : rows.flatten = (rows.take m).flatten ++ (rows.drop m).flatten := by rw [← List.flatten_append, List.take_append_drop]
                have l1 : (rows.take m).flatten.length = m * sz := by rw [flatten_len (fun x hx => hrow x (List.mem_of_mem_take hx)), List.length_take, Nat.min_eq_left (by omega)]
                rw [e, ← l1, List.take_left]
              rw [e] at hG
              have := hG.copy (allCopy (fun x hx => hcp x (List.mem_of_mem_take hx)))
              subst this
              exact hG
            refine ⟨[b], ?_, by simp, fun x hx => hx⟩
            rcases hv with rfl | ⟨rfl, hlc, o2, ho2, rfl⟩
            · rw [Nat.zero_mul, Nat.add_zero, Nat.sub_zero]
              exact .sl (et := et) hb (by rw [List.length_take]; omega) (by omega) hsz hfit (fun x hx => hrow x (List.mem_of_mem_take hx)) (hwin n (by omega)) (.inl ⟨rfl, rfl⟩) hz
            · have hcz : off ≤ arr.size := by omega
              exact .sl (et := et) (len := 0) (cap := 0) hb (by simp) (Nat.le_refl _) hsz (by omega) (by simp) (by simpa using RepL.nil) (.inl ⟨rfl, rfl⟩) hz
  obtain ⟨F2, k1, k2, k3⟩ := hrep
  exact ⟨_, hout.put2 hn (Keeps.refl _ _) (F := F2) (fun b hb => ⟨fun j hj => by
    unfold updF at hj
    split at hj
    · cases hj
    · rename_i hne; exact hdi j b hne (k3 b hb) hj, how b (k3 b hb)⟩) k2 (.u (.c k1))⟩
theorem clear_map {α : Type} {f : α → List C} {l : List α} {lo n : Nat} {z : α} {sz : Nat} : C.sl true sz ((l.map f).take lo ++ (List.replicate n (f z) ++ (l.map f).drop (lo + n))) = C.sl true sz ((l.take lo ++ (List.replicate n z ++ l.drop (lo + n))).map f) := by
  rw [List.map_append, List.map_append, List.map_take, List.map_drop, List.map_replicate]
theorem s_clearM {α : Type} {f : α → List C} {l : List α} {z : α} {t sz bytes i r lo n : Nat} {zs : List C} (ho : o.op = .call { callee := .builtin .clear, args := #[.tmp i], argTypes := #[t] }) (hz : SliceZ P t sz bytes zs) (he : zs = f z) (hi : viewOf (aliasT i (σ i)) = some (r, none, sz, lo, n)) (hr : σ r = .u (.c (.sl true sz (l.map f)))) (hcp : ∀ x, (f x).all copyC = true) (hle : lo + n ≤ l.length) (hd : o.dst = none) :
    Step P K σ o (upd (fun j => killD (σ j)) r (.u (.c (.sl true sz ((l.take lo ++ (List.replicate n z ++ l.drop (lo + n))).map f))))) := by
  subst he
  have := s_clear (K := K) (σ := σ) ho hz hi hr (copy_map hcp) (by rw [List.length_map]; exact hle) (hcp z) hd
  rw [clear_map] at this
  exact this
theorem row_set {α : Type} {f : α → List C} {l : List α} {k sz : Nat} {y : α} {us : List C} (h : us = f y) : C.sl true sz ((l.map f).set k us) = C.sl true sz ((l.set k y).map f) := by
  rw [h, List.map_set]
theorem s_takeViewM {α : Type} {f : α → List C} {l : List α} {i r sz lo n : Nat} (ho : o.op = .move (.tmp i) ∨ o.op = .assign (.tmp i)) (hi : viewOf (aliasT i (σ i)) = some (r, none, sz, lo, n)) (h0 : lo = 0) (hr : σ r = .u (.c (.sl true sz (l.map f)))) (hcp : ∀ x, (f x).all copyC = true) (hd : o.dst = some d) (hn : okT K d = true) :
    Step P K σ o (put (upd σ r .junk) d (.u (.c (.sl true sz ((l.take n).map f))))) := by
  have := s_takeView (P := P) (K := K) (σ := σ) ho hi h0 hr (copy_map hcp) hd hn
  rw [← List.map_take] at this
  exact this
theorem elim_inl {α β : Type} {F : α → Option β} {v : α} {r : β} (h : Sum.elim F some (Sum.inl v : α ⊕ β) = some r) : ∃ y, v = y ∧ F y = some r := ⟨v, rfl, h⟩
end
end Go.Proofs.Ytfbjhioefkimbaa.V
namespace Go.Proofs.Ytfbjhioefkimbaa.V
open Go Go.RowKit
set_option linter.unusedVariables false
set_option linter.unusedSimpArgs false
section
variable {P : Program} {ET : TypeId} {w w' : World} {R : Nat → Prop} {K : Ctx} {σ σ' : St} {a : Act} {Fs : Nat → List Nat} {o : Oper} {d : Nat}
theorem run_bounds3 {lo hi mx : Option Operand} {l h m : Option Nat} (hs : SimF K σ a w Fs) (hl : Bnd K.ET σ lo l) (hh : Bnd K.ET σ hi h) (hm : Bnd K.ET σ mx m) {len cap l' h' m' : Nat} (el : l = some l') (eh : h = some h') (em : m = some m') (h1 : l' ≤ h') (h2 : h' ≤ m') (h3 : m' ≤ cap) (w2 : World) :
    (Instr.sliceBounds true len cap (lo.map a.eval) (hi.map a.eval) (mx.map a.eval)).run P w2 = .ok (l', h', m') w2 := by
  cases hl with
  | none => cases el
  | @some x k e hx h0 => cases hh with
    | none => cases eh
    | @some x' k' e' hx' h0' => cases hm with
      | none => cases em
      | @some x'' k'' e'' hx'' h0'' =>
        injection el with el; injection eh with eh; injection em with em
        subst el; subst eh; subst em
        have t0 := run_bound (P := P) (code := .slice3Acap) (opT_v hs hx'') h0'' (y := cap) h3 w2
        have t1 := run_bound (P := P) (code := .slice3B) (opT_v hs hx') h0' (y := e''.toNat) h2 w2
        have t2 := run_bound (P := P) (code := .slice3C) (opT_v hs hx) h0 (y := e'.toNat) h1 w2
        simp [Instr.sliceBounds, t0, t1, t2, pure]
/-- A part with a bound of its own: nobody looks at it. -/
theorem s_slice3 {t i r sz bytes lo n l' h' m' : Nat} {pl : Option (Sel × List (Nat × Sel) × Nat)} {lx hx mx : Option Operand} {l h m : Option Nat} (ho : o.op = .slice t (.tmp i) lx hx mx) (hu : SliceT P t sz bytes) (hi : viewOf (aliasT i (σ i)) = some (r, pl, sz, lo, n)) (hl : Bnd K.ET σ lx l) (hh : Bnd K.ET σ hx h) (hm : Bnd K.ET σ mx m)
    (e1 : l = some l') (e2 : h = some h') (e3 : m = some m') (h1 : l' ≤ h') (h2 : h' ≤ m') (h3 : m' ≤ n) (hd : o.dst = some d) (hn : okT K d = true) : Step P K σ o (put σ d .junk) :=
  step_quiet hd hn rfl (fun a w Fs hs => by
    obtain ⟨sv, hsl, hsub⟩ := ((OpT.tmp rfl).rep hs (x := .tmp i)).viewOf hi
    generalize hev : a.eval (.tmp i) = v at hsub
    have hv : ∃ ad c, v = .slice ad n c ∧ m' ≤ c := by
      rcases hsub with ⟨_, h2, _, h4⟩ | ⟨b, o', L, cap, _, hc, hlo, h4 | ⟨h5, _, _, _, h4⟩⟩
      · subst h4; exact ⟨_, _, h2, by omega⟩
      · exact ⟨_, _, h4, by omega⟩
      · subst h5; exact ⟨_, _, h4, by omega⟩
    obtain ⟨ad, c, rfl, hc⟩ := hv
    have hb := run_bounds3 (P := P) hs hl hh hm e1 e2 e3 (len := n) (cap := c) h1 h2 hc w
    obtain ⟨e, inf, hu, hi', hsz, _, _⟩ := hu
    have hs2 : (sizeOf e).run P w = .ok sz w := by simp [sizeOf, typeInfo, hi', hsz]
    refine ⟨.slice (if m' = l' then ad else ad.map (·.add (l' * sz))) (h' - l') (m' - l'), ?_, .junk _⟩
    simp only [execOp, ho, hev, Sem.run_bind, Instr.sliceAt, run_underlying hu, Result.andThen_ok, Instr.slice, hb, hs2, Sem.run_pure])
/-- A part that goes on behind the part it is of, within the slice. -/
theorem s_sliceB {t i r sz bytes lo n l' h' : Nat} {own : Bool} {rows : List (List C)} {lx hx : Option Operand} {l h : Option Nat} (ho : o.op = .slice t (.tmp i) lx hx none) (hu : SliceT P t sz bytes) (hi : viewOf (aliasT i (σ i)) = some (r, none, sz, lo, n)) (hr : σ r = .u (.c (.sl own sz rows))) (hl : Bnd K.ET σ lx l) (hh : Bnd K.ET σ hx h)
    (e1 : l.getD 0 = l') (e2 : h.getD n = h') (h1 : l' ≤ h') (h2 : lo + h' ≤ rows.length) (hd : o.dst = some d) (hn : okT K d = true) (hrd : (r == d) = false) : Step P K σ o (put σ d (.view r none sz (lo + l') (h' - l'))) :=
  step_quiet hd hn hrd (fun a w Fs hs => by
    obtain ⟨sv, hsl, hsub⟩ := ((OpT.tmp rfl).rep hs (x := .tmp i)).viewOf hi
    have hsl' := hsl
    simp only [slAt, Option.some.injEq] at hsl'
    have hR := hs.rep r
    rw [hr, hsl'] at hR
    generalize Fs r = F at hR
    have hlen : ∃ ad c, sv = .slice ad rows.length c := by
      cases hR with
      | u hR => cases hR with
        | c hR => cases hR with
          | nil => exact ⟨_, _, rfl⟩
          | sl _ hlen => subst hlen; exact ⟨_, _, rfl⟩
    obtain ⟨ad0, c0, e0⟩ := hlen
    generalize hev : a.eval (.tmp i) = v at hsub
    rcases hsub with ⟨rfl, rfl, rfl, rfl⟩ | ⟨b, o', L, cap, rfl, hcap, hlo, hv⟩
    · injection e0 with _ e0 _
      have : l' = 0 ∧ h' = 0 := by omega
      obtain ⟨rfl, rfl⟩ := this
      have hb := run_bounds (P := P) hs hl hh (len := 0) (cap := 0) (Nat.le_refl _) (by omega) (by omega) w
      rw [e1, e2] at hb
      refine ⟨.slice none 0 0, ?_, .view hsl (.inl ⟨rfl, rfl, rfl, rfl⟩)⟩
      have := run_sliceAt hu (ad := none) hb
      simp only [execOp, ho, hev, Sem.run_bind, Option.map_none, this, Result.andThen_ok, Sem.run_pure]
      simp
    · injection e0 with _ e0 _
      rcases hv with rfl | ⟨hn0, hlc, o2, ho2, rfl⟩
      · have hb := run_bounds (P := P) hs hl hh (len := n) (cap := cap - lo) (by omega) (by omega) (by omega) w
        rw [e1, e2] at hb
        have hrun := run_sliceAt hu (ad := some ⟨b, o' + lo * sz, none⟩) hb
        by_cases hc : cap - lo = l'
        · refine ⟨.slice (some ⟨b, o' + lo * sz, none⟩) (h' - l') 0, ?_, .view hsl (.inr ⟨b, o', L, cap, rfl, hcap, by omega, .inr ⟨by omega, by omega, o' + lo * sz, by rw [Nat.add_mul]; omega, ?_⟩⟩)⟩
          · rw [if_pos hc, show cap - lo - l' = 0 by omega] at hrun
            simp only [execOp, ho, hev, Sem.run_bind, Option.map_none, hrun, Result.andThen_ok, Sem.run_pure]
          · rw [show h' - l' = 0 by omega]
        · refine ⟨.slice (some ⟨b, o' + (lo + l') * sz, none⟩) (h' - l') (cap - (lo + l')), ?_, .view hsl (.inr ⟨b, o', L, cap, rfl, hcap, by omega, .inl rfl⟩)⟩
          rw [if_neg hc] at hrun
          simp only [execOp, ho, hev, Sem.run_bind, Option.map_none, hrun, Result.andThen_ok, Sem.run_pure, Option.map_some, Addr.add_mid]
          rw [Nat.add_mul, Nat.add_assoc, Nat.sub_sub]
      · subst hn0
        have : l' = 0 ∧ h' = 0 := by omega
        obtain ⟨rfl, rfl⟩ := this
        have hb := run_bounds (P := P) hs hl hh (len := 0) (cap := 0) (Nat.le_refl _) (by omega) (by omega) w
        rw [e1, e2] at hb
        have hrun := run_sliceAt hu (ad := some ⟨b, o2, none⟩) hb
        refine ⟨.slice (some ⟨b, o2, none⟩) 0 0, ?_, .view hsl (.inr ⟨b, o', L, cap, rfl, hcap, by omega, .inr ⟨rfl, by omega, o2, by simpa using ho2, rfl⟩⟩)⟩
        simp only [execOp, ho, hev, Sem.run_bind, Option.map_none, hrun, Result.andThen_ok, Sem.run_pure]
        simp)
/-- What one owns, told under another name; the old one leads to it. -/
theorem s_reroot {i sz : Nat} {rows : List (List C)} (ho : o.op = .move (.tmp i)) (hi : σ i = .u (.c (.sl true sz rows))) (hd : o.dst = some d) (hn : okT K d = true) (hid : (i == d) = false) : Step P K σ o (upd (put (upd σ i .junk) d (.u (.c (.sl true sz rows)))) i (.whole d none sz rows.length)) := by
  rintro a w ⟨Fs, hs⟩
  have hid' : i ≠ d := by simpa using hid
  have h1 := hs.rep i
  rw [hi] at h1
  have hnd := hs.nd i
  have hdi := fun j b (hj : j ≠ i) (hb : b ∈ Fs i) (hb2 : b ∈ Fs j) => hj (hs.dis j i b hb2 hb)
  have how := hs.own i
  have hout := hs.out i
  generalize hF : Fs i = F at h1 hnd hdi how
  have hrun : (execOp a.eval o).run P w = .ok (.value (a.eval (.tmp i))) w := by simp [execOp, ho, pure]
  simp only [Oper.wp, hrun, Oper.upon_value, hd]
  have hev : a.eval (.tmp i) = a.tmps.getD i undef := rfl
  rw [hev]
  generalize hv : a.tmps.getD i undef = v at h1
  cases h1 with
  | u h1 =>
    have h2 := hout.put2 hn (Keeps.refl w []) (F := F) (v := v) (t := .u (.c (.sl true sz rows))) (fun b hb => ⟨fun j hj => by
      unfold updF at hj
      split at hj
      · cases hj
      · rename_i hne; exact hdi j b hne hb hj, how b hb⟩) hnd (.u h1)
    have hlt : d < a.tmps.size := by
      have h3 := hn
      unfold okT at h3
      simp only [Bool.and_eq_true] at h3
      have := Nat.le_of_ble_eq_true h3.1
      rw [hs.size]
      exact this
    have e1 : (a.put (some d) v).tmps.getD i undef = v := by
      simp only [Act.put]
      rw [Array.getD_eq_getD_getElem?, Array.getElem?_setIfInBounds_ne (by omega), ← Array.getD_eq_getD_getElem?]
      exact hv
    have e2 : (a.put (some d) v).tmps.getD d undef = v := by
      simp only [Act.put]
      rw [Array.getD_eq_getD_getElem?, Array.getElem?_setIfInBounds_self_of_lt hlt]
      rfl
    have hsub : SubSl sz v 0 rows.length v := by
      cases h1 with | c h1 => exact h1.sub
    have h3 := h2.in_ (i := i) (t := .whole d none sz rows.length) (F := []) (by rw [e1]; exact .whole (by simp only [slAt]; rw [e2]) hsub) List.nodup_nil (by simp) (by simp)
    exact ⟨_, h3⟩
/-- What is to be read, its first rows. -/
theorem ShowsRows.first {S : Nat → Prop} {v : Value} {sz : Nat} {rows : List (List C)} {F : List Nat} (h : ShowsRows ET w R S v sz rows F) (hcp : ∀ r ∈ rows, r.all flat0 = true) (k : Nat) (hk : k ≤ rows.length) (hp : 0 < k) :
    ∃ ad cap news, v = .slice (some ad) rows.length cap ∧ news.length = k * sz ∧ (∀ j u, news[j]? = some u → w.cell? (ad.add j) = some u) ∧ RepL ET w R news (rows.take k).flatten [] ∧ ∀ r ∈ rows, r.length = sz := by
  rcases h with ⟨_, rfl⟩ | ⟨b, off, cap, arr, et, rfl, hb, k1, k2, k3, hrow, hrep, _, _⟩
  · simp only [List.length_nil] at hk; omega
  · have hF : F = [] := hrep.flat (allFlat hcp)
    subst hF
    obtain ⟨G, hG⟩ := hrep.drop_take 0 (k * sz)
    have hms := Nat.mul_le_mul_right sz hk
    rw [List.drop_zero, List.drop_zero, List.take_take, Nat.min_eq_left hms] at hG
    have e : rows.flatten.take (k * sz) = (rows.take k).flatten := by
      have e : rows.flatten = (rows.take k).flatten ++ (rows.drop k).flatten := by rw [← List.flatten_append, List.take_append_drop]
      have l1 : (rows.take k).flatten.length = k * sz := by rw [flatten_len (fun x hx => hrow x (List.mem_of_mem_take hx)), List.length_take, Nat.min_eq_left hk]
      rw [e, ← l1, List.take_left]
    rw [e] at hG
    have := hG.flat (allFlat (fun r hr => hcp r (List.mem_of_mem_take hr)))
    subst this
    refine ⟨⟨b, off, none⟩, cap, (arr.toList.drop off).take (k * sz), rfl, ?_, cells_at hb, hG, hrow⟩
    rw [List.length_take, List.length_drop, Array.length_toList]
    omega
theorem step_putV {σ' : St} (hd : o.dst = some d) (h : ∀ a w, Sim K σ a w → ∃ v w', (execOp a.eval o).run P w = .ok (.value v) w' ∧ Sim K σ' (a.put (some d) v) w') : Step P K σ o σ' := by
  intro a w hs
  obtain ⟨v, w', h1, h2⟩ := h a w hs
  simp only [Oper.wp, h1, Oper.upon_value, hd]
  exact h2
/-- Append, where there is room within the slice: in place. -/
theorem s_appendIn {t sz bytes i r l : Nat} {y : Operand} {rows rows2 : List (List C)} (ho : o.op = .call { callee := .builtin .append, args := #[.tmp i, y], argTypes := #[t, t] }) (hu : SliceT P t sz bytes) (hi : viewOf (aliasT i (σ i)) = some (r, none, sz, 0, l)) (hr : σ r = .u (.c (.sl true sz rows))) (hcp : ∀ x ∈ rows, x.all flat0 = true) (hy : Rows K σ sz y rows2) (hcp2 : ∀ x ∈ rows2, x.all copyC = true)
    (hle : l + rows2.length ≤ rows.length) (hd : o.dst = some d) (hn : okT K d = true) (hrd : (r == d) = false) : Step P K σ o (put (upd (fun j => killD (σ j)) r (.u (.c (.sl true sz (rows.take l ++ (rows2 ++ rows.drop (l + rows2.length))))))) d (.view r none sz 0 (l + rows2.length))) := by
  refine step_putV hd ?_
  rintro a w ⟨Fs, hs⟩
  have hrd' : r ≠ d := by simpa using hrd
  obtain ⟨G, hsh⟩ := hy.shows hs
  obtain ⟨e, inf, hu1, hu2, hu3, _, _⟩ := hu
  obtain ⟨sv, hsl, hsub⟩ := ((OpT.tmp rfl).rep hs (x := .tmp i)).viewOf hi
  have hsl' := hsl
  simp only [slAt, Option.some.injEq] at hsl'
  have fin : ∀ (v : Value) (w1 : World), (execOp a.eval o).run P w = .ok (.value v) w1 → SubSl sz sv 0 (l + rows2.length) v → SimF K (upd (fun j => killD (σ j)) r (.u (.c (.sl true sz (rows.take l ++ (rows2 ++ rows.drop (l + rows2.length))))))) a w1 Fs →
      ∃ v w', (execOp a.eval o).run P w = .ok (.value v) w' ∧ Sim K (put (upd (fun j => killD (σ j)) r (.u (.c (.sl true sz (rows.take l ++ (rows2 ++ rows.drop (l + rows2.length))))))) d (.view r none sz 0 (l + rows2.length))) (a.put (some d) v) w' := by
    intro v w1 hrun hsub hs1
    refine ⟨v, w1, hrun, _, hs1.put2 hn (Keeps.refl _ _) (F := []) (by simp) List.nodup_nil (.view (sv := sv) ?_ hsub)⟩
    simp only [slAt]
    rw [Array.getD_eq_getD_getElem?, Array.getElem?_setIfInBounds_ne (by omega), ← Array.getD_eq_getD_getElem?, hsl']
  generalize hev : a.eval (.tmp i) = v at hsub
  by_cases h0 : rows2.length = 0
  · obtain rfl := List.eq_nil_of_length_eq_zero h0
    have hvl : ∃ ad c, v = .slice ad l c ∧ l ≤ c := by
      rcases hsub with ⟨_, h2, _, h4⟩ | ⟨b, o', L, cap, _, hc, hlo, h4 | ⟨h5, _, _, _, h4⟩⟩
      · subst h4; exact ⟨_, _, h2, by omega⟩
      · exact ⟨_, _, h4, by omega⟩
      · subst h5; exact ⟨_, _, h4, by omega⟩
    obtain ⟨ad, c, e1, hc⟩ := hvl
    obtain ⟨ad2, c2, e2⟩ : ∃ ad2 c2, a.eval y = .slice ad2 0 c2 := by
      rcases hsh with ⟨h, _⟩ | ⟨b, off, cap, arr, et, h, _⟩
      · exact ⟨_, _, h⟩
      · exact ⟨_, _, h⟩
    have hrun : (execOp a.eval o).run P w = .ok (.value v) w := by
      have := run_append0 (w := w) (ty := o.type) hu1 hu2 (base := ad) (ya := ad2) (c := c2) hc
      simp only [execOp, ho, resolve, Sem.run_bind, Sem.run_pure, Result.andThen_ok, invoke, builtin]
      simp [Sem.run_bind, hev, e1, e2, this, pure]
    have e : upd (fun j => killD (σ j)) r (.u (.c (.sl true sz (rows.take l ++ ([] ++ rows.drop (l + ([] : List (List C)).length)))))) = fun j => killD (σ j) := by
      funext j
      by_cases hj : j = r
      · subst hj; simp [upd, hr, killD]
      · simp [upd, hj]
    obtain ⟨Fs2, hk⟩ := hs.killed
    rw [e]
    refine ⟨v, w, hrun, _, hk.put2 hn (Keeps.refl _ _) (F := []) (by simp) List.nodup_nil (.view (sv := sv) ?_ (by simpa using hsub))⟩
    simp only [slAt]
    rw [Array.getD_eq_getD_getElem?, Array.getElem?_setIfInBounds_ne (by omega), ← Array.getD_eq_getD_getElem?, hsl']
  · obtain ⟨ad2, cap2, news, e2, hnl, hnc, hnr, hrow2⟩ := hsh.first (copy_flat hcp2) rows2.length (Nat.le_refl _) (by omega)
    rw [List.take_length] at hnr
    rcases hsub with ⟨rfl, _, _, rfl⟩ | ⟨b, o', L, cap, rfl, hcap, hlo, hv⟩
    · exfalso
      have hR := hs.rep r
      rw [hr, hsl'] at hR
      generalize Fs r = F at hR
      generalize hv2 : (Value.slice none 0 0) = v2 at hR
      cases hR with
      | u hR => cases hR with
        | c hR => cases hR with
          | nil => simp only [List.length_nil] at hle; omega
          | sl => cases hv2
    · obtain ⟨k1, k2, k3, k4, arr, et, k5, k6, k7, k8⟩ := hs.rowsW hr hcp hsl'
      rcases hv with rfl | ⟨rfl, hlc, o2, ho2, rfl⟩
      case inr => exfalso; omega
      rw [Nat.zero_mul, Nat.add_zero, Nat.sub_zero] at hev
      have hz2 := Nat.mul_le_mul_right sz (show l + rows2.length ≤ cap by omega)
      rw [Nat.add_mul] at hz2
      have hst := run_storeCells_at (P := P) b (o' + l * sz) et news 0 arr w k5 (by rw [hnl]; omega) (oneCellCopy hnr (allCopy hcp2))
      rw [Nat.add_zero, hnl] at hst
      have hfc := run_firstCells_some (P := P) (w := w) sz rows2.length ad2 rows2.length cap2 news hnl hnc
      have hadd : (⟨b, o', none⟩ : Addr).add (l * sz) = ⟨b, o' + l * sz, none⟩ := Addr.add_mid b o' _
      have hroom : l + rows2.length ≤ cap := by omega
      have happ : (Builtin.append_ #[t, t] o.type #[.slice (some ⟨b, o', none⟩) l cap, .slice (some ad2) rows2.length cap2]).run P w = .ok (.slice (some ⟨b, o', none⟩) (l + rows2.length) cap) (w.setRow b (arr.toList.take (o' + l * sz) ++ news ++ arr.toList.drop (o' + l * sz + rows2.length * sz)).toArray) := by
        simp [Builtin.append_, run_underlying hu1, sizeOf, typeInfo, hu2, hu3, Builtin.lenOf, hroom, hfc, hadd, hst, pure]
      have hrun : (execOp a.eval o).run P w = .ok (.value (.slice (some ⟨b, o', none⟩) (l + rows2.length) cap)) (w.setRow b (arr.toList.take (o' + l * sz) ++ news ++ arr.toList.drop (o' + l * sz + rows2.length * sz)).toArray) := by
        simp only [execOp, ho, resolve, Sem.run_bind, Sem.run_pure, Result.andThen_ok, invoke, builtin]
        simp [Sem.run_bind, hev, e2, happ, pure]
      exact fin _ _ hrun (.inr ⟨b, o', L, cap, rfl, hcap, by omega, .inl (by simp)⟩) (k8 l rows2.length news rows2 hle hnr rfl hrow2)
/-- Copy into a part of a slice of one's own. -/
theorem putkill_over {i d : Nat} {t y : T} {s : Spec} (hc : Clear s σ) (hf : s.fresh = some d) (hd : s.deep = true) (ha : s.asg = [(d, t), (i, y)]) (hy : refs y d = false := by rfl) : put (upd (fun j => killD (σ j)) i y) d t = over σ s.asg := by
  rw [ha]
  funext j
  rw [over_lookup, List.lookup_cons]
  unfold put
  by_cases hj : j = d
  · subst hj; simp
  · have h1 : (j == d) = false := by simpa using hj
    rw [h1, if_neg hj]
    unfold upd
    by_cases h3 : j = i
    · subst h3
      simp only [if_true, List.lookup_cons, beq_self_eq_true, Option.getD_some]
      unfold killR
      rw [hy]
      simp
    · have h4 : (j == i) = false := by simpa using h3
      simp only [if_neg h3, List.lookup_cons, h4, List.lookup_nil, Option.getD_none]
      have h5 : isDeep (σ j) = false := by
        cases h : isDeep (σ j) with
        | false => rfl
        | true =>
          have h6 := hc.2 hd j h
          rw [ha] at h6
          simp [has, List.lookup_cons, h1, h4] at h6
      rw [killD_self h5]
      unfold killR
      rw [hc.ref hf hj (by rw [ha]; simp [List.lookup_cons, h1, h4])]
      simp
end
end Go.Proofs.Ytfbjhioefkimbaa.V
namespace Go.Proofs.Ytfbjhioefkimbaa.V
open Go Go.RowKit
set_option linter.unusedVariables false
set_option linter.unusedSimpArgs false
section
variable {P : Program} {ET : TypeId} {w w' : World} {R : Nat → Prop} {K : Ctx} {σ σ' : St} {a : Act} {Fs : Nat → List Nat} {o : Oper} {d : Nat}
/-- A value that stays in its temporary. -/
def pinK (K : Ctx) (i : Nat) (v : Value) : Ctx := ⟨K.ET, K.w0, K.R, K.E, K.n, i :: K.pins, fun j => if j = i then v else K.vs j⟩
theorem SimF.pinned {i : Nat} (hs : SimF K σ a w Fs) : SimF (pinK K i (a.tmps.getD i undef)) σ a w Fs :=
  ⟨hs.rep, hs.nd, hs.dis, hs.own, hs.keeps, hs.ro, hs.size, fun j hj => by
    show _ = if j = i then _ else _
    by_cases h : j = i
    · rw [if_pos h, h]
    · rw [if_neg h]
      refine hs.pin j ?_
      simp only [pinK, List.contains_cons, Bool.or_eq_true, beq_iff_eq] at hj
      exact hj.resolve_left h, hs.defers⟩
/-- Two slices of one's own lie apart. -/
theorem inM {α : Type} {f : α → List C} {l l2 : List α} {k sz : Nat} : C.sl true sz ((l.map f).take k ++ (l2.map f ++ (l.map f).drop (k + (l2.map f).length))) = C.sl true sz ((l.take k ++ (l2 ++ l.drop (k + l2.length))).map f) := by
  rw [List.map_append, List.map_append, List.map_take, List.map_drop, List.length_map]
theorem flat_map {α : Type} {f : α → List C} {xs : List α} (h : ∀ x, (f x).all flat0 = true) : ∀ r ∈ xs.map f, r.all flat0 = true := fun r hr => by
  obtain ⟨x, _, rfl⟩ := List.mem_map.mp hr
  exact h x
theorem flat_of {c : List C} (h : c.all copyC = true) : c.all flat0 = true := by
  rw [List.all_eq_true] at h ⊢
  intro x hx
  have := h x hx
  cases x <;> first | rfl | exact this
theorem s_appendInM {α : Type} {f : α → List C} {l0 l2 : List α} {t sz bytes i r l : Nat} {y : Operand} (ho : o.op = .call { callee := .builtin .append, args := #[.tmp i, y], argTypes := #[t, t] }) (hu : SliceT P t sz bytes) (hi : viewOf (aliasT i (σ i)) = some (r, none, sz, 0, l)) (hr : σ r = .u (.c (.sl true sz (l0.map f)))) (hcp : ∀ x, (f x).all copyC = true) (hy : Rows K σ sz y (l2.map f))
    (hle : l + l2.length ≤ l0.length) (hd : o.dst = some d) (hn : okT K d = true) (hrd : (r == d) = false) : Step P K σ o (put (upd (fun j => killD (σ j)) r (.u (.c (.sl true sz ((l0.take l ++ (l2 ++ l0.drop (l + l2.length))).map f))))) d (.view r none sz 0 (l + l2.length))) := by
  have := s_appendIn (P := P) (K := K) (σ := σ) ho hu hi hr (flat_map (fun x => flat_of (hcp x))) hy (copy_map hcp) (by rw [List.length_map, List.length_map]; exact hle) hd hn hrd
  rw [inM, List.length_map] at this
  exact this
theorem lenMap2 {α β γ δ : Type} {f : α → γ} {g : β → δ} {l : List α} {l2 : List β} {n : Nat} (h : l.length + l2.length ≤ n) : (l.map f).length + (l2.map g).length ≤ n := by
  rw [List.length_map, List.length_map]
  exact h
theorem map_some {α : Type} {f : α → List C} {fo : Option α → List C} {l : List α} (h1 : ∀ x, fo (some x) = f x) : l.map f = (l.map some).map fo := by
  rw [List.map_map]
  exact List.map_congr_left (fun x _ => (h1 x).symm)
/-! ### Calls among operations in any order -/
theorem hand_put_over {r d : Nat} {t t1 : T} {s : Spec} (hc : Clear s σ) (hf : s.fresh = some d) (hd : s.deep = true) (hr : refs t1 d = false) (ha : s.asg = [(d, t), (r, t1)]) : put (upd (fun j => killD (upd σ r .junk j)) r t1) d t = over σ s.asg := by
  rw [ha]
  funext j
  rw [over_lookup, List.lookup_cons]
  unfold put
  by_cases hj : j = d
  · subst hj; simp
  · have h1 : (j == d) = false := by simpa using hj
    rw [h1, if_neg hj]
    unfold upd
    by_cases h3 : j = r
    · subst h3
      simp only [if_true, List.lookup_cons, beq_self_eq_true, Option.getD_some]
      unfold killR
      rw [hr]
      simp
    · have h4 : (j == r) = false := by simpa using h3
      simp only [if_neg h3, List.lookup_cons, h4, List.lookup_nil, Option.getD_none]
      have h5 : isDeep (σ j) = false := by
        cases h : isDeep (σ j) with
        | false => rfl
        | true =>
          have h6 := hc.2 hd j h
          rw [ha] at h6
          simp [has, List.lookup_cons, h1, h4] at h6
      rw [killD_self h5]
      unfold killR
      rw [hc.ref hf hj (by rw [ha]; simp [List.lookup_cons, h1, h4])]
      simp
/-! ### The same, where what leads through memory is told to be lost -/
def isJ : T → Bool
  | .junk => true
  | _ => false
theorem isJ_ok {x : T} (h : isJ x = true) : x = .junk := by cases x <;> first | rfl | cases h
theorem lookup_app {A B : List (Nat × T)} {i : Nat} : (A ++ B).lookup i = (A.lookup i).or (B.lookup i) := by
  induction A with
  | nil => simp
  | cons p A ih =>
    obtain ⟨k, x⟩ := p
    simp only [List.cons_append, List.lookup_cons, ih]
    cases i == k <;> simp
theorem over_junks {D : List Nat} {A : List (Nat × T)} : over (junks σ D) A = over σ (A ++ D.map fun j => (j, .junk)) := by
  funext i
  rw [over_lookup, over_lookup, lookup_app, junkL_lookup]
  cases h : A.lookup i with
  | some y => simp
  | none =>
    unfold junks
    simp only [Option.getD_none, Option.none_or]
    split <;> simp_all
theorem clear_junks {D : List Nat} {s : Spec} {A : List (Nat × T)} (hc : Clear s σ) (ha : s.asg = A ++ D.map fun j => (j, .junk)) : Clear { s with asg := A } (junks σ D) := by
  refine ⟨fun d hd t ht hrf => ?_, fun hd t ht => ?_⟩
  · unfold junks at hrf
    split at hrf
    · cases hrf
    · rename_i hn
      have := hc.1 d hd t ht hrf
      rw [ha, lookup_app, junkL_lookup, if_neg hn] at this
      simpa using this
  · unfold junks at ht
    split at ht
    · cases ht
    · rename_i hn
      have := hc.2 hd t ht
      rw [ha] at this
      unfold has at this ⊢
      rw [lookup_app, junkL_lookup, if_neg hn] at this
      simpa using this
theorem kill_eq {D : List Nat} (hD : D.all (fun j => isJ (killD (σ j))) = true) (j : Nat) : killD (σ j) = killD (junks σ D j) := by
  unfold junks
  split
  · rename_i h
    exact isJ_ok (List.all_eq_true.mp hD j (by simpa using h))
  · rfl
theorem call_overD {D : List Nat} {i d : Nat} {t : T} {s : Spec} (hc : Clear s σ) (hf : s.fresh = some d) (hd : s.deep = true) (hD : D.all (fun j => isJ (killD (σ j))) = true) (ha : s.asg = [(d, t), (i, .junk)] ++ D.map fun j => (j, .junk)) : put (fun j => killD (upd σ i .junk j)) d t = over σ s.asg := by
  have e : (fun j => killD (upd σ i .junk j)) = fun j => killD (upd (junks σ D) i .junk j) := by
    funext j; unfold upd; split
    · rfl
    · exact kill_eq hD j
  rw [e, call_over (s := { s with asg := [(d, t), (i, .junk)] }) (clear_junks hc ha) hf hd rfl, over_junks, ha]
theorem hand_put_overD {D : List Nat} {r d : Nat} {t t1 : T} {s : Spec} (hc : Clear s σ) (hf : s.fresh = some d) (hd : s.deep = true) (hr : refs t1 d = false) (hD : D.all (fun j => isJ (killD (σ j))) = true) (ha : s.asg = [(d, t), (r, t1)] ++ D.map fun j => (j, .junk)) : put (upd (fun j => killD (upd σ r .junk j)) r t1) d t = over σ s.asg := by
  have e : (fun j => killD (upd σ r .junk j)) = fun j => killD (upd (junks σ D) r .junk j) := by
    funext j; unfold upd; split
    · rfl
    · exact kill_eq hD j
  rw [e, hand_put_over (s := { s with asg := [(d, t), (r, t1)] }) (clear_junks hc ha) hf hd hr rfl, over_junks, ha]
theorem kill_junks_overD {D l : List Nat} {r : Nat} {t : T} {s : Spec} (hc : Clear s σ) (hd : s.deep = true) (hD : D.all (fun j => isJ (killD (σ j))) = true) (ha : s.asg = ((r, t) :: l.map fun j => (j, .junk)) ++ D.map fun j => (j, .junk)) : upd (fun j => killD (junks σ l j)) r t = over σ s.asg := by
  have e : (fun j => killD (junks σ l j)) = fun j => killD (junks (junks σ D) l j) := by
    funext j
    show killD (if l.contains j then .junk else σ j) = killD (if l.contains j then .junk else junks σ D j)
    split
    · rfl
    · exact kill_eq hD j
  rw [e, kill_junks_over (s := { s with asg := (r, t) :: l.map fun j => (j, .junk) }) (clear_junks hc ha) hd rfl, over_junks, ha]
/-! ### A slice of one's own is handed over, and comes back -/
/-! ### A pointer, or a slice, in a variable's own cells is handed over, and comes back -/
abbrev tI (x : Int) : T := .u (.c (.v (.int .i64 x)))
abbrev tW (x : Int) : T := .u (.c (.v (.int .u64 x)))
abbrev tB (x : Bool) : T := .u (.c (.v (.bool x)))
/-! ### The same words, shorter -/
theorem cgt {ops : Array Oper} {j m : Nat} {σ2 : St} (k : Nat) (ds : List Nat) (t : Chain P K ops k m (stG P K ops j ds σ) σ2) (hk : j + ds.length = k := by rfl) (h : okG P K ops j ds σ = true := by kernel_rfl) : Chain P K ops j (ds.length + m) σ σ2 := cg_then k hk h t
theorem cot {ops : Array Oper} {j m : Nat} {σ1 σ2 : St} (k : Nat) (h : OStep P K ops j σ σ1) (t : Chain P K ops k m σ1 σ2) (hk : j + 1 = k := by rfl) : Chain P K ops j (m + 1) σ σ2 := co_then k hk h t
theorem en {ops : Array Oper} {S0 S : List Spec} {σ0 : St} {k : Nat} {t : T} {s : Spec} (tl : Each (fun j s => ∀ σ, Clear s (over σ (needs S0 σ0 s)) → OStep P K ops j (over σ (needs S0 σ0 s)) (over (over σ (needs S0 σ0 s)) s.asg)) (k + 1) S) (hf : s.fresh = some d := by rfl) (ha : s.asg = [(d, t)] := by rfl) (h : ∀ σ, opG P K ops k (over σ (needs S0 σ0 s)) d = some t := by intro σ; kernel_rfl) : Each (fun j s => ∀ σ, Clear s (over σ (needs S0 σ0 s)) → OStep P K ops j (over σ (needs S0 σ0 s)) (over (over σ (needs S0 σ0 s)) s.asg)) k (s :: S) := .cons (fun σ hc => e_g hc hf ha (h σ)) tl
abbrev ev (a r : List Nat) (d : Nat) (t : T) : Spec := ⟨a, r, [(d, t)], some d, false⟩
abbrev eu (n : Nat) (r : List Nat) (d : Nat) (t : T) : Spec := ⟨List.range n, r, [(d, t)], some d, false⟩
theorem rr {ops : Array Oper} {id n : Nat} {Q : Exit → St → Prop} {σ1 : St} (l : List (Nat × T)) (h : Chain P K ops 0 n σ σ1) (hq : Q .normal (St.of l)) (hn : n = ops.size := by rfl) (hl : at_ σ1 l = l := by kernel_rfl) : Run P K (.region id ops false) σ Q := r_reg h hn hl hq
/-! ### Several values that are owned go into one -/
/-! ### A pointer that is only read: the way to its cells -/
/-! ### What several ways come to, told once -/
theorem r_joinC {x y : Code} {Q : Exit → St → Prop} {α : Type} (L : α → List (Nat × T)) (J : α → Prop) (hA : Run P K x σ (thenQ (fun σ' => ∃ v, J v ∧ ∀ i, St.of (L v) i = σ' i ∨ St.of (L v) i = .junk) Q)) (hB : ∀ v, J v → Run P K y (St.of (L v)) Q) : Run P K x σ (thenQ (fun σ' => Run P K y σ' Q) Q) :=
  r_mono hA (fun e σ h => by
    cases e <;> first
      | exact h
      | (obtain ⟨v, hj, hw⟩ := h; exact r_weak hw (hB v hj)))
theorem elim_go {α β : Type} {F : α → Option β} {v : α} {r : β} (h : Sum.elim F some (Sum.inl v : α ⊕ β) = some r) : F v = some r := h
/-! ### Arrays; the least of three -/
/-- A function of two values handed over. -/
structure FnI2 {α : Type} (P : Program) (ET : TypeId) (enc : α → U) (φ : α → α → Option Int) where
  f : FuncId
  caps : List C
  ok : FnT P f
  ac : ∀ x y r, φ x y = some r → AC P ET f (enc x :: enc y :: caps.map .c) (none :: none :: caps.map fun _ => none) [.c (.v (.int .i64 r))]
/-! ### A part of a slice of one's own goes on as that slice -/
theorem RepC.window {v sv : Value} {sz lo n : Nat} {rows : List (List C)} {F : List Nat} (h : RepC ET w R sv (.sl true sz rows) F) (hcp : ∀ x ∈ rows, x.all copyC = true) (hs : SubSl sz sv lo n v) : ∃ F2, RepC ET w R v (.sl true sz ((rows.drop lo).take n)) F2 ∧ F2.Nodup ∧ ∀ b ∈ F2, b ∈ F := by
  cases h with
  | nil =>
    rcases hs with ⟨_, rfl, _, rfl⟩ | ⟨b, o', L, cap, h, _⟩
    · exact ⟨[], by rw [List.take_zero]; exact .nil true sz, List.nodup_nil, by simp⟩
    · cases h
  | @sl b off len cap _ _ arr et _ F1 F' hb hlen hcap hsz hfit hrow hrep ho hz =>
    have hF1 : F1 = [] := hrep.copy (allCopy hcp)
    subst hF1
    rcases ho with ⟨_, rfl⟩ | ⟨h, _⟩
    case inr => cases h
    rcases hs with ⟨h, _⟩ | ⟨b2, o', L, cap2, h, hcap2, hlo, hv⟩
    · cases h
    · injection h with e1 e2 e3
      injection e1 with e1
      injection e1 with e0 e1 _
      subst e0; subst e1; subst e2; subst e3
      have hlen2 : ((rows.drop lo).take n).length = n := by rw [List.length_take, List.length_drop]; omega
      have hrow' : ∀ r ∈ (rows.drop lo).take n, r.length = sz := fun r hr => hrow r (List.mem_of_mem_drop (List.mem_of_mem_take hr))
      have hfl : ((rows.drop lo).take n).flatten = (rows.flatten.drop (lo * sz)).take (n * sz) := by
        have e1 : rows.flatten = (rows.take lo).flatten ++ (((rows.drop lo).take n).flatten ++ ((rows.drop lo).drop n).flatten) := by
          rw [← List.flatten_append, List.take_append_drop, ← List.flatten_append, List.take_append_drop]
        have l1 : (rows.take lo).flatten.length = lo * sz := by rw [flatten_len (fun r hr => hrow r (List.mem_of_mem_take hr)), List.length_take, Nat.min_eq_left (by omega)]
        have l2 : ((rows.drop lo).take n).flatten.length = n * sz := by rw [flatten_len hrow', hlen2]
        rw [e1, ← l1, List.drop_left, ← l2, List.take_left]
      have hmul : lo * sz + n * sz ≤ len * sz := by rw [← Nat.add_mul]; exact Nat.mul_le_mul_right _ (by omega)
      obtain ⟨G, hG⟩ := hrep.drop_take (lo * sz) (n * sz)
      have hwin : (((arr.toList.drop off).take (len * sz)).drop (lo * sz)).take (n * sz) = (arr.toList.drop (off + lo * sz)).take (n * sz) := by
        rw [List.drop_take, List.drop_drop, List.take_take, Nat.min_eq_left (by omega)]
      rw [hwin, ← hfl] at hG
      have := hG.copy (allCopy (fun x hx => hcp x (List.mem_of_mem_drop (List.mem_of_mem_take hx))))
      subst this
      refine ⟨[b], ?_, by simp, fun x hx => hx⟩
      rcases hv with rfl | ⟨hn0, hlc, o2, ho2, rfl⟩
      · have : lo * sz + (cap - lo) * sz = cap * sz := by rw [← Nat.add_mul]; congr 1; omega
        exact .sl (et := et) hb hlen2 (by omega) hsz (by omega) hrow' hG (.inl ⟨rfl, rfl⟩) hz
      · subst hn0
        have : lo * sz ≤ cap * sz := Nat.mul_le_mul_right _ (by omega)
        exact .sl (et := et) (len := 0) (cap := 0) hb (by simp) (Nat.le_refl _) hsz (by omega) (by simp) (by simpa using RepL.nil) (.inl ⟨rfl, rfl⟩) hz
theorem Sim.ownView {r sz lo n : Nat} {rows : List (List C)} (h : Sim K σ a w) (hd : σ d = .view r none sz lo n) (hr : σ r = .u (.c (.sl true sz rows))) (hcp : ∀ x ∈ rows, x.all copyC = true) (hrd : d ≠ r) : Sim K (upd (upd σ r .junk) d (.u (.c (.sl true sz ((rows.drop lo).take n))))) a w := by
  obtain ⟨Fs, hs⟩ := h
  have hR := hs.rep r
  rw [hr] at hR
  have hV := hs.rep d
  rw [hd] at hV
  have hdi := fun j x (hj : j ≠ r) (hx : x ∈ Fs r) (hx2 : x ∈ Fs j) => hj (hs.dis j r x hx2 hx)
  have how := hs.own r
  have hout := hs.out r
  have key : ∃ F2, RepT K.ET w K.R a.tmps (a.tmps.getD d undef) (.u (.c (.sl true sz ((rows.drop lo).take n)))) F2 ∧ F2.Nodup ∧ ∀ b ∈ F2, b ∈ Fs r := by
    generalize a.tmps.getD d undef = v at hV
    generalize Fs d = Fd at hV
    generalize Fs r = Fr at hR
    cases hV with
    | view hsl hsub =>
      simp only [slAt, Option.some.injEq] at hsl
      rw [hsl] at hR
      cases hR with
      | u hR => cases hR with
        | c hR =>
          obtain ⟨F2, k1, k2, k3⟩ := hR.window hcp hsub
          exact ⟨F2, .u (.c k1), k2, k3⟩
  obtain ⟨F2, k1, k2, k3⟩ := key
  refine ⟨updF (updF Fs r []) d F2, ⟨fun i => ?_, fun i => ?_, fun i j b hi hj => ?_, fun i b hi => ?_, hout.keeps, hout.ro, hout.size, hout.pin, hout.defers⟩⟩
  · by_cases c : i = d
    · subst c; simp only [upd, updF, if_true]; exact k1
    · have := hout.rep i; simp only [upd, updF, if_neg c] at this ⊢; exact this
  · by_cases c : i = d
    · subst c; simp only [updF, if_true]; exact k2
    · have := hout.nd i; simp only [updF, if_neg c] at this ⊢; exact this
  · have far : ∀ j, j ≠ d → b ∈ F2 → b ∈ updF Fs r [] j → False := fun j hj h1 h2 => by
      unfold updF at h2
      split at h2
      · cases h2
      · rename_i hne; exact hdi j b hne (k3 b h1) h2
    by_cases c : i = d <;> by_cases c2 : j = d
    · rw [c, c2]
    · subst c; simp only [updF, if_true, if_neg c2] at hi hj; exact (far j c2 hi (by simpa [updF] using hj)).elim
    · subst c2; simp only [updF, if_true, if_neg c] at hi hj; exact (far i c hj (by simpa [updF] using hi)).elim
    · simp only [updF, if_neg c, if_neg c2] at hi hj; exact hout.dis i j b (by simpa [updF] using hi) (by simpa [updF] using hj)
  · by_cases c : i = d
    · subst c; simp only [updF, if_true] at hi; exact how b (k3 b hi)
    · simp only [updF, if_neg c] at hi; exact hout.own i b (by simpa [updF] using hi)
theorem s_sliceTake {t r sz bytes l' h' : Nat} {lx hx : Option Operand} {l h : Option Nat} {rows : List (List C)} (ho : o.op = .slice t (.tmp r) lx hx none) (hu : SliceT P t sz bytes) (hr : σ r = .u (.c (.sl true sz rows))) (hcp : ∀ x ∈ rows, x.all copyC = true) (hl : Bnd K.ET σ lx l) (hh : Bnd K.ET σ hx h)
    (e1 : l.getD 0 = l') (e2 : h.getD rows.length = h') (h1 : l' ≤ h') (h2 : h' ≤ rows.length) (hd : o.dst = some d) (hn : okT K d = true) (hrd : (r == d) = false) : Step P K σ o (put (upd σ r .junk) d (.u (.c (.sl true sz ((rows.drop l').take (h' - l')))))) := by
  have hne : r ≠ d := by simpa using hrd
  have hv := s_sliceV (K := K) (σ := σ) (lo := 0) (pl := none) (n := rows.length) ho hu (by rw [hr]; rfl) hl hh e1 e2 h1 h2 hd hn hrd
  intro a w hs
  refine Oper.wp_all (hv a w hs) (fun a w h => ?_)
  have := h.ownView (d := d) (r := r) (sz := sz) (lo := 0 + l') (n := h' - l') (rows := rows) (by simp [put]) (by simp only [put, if_neg hne]; rw [hr]; rfl) hcp (Ne.symm hne)
  rw [Nat.zero_add] at this
  have e : upd (upd (put σ d (.view r none sz (0 + l') (h' - l'))) r .junk) d (.u (.c (.sl true sz ((rows.drop l').take (h' - l'))))) = put (upd σ r .junk) d (.u (.c (.sl true sz ((rows.drop l').take (h' - l'))))) := by
    funext i
    by_cases c : i = d
    · simp [upd, put, c]
    · by_cases c2 : i = r
      · simp only [upd, put, if_neg c, if_pos c2]; rfl
      · simp only [upd, put, if_neg c, if_neg c2]
  rw [Nat.zero_add] at e
  rw [e] at this
  exact this
theorem s_sliceTakeM {α : Type} {f : α → List C} {xs : List α} {t r sz bytes l' h' : Nat} {lx hx : Option Operand} {l h : Option Nat} (ho : o.op = .slice t (.tmp r) lx hx none) (hu : SliceT P t sz bytes) (hr : σ r = .u (.c (.sl true sz (xs.map f)))) (hcp : ∀ x, (f x).all copyC = true) (hl : Bnd K.ET σ lx l) (hh : Bnd K.ET σ hx h)
    (e1 : l.getD 0 = l') (e2 : h.getD (xs.map f).length = h') (h1 : l' ≤ h') (h2 : h' ≤ (xs.map f).length) (hd : o.dst = some d) (hn : okT K d = true) (hrd : (r == d) = false) : Step P K σ o (put (upd σ r .junk) d (.u (.c (.sl true sz (((xs.drop l').take (h' - l')).map f))))) := by
  have := s_sliceTake (P := P) (K := K) (σ := σ) ho hu hr (copy_map hcp) hl hh e1 e2 h1 h2 hd hn hrd
  rw [← List.map_drop, ← List.map_take] at this
  exact this
/-! ### An empty slice just built: what is appended to it goes elsewhere, and nothing that was is written -/
def emptyQ : Opq where
  rep w v F := ∃ b et, v = .slice (some ⟨b, 0, none⟩) 0 0 ∧ w.heap[b]? = some (.cells #[] et (0, 0)) ∧ F = [b]
  frame := by
    rintro w w' v F ⟨b, et, h1, h2, rfl⟩ h
    exact ⟨b, et, h1, (h b (by simp)).trans h2, rfl⟩
  lt := by
    rintro w v F ⟨b, et, h1, h2, rfl⟩ x hx
    rw [List.mem_singleton.mp hx]
    exact blk_lt h2
  one := by
    rintro w v F ⟨b, et, rfl, _, _⟩
    exact ⟨rfl, rfl⟩
  isp := false
  ptr := by intro h; cases h
theorem s_buildEmpty {t sz bytes : Nat} {zs : List C} (ho : o.op = .buildSlice t 0 #[]) (hz : SliceZ P t sz bytes zs) (hd : o.dst = some d) (hn : okT K d = true) : Step P K σ o (put σ d (.u (.c (.x emptyQ)))) := by
  rintro a w ⟨Fs, hs⟩
  obtain ⟨e, i, z, h1, h2, h3, _, h4, h5, h6, h7⟩ := hz
  obtain ⟨h8, h9⟩ := hs.boxed (et := e) (F := []) (xs := #[]) (cs := []) ⟨List.nodup_nil, by simp⟩ (by simpa using RepL.nil)
  have hrun : (execOp a.eval o).run P w = .ok (.value (.slice (some ⟨w.heap.size, 0, none⟩) 0 0)) (w.alloc (.cells #[] e)) := by
    have hsz : (sizeOf e).run P w = .ok sz w := by simp [sizeOf, typeInfo, h2, h3]
    simp only [execOp, ho, Instr.buildSlice, Sem.run_bind, Result.andThen_ok, run_underlying h1, hsz]
    have h0 : Array.map (fun _ : Nat => (default : Value)) (Array.range 0) = #[] := Array.eq_empty_of_size_eq_zero (by simp)
    simp [newRow, newObj, Sem.run, pure, Sem.run_bind, Instr.fill, h0]
  simp only [Oper.wp, hrun, Oper.upon_value, hd]
  exact ⟨_, hs.put2 hn (Keeps.alloc w _) h9.2 h9.1 (.u (.c (.x ⟨_, e, rfl, alloc_new w _, rfl⟩)))⟩
theorem run_append_empty {t ty sz bytes b : Nat} {et : TypeId} {zs : List C} (hz : SliceZ P t sz bytes zs) {vy : Value} {rows2 : List (List C)} {G : List Nat} (hb : w.heap[b]? = some (.cells #[] et (0, 0))) (hR : ¬ R b) (hlt : ∀ b, R b → b < w.heap.size) {S : Nat → Prop} (hy : ShowsRows ET w R S vy sz rows2 G) (hcp : ∀ r ∈ rows2, r.all copyC = true)
    (hlen : rows2.length ≤ 1000000) (hby : bytes ≤ 100000) :
    ∃ v w1 F1, (Builtin.append_ #[t, t] ty #[.slice (some ⟨b, 0, none⟩) 0 0, vy]).run P w = .ok v w1 ∧ RepC ET w1 R v (.sl true sz rows2) F1 ∧ F1.Nodup ∧ (∀ x ∈ F1, x = b ∨ w.heap.size ≤ x) ∧ Keeps w [] w1 := by
  obtain ⟨e, i, z, h1, h2, h3, h3b, h4, h5, h6, h7⟩ := hz
  have hzs : z.cells.size = i.size := by omega
  by_cases hn : rows2.length = 0
  · have hr2 : rows2 = [] := List.eq_nil_of_length_eq_zero hn
    subst hr2
    obtain ⟨ad, c, hv⟩ : ∃ ad c, vy = .slice ad 0 c := by
      rcases hy with ⟨rfl, _⟩ | ⟨b, off, cap, arr, et, rfl, _⟩
      · exact ⟨_, _, rfl⟩
      · exact ⟨_, _, rfl⟩
    subst hv
    exact ⟨_, w, [b], run_append0 h1 h2 (Nat.le_refl 0), .sl (et := (et, (0, 0))) (len := 0) (cap := 0) hb rfl (Nat.le_refl _) h4 (by simp) (by simp) (by simpa using RepL.nil) (.inl ⟨rfl, rfl⟩) (fun _ => rfl), by simp, fun x hx => .inl (List.mem_singleton.mp hx), Keeps.refl _ _⟩
  · rcases hy with ⟨_, h⟩ | ⟨b2, off2, cap2, arr2, et2, rfl, hb2, k1, k2, k3, hrow2, hrep2, _, _⟩
    · subst h; simp at hn
    have hG : G = [] := hrep2.copy (allCopy hcp)
    subst hG
    generalize hnews : (arr2.toList.drop off2).take (rows2.length * sz) = news at hrep2
    have hnl : news.length = rows2.length * i.size := by rw [hrep2.length, flatten_len hrow2, h3]
    have hnc : ∀ j v, news[j]? = some v → w.cell? ((⟨b2, off2, none⟩ : Addr).add j) = some v := by rw [← hnews]; exact cells_at hb2
    have hgr : 0 < 0 + rows2.length := by omega
    have hrun := Go.run_append_grow w t ty e i z h1 h2 h5 ⟨b, 0, none⟩ 0 0 [] (by simp) (by intro j v h; simp at h) ⟨b2, off2, none⟩ rows2.length cap2 news hnl hnc hgr (by omega) (growslice_fits hgr (by rw [h3b]; exact bound_48 (by omega) hby))
    have hg := RepC.grown (ET := ET) (R := R) (w := w) (w1 := w.drew.alloc (.cells (([] : List Value).toArray ++ news.toArray ++ Builtin.zeroCells z.cells (grownCap w (0 + rows2.length) 0 e - (0 + rows2.length))) e)) (rows := []) (rows2 := rows2) (sz := sz) (nc := grownCap w (0 + rows2.length) 0 e) (olds := []) (z := z.cells) (et := e) .nil hrep2 (by simpa using hrow2) h4 h6
      (by simpa using grownCap_ge w (0 + rows2.length) 0 e) (by simp) hlt
    simp only [List.length_nil, List.nil_append] at hg
    exact ⟨_, _, [w.heap.size], hrun, by simpa using hg, by simp, fun x hx => .inr (by rw [List.mem_singleton.mp hx]; exact Nat.le_refl _), (drew_keeps w []).trans (Keeps.alloc _ _) (by simp)⟩
theorem s_appendEmpty {t sz bytes i : Nat} {zs : List C} {y : Operand} {rows2 : List (List C)} (ho : o.op = .call { callee := .builtin .append, args := #[.tmp i, y], argTypes := #[t, t] }) (hz : SliceZ P t sz bytes zs) (hx : σ i = .u (.c (.x emptyQ))) (hy : Rows K (upd σ i .junk) sz y rows2)
    (hcp : ∀ r ∈ rows2, r.all copyC = true) (hlen : rows2.length ≤ 1000000) (hby : bytes ≤ 100000) (hd : o.dst = some d) (hn : okT K d = true) : Step P K σ o (put (junks σ [i]) d (.u (.c (.sl true sz rows2)))) := by
  rintro a w ⟨Fs, hs⟩
  obtain ⟨F, Fs1, hu, hs1, hF, _, _⟩ := hs.take (.move hx rfl)
  rw [← junks_one] at hy
  obtain ⟨G, hsh⟩ := hy.shows hs1
  generalize hvx : a.eval (.tmp i) = vx at hu
  cases hu with
  | c hc => cases hc with
    | x hq =>
      obtain ⟨b, et, rfl, hb, rfl⟩ := hq
      have hbF := hF.2 b (by simp)
      obtain ⟨v, w1, F1, hrun, hrep, hnd1, hsub, hk⟩ := run_append_empty (P := P) (ty := o.type) (b := b) hz hb hbF.2.1 (fun b hb => Nat.lt_of_lt_of_le (hs1.ro b hb).1 hs1.keeps.size) hsh hcp hlen hby
      have hexec : (execOp a.eval o).run P w = .ok (.value v) w1 := by
        simp only [execOp, ho, resolve, Sem.run_bind, Sem.run_pure, Result.andThen_ok, invoke, builtin]
        simp [Sem.run_bind, hvx, hrun, pure]
      simp only [Oper.wp, hexec, Oper.upon_value, hd]
      refine ⟨_, hs1.put2 hn hk (fun x hx => ?_) hnd1 (.u (.c hrep))⟩
      rcases hsub x hx with h | h
      · subst h; exact hbF
      · refine ⟨fun j hj => ?_, fun hR => ?_, .inr (Nat.le_trans hs1.keeps.size h)⟩
        · have := (hs1.rep j).lt x hj; omega
        · have := Nat.lt_of_lt_of_le (hs1.ro x hR).1 hs1.keeps.size; omega
theorem s_appendEmptyM {α : Type} {f : α → List C} {l2 : List α} {t sz bytes i : Nat} {zs : List C} {y : Operand} (ho : o.op = .call { callee := .builtin .append, args := #[.tmp i, y], argTypes := #[t, t] }) (hz : SliceZ P t sz bytes zs) (hx : σ i = .u (.c (.x emptyQ))) (hy : Rows K (upd σ i .junk) sz y (l2.map f))
    (hcp : ∀ x, (f x).all copyC = true) (hlen : l2.length ≤ 1000000) (hby : bytes ≤ 100000) (hd : o.dst = some d) (hn : okT K d = true) : Step P K σ o (put (junks σ [i]) d (.u (.c (.sl true sz (l2.map f))))) :=
  s_appendEmpty ho hz hx hy (copy_map hcp) (by rw [List.length_map]; exact hlen) hby hd hn
end
end Go.Proofs.Ytfbjhioefkimbaa.V
