
import Derived.Test.YtmjnenjeckeklaaA0
import Derived.OrdersHeld
import Derived.Deep.RegionHeld3
import Derived.Laws.BitsLemmas
import Derived.RowKit
set_option linter.unusedSimpArgs false
namespace Go.Proofs.YtmjnenjeckeklaaW.PrintLast
section
variable {P : Program} {ops : Array Oper} {Q : Exit → Act → World → Prop} {md : Region.Mode} {S : World → Prop} {ds : List Nat}
def Region.pn (md : Region.Mode) (ops : Array Oper) (i : Nat) : Nat → Nat → Bool
  | 0, _ => false
  | fuel + 1, d => match ops[d]? with
    | some o => o.after.any fun e => Region.binds md e && (e.on == i || Region.pn md ops i fuel e.on)
    | none => false
def Region.vW (md : Region.Mode) (ops : Array Oper) (listed : Array Bool) : Bool :=
  (List.range ops.size).all fun j => !listed.getD j false || match ops[j]? with
    | some o => o.after.all fun e => !Region.binds md e || listed.getD e.on false
    | none => true
def Region.HE (md : Region.Mode) (ops : Array Oper) (listed : Array Bool) (ds : List Nat) (i : Nat) : Bool :=
  ds.all fun d => listed.getD d true || Region.pn md ops i ops.size d
def mH (md : Region.Mode) (ops : Array Oper) (listed : Array Bool) : Prop :=
  ∀ j oj, ops[j]? = some oj → listed.getD j false = true → ∀ e ∈ oj.after, Region.binds md e = true → listed.getD e.on false = true
theorem Region.CS {listed : Array Bool} (h : Region.vW md ops listed = true) : mH md ops listed := by
 intro j oj hj hl e he hb; have hlt : j < ops.size := (ck.1 hj).1; have h1 := aV.1 h j (b6.2 hlt); simp only [hl, hj, de, ff] at h1; have h2 := Array.all_eq_true_iff_forall_mem.1 h1 e he; simpa [hb] using h2
theorem mH.set {listed : Array Bool} {i : Nat} (h : mH md ops listed) (hi : i ∈ Region.ready md ops listed) : mH md ops (listed.setIfInBounds i true) := by
 obtain ⟨_, oi, hoi, hall⟩ := mem_ready.1 hi; intro j oj hj hl e he hb; by_cases hij : i = j
 · subst hij; have : oj = oi := aZ (hj.symm.trans hoi); subst this; exact getD_set_true (hall e he hb)
 · rw [getD_set_ne false hij] at hl; exact getD_set_true (h j oj hj hl e he hb)
theorem Region.we {listed : Array Bool} {i : Nat} (hc : mH md ops listed) : ∀ (fuel d : Nat), Region.pn md ops i fuel d = true → listed.getD d false = true → listed.getD i false = true
  | 0, _, h, _ => by simp [Region.pn] at h
  | fuel + 1, d, h, hl => by
    unfold Region.pn at h
    cases ho : ops[d]? with
    | none => rw [ho] at h; simp at h
    | some o =>
      rw [ho] at h
      obtain ⟨e, he, h1⟩ := Array.any_eq_true'.1 h
      simp only [ai, bI, bG] at h1
      have hle := hc d o ho hl e he h1.1
      rcases h1.2 with h2 | h2
      · rw [← h2]; exact hle
      · exact Region.we hc fuel e.on h2 hle
theorem Region.xY {listed : Array Bool} {i d fuel : Nat} (hc : mH md ops listed) (hr : Region.pn md ops i fuel d = true) (hun : listed.getD i true = false) : d ∉ Region.ready md ops listed := by
 intro hd; obtain ⟨_, o, ho, hall⟩ := mem_ready.1 hd
 have hi : listed.getD i false = true := by
  cases fuel with
  | zero => simp [Region.pn] at hr
  | succ n =>
   unfold Region.pn at hr; rw [ho] at hr; obtain ⟨e, he, h1⟩ := Array.any_eq_true'.1 hr; simp only [ai, bI, bG] at h1; have hle := hall e he h1.1; rcases h1.2 with h2 | h2
   · rw [← h2]; exact hle
   · exact Region.we hc n e.on h2 hle
 rcases b5 i listed.size with h' | h'
 · simp [h'] at hun hi; rw [hun] at hi; cases hi
 · simp [dx h'] at hun
def g5 (P : Program) (md : Region.Mode) (ops : Array Oper) (Q : Exit → Act → World → Prop) (S : World → Prop) (ds : List Nat) : Nat → Array Bool → Act → World → Prop
  | 0, listed, a, w => Region.ready md ops listed = [] ∧ Q .normal a w
  | fuel + 1, listed, a, w =>
    (Region.ready md ops listed = [] → Q .normal a w) ∧
    ∀ i ∈ Region.ready md ops listed, wpOp P ops Q i (fun a' w' => (i ∉ ds → S w → S w') ∧ g5 P md ops Q S ds fuel (listed.setIfInBounds i true) a' w') a w
theorem uK : ∀ (fuel : Nat) (listed : Array Bool) (a : Act) (w : World), g5 P md ops Q S ds fuel listed a w → wpAny P md ops Q fuel listed a w
  | 0, _, _, _, h => h
  | fuel + 1, _, _, _, h => ⟨h.1, fun i hi => wpOp_mono (fun a' w' h' => uK fuel _ a' w' h'.2) (h.2 i hi)⟩
theorem xZ {i : Nat} {oi : Oper} {v : Value} (hi : ops[i]? = some oi) (hsel : ∀ (j : Nat) (o : Oper) cs b, ops[j]? = some o → o.op ≠ .select cs b)
    (hQ : ∀ c a w, Q (.panic c) (a.put oi.dst v) w → Q (.panic c) a w) (n : Nat) :
    ∀ (fuel : Nat) (listed : Array Bool) (a : Act) (w : World),
      (∀ j oj, ops[j]? = some oj → j ≠ i → listed.getD j true = false → (∀ e ∈ oj.after, Region.binds md e = true → e.on ≠ i) → oi.apart ops oj = true) →
      mH md ops listed → (∀ d ∈ ds, listed.getD d true = false → Region.pn md ops i n d = true) →
      i ∈ Region.ready md ops listed → YieldsIf P ops S oi v a → S w →
      g5 P md ops Q S ds fuel (listed.setIfInBounds i true) (a.put oi.dst v) w → g5 P md ops Q S ds (fuel + 1) listed a w := by
       intro fuel
       induction fuel with
       | zero =>
        intro listed a w _ _ _ hr hy hS H; refine ⟨fun h => (by rw [h] at hr; cases hr), fun j hj => ?_⟩; by_cases hji : j = i
        · subst hji; exact hy.wpOp hi hS ⟨fun _ h => h, H⟩
        · have := ready_mono hj hji; rw [H.1] at this; cases this
       | succ fuel ih =>
        intro listed a w hfree hc hd hr hy hS H; refine ⟨fun h => (by rw [h] at hr; cases hr), fun j hj => ?_⟩; by_cases hji : j = i
        · subst hji; exact hy.wpOp hi hS ⟨fun _ h => h, H⟩
        · have h1 := H.2 j (ready_mono hj hji); obtain ⟨hjun, oj, hoj, hall⟩ := mem_ready.1 hj; have hiun := (mem_ready.1 hr).1
          have hnot : ∀ e ∈ oj.after, Region.binds md e = true → e.on ≠ i := fun e he hb heq => by
           have h1 := hall e he hb; rw [heq] at h1; rcases b5 i listed.size with h' | h'
           · simp [h'] at hiun h1; rw [hiun] at h1; cases h1
           · simp [dx h'] at h1
          have hjd : j ∉ ds := fun hm => Region.xY hc (hd j hm hjun) hiun hj; have h2 := wpOp_putIf hoj (hfree j oj hoj hji hjun hnot) (fun cs b => hsel i oi cs b hi) (fun cs b => hsel j oj cs b hoj) hQ hy h1
          have hfree' : ∀ k ok, ops[k]? = some ok → k ≠ i → (listed.setIfInBounds j true).getD k true = false →
              (∀ e ∈ ok.after, Region.binds md e = true → e.on ≠ i) → oi.apart ops ok = true := fun k ok hk hki hun hno => by
            refine hfree k ok hk hki ?_ hno
            by_cases hjk : j = k
            · subst hjk; exact hjun
            · rw [getD_set_ne true hjk] at hun; exact hun
          have hd' : ∀ d ∈ ds, (listed.setIfInBounds j true).getD d true = false → Region.pn md ops i n d = true := fun d hm hun => by
           refine hd d hm ?_; by_cases hjk : j = d
           · subst hjk; exact hjun
           · rw [getD_set_ne true hjk] at hun; exact hun
          refine wpOp_mono (fun a' w' h3 => ⟨h3.2.1, ih (listed.setIfInBounds j true) a' w' hfree' (hc.set hj) hd' (ready_mono hr (dz hji)) h3.1 (h3.2.1 hjd hS) ?_⟩) h2; rw [ew _ _ hji]; exact h3.2.2
theorem AK {i : Nat} {oi : Oper} {v : Value} (hi : ops[i]? = some oi) (hsel : ∀ (j : Nat) (o : Oper) cs b, ops[j]? = some o → o.op ≠ .select cs b)
    (hQ : ∀ c a w, Q (.panic c) (a.put oi.dst v) w → Q (.panic c) a w) :
    ∀ (fuel : Nat) (listed : Array Bool) (a : Act) (w : World),
      (∀ j oj, ops[j]? = some oj → j ≠ i → listed.getD j true = false → (∀ e ∈ oj.after, Region.binds md e = true → e.on ≠ i) → oi.apart ops oj = true) →
      i ∈ Region.ready md ops listed → Yields P ops oi v a →
      g5 P md ops Q S ds fuel (listed.setIfInBounds i true) (a.put oi.dst v) w → g5 P md ops Q S ds (fuel + 1) listed a w := by
       intro fuel
       induction fuel with
       | zero =>
        intro listed a w _ hr hy H; refine ⟨fun h => (by rw [h] at hr; cases hr), fun j hj => ?_⟩; by_cases hji : j = i
        · subst hji; exact (hy.yieldsIf (S := fun _ => True)).wpOp hi trivial ⟨fun _ h => h, H⟩
        · have := ready_mono hj hji; rw [H.1] at this; cases this
       | succ fuel ih =>
        intro listed a w hfree hr hy H; refine ⟨fun h => (by rw [h] at hr; cases hr), fun j hj => ?_⟩; by_cases hji : j = i
        · subst hji; exact (hy.yieldsIf (S := fun _ => True)).wpOp hi trivial ⟨fun _ h => h, H⟩
        · have h1 := H.2 j (ready_mono hj hji); obtain ⟨hjun, oj, hoj, hall⟩ := mem_ready.1 hj; have hiun := (mem_ready.1 hr).1
          have hnot : ∀ e ∈ oj.after, Region.binds md e = true → e.on ≠ i := fun e he hb heq => by
           have h1 := hall e he hb; rw [heq] at h1; rcases b5 i listed.size with h' | h'
           · simp [h'] at hiun h1; rw [hiun] at h1; cases h1
           · simp [dx h'] at h1
          have h2 := wpOp_put hoj (hfree j oj hoj hji hjun hnot) (fun cs b => hsel i oi cs b hi) (fun cs b => hsel j oj cs b hoj) hQ hy h1
          have hfree' : ∀ k ok, ops[k]? = some ok → k ≠ i → (listed.setIfInBounds j true).getD k true = false →
              (∀ e ∈ ok.after, Region.binds md e = true → e.on ≠ i) → oi.apart ops ok = true := fun k ok hk hki hun hno => by
            refine hfree k ok hk hki ?_ hno
            by_cases hjk : j = k
            · subst hjk; exact hjun
            · rw [getD_set_ne true hjk] at hun; exact hun
          refine wpOp_mono (fun a' w' h3 => ⟨h3.2.1, ih (listed.setIfInBounds j true) a' w' hfree' (ready_mono hr (dz hji)) h3.1 ?_⟩) h2; rw [ew _ _ hji]; exact h3.2.2
theorem Ab {i : Nat} {oi : Oper} {v : Value} {fuel : Nat} {listed : Array Bool} {a : Act} {w : World} (hi : ops[i]? = some oi)
    (hs : Region.noSelect ops = true) (hf : Region.free md ops listed i = true) (hr : (Region.ready md ops listed).contains i = true)
    (hc : Region.vW md ops listed = true) (hl : Region.HE md ops listed ds i = true)
    (hQ : ∀ c a w, Q (.panic c) (a.put oi.dst v) w → Q (.panic c) a w) (hy : YieldsIf P ops S oi v a) (hS : S w)
    (h : g5 P md ops Q S ds fuel (listed.setIfInBounds i true) (a.put oi.dst v) w) : g5 P md ops Q S ds (fuel + 1) listed a w :=
  xZ hi (Region.noSelect_spec hs) hQ ops.size fuel listed a w (Region.free_spec hi hf) (Region.CS hc)
    (fun d hm hun => by have := aV.1 hl d hm; rw [hun] at this; simpa using this) (by simpa using hr) hy hS h
theorem AL {rs : List Nat} {fuel : Nat} {listed : Array Bool} {a : Act} {w : World} (hr : Region.ready md ops listed = rs) (hne : rs ≠ [])
    (h : ∀ i ∈ rs, wpOp P ops Q i (fun a' w' => (i ∉ ds → S w → S w') ∧ g5 P md ops Q S ds fuel (listed.setIfInBounds i true) a' w') a w) : g5 P md ops Q S ds (fuel + 1) listed a w :=
  ⟨fun h0 => absurd (hr ▸ h0) hne, hr ▸ h⟩
theorem Ac {listed : Array Bool} {a : Act} {w : World} (hr : Region.ready md ops listed = []) (h : Q .normal a w) :
    ∀ fuel, g5 P md ops Q S ds fuel listed a w
  | 0 => ⟨hr, h⟩
  | _ + 1 => ⟨fun _ => h, by rw [hr]; simp⟩
theorem Ad {id : Nat} {a : Act} {w : World} (hm : P.follows .mixedOrders = true)
    (h : g5 P .any ops Q S ds ops.size (Array.replicate ops.size false) a { w with drawn := w.drawn + 1 }) : (Code.region id ops true).wp P Q a w :=
  wp_region_any hm (uK _ _ _ _ h)
end
section
variable {P : Program} {ops : Array Oper} {Q : Exit → Act → World → Prop} {md : Region.Mode} {S : World → Prop} {ds : List Nat}
def jd (P : Program) (md : Region.Mode) (ops : Array Oper) (Q : Exit → Act → World → Prop) (S : World → Prop) (ds : List Nat) (fuel : Nat) (listed : Array Bool) (a : Act) (w : World) (rs : List Nat) : Prop :=
  ∀ i ∈ rs, wpOp P ops Q i (fun a' w' => (i ∉ ds → S w → S w') ∧ g5 P md ops Q S ds fuel (listed.setIfInBounds i true) a' w') a w
theorem jd.nil {fuel : Nat} {listed : Array Bool} {a : Act} {w : World} : jd P md ops Q S ds fuel listed a w [] := fun _ h => by cases h
theorem jd.cons {fuel : Nat} {listed : Array Bool} {a : Act} {w : World} {i : Nat} {o : Oper} {rs : List Nat} (ho : ops[i]? = some o) (hd : i ∉ ds)
    (h : ∀ K' : Act → World → Prop, Shut (∀ a w, S w → (S w → g5 P md ops Q S ds fuel (listed.setIfInBounds i true) a w) → K' a w) → if Region.wanted o (yielded ops a.tmps) = true then Oper.wp P o a w K' Q else K' (a.put o.dst undef) w)
    (hs : jd P md ops Q S ds fuel listed a w rs) : jd P md ops Q S ds fuel listed a w (i :: rs) := fun j hj => by
  rcases bx.1 hj with rfl | hj
  · exact wpOp_step ho (fun K' hK => h K' (fun a w hS hW => hK a w ⟨fun _ _ => hS, hW hS⟩))
  · exact hs j hj
theorem nR {rs : List Nat} {fuel : Nat} {listed : Array Bool} {a : Act} {w : World} (hr : Region.ready md ops listed = rs) (hne : rs ≠ [])
    (h : jd P md ops Q S ds fuel listed a w rs) : g5 P md ops Q S ds (fuel + 1) listed a w := AL hr hne h
theorem Gr {id n : Nat} {a : Act} {w : World} (l : Array Bool) (hm : P.follows .mixedOrders = true) (hn : ops.size = n) (hl : Array.replicate n false = l) (hS : S w.drew)
    (h : S w.drew → g5 P .any ops Q S ds n l a w.drew) : (Code.region id ops true).wp P Q a w := by
 subst hn; subst hl; exact Ad hm (h hS)
def D3 (md : Region.Mode) (ops : Array Oper) (ds : List Nat) (l l' : Array Bool) (i : Nat) : Bool :=
  Region.noSelect ops && Region.free md ops l i && (Region.ready md ops l).contains i && Region.vW md ops l && Region.HE md ops l ds i && (l.setIfInBounds i true == l')
theorem xK {i : Nat} {N : Option Tmp} {oi : Oper} {v : Value} {fuel : Nat} {l : Array Bool} {a : Act} {w : World} (l' : Array Bool) (hi : ops[i]? = some oi) (hN : oi.dst = N) (hc : D3 md ops ds l l' i = true)
    (hQ : ∀ c a w, Q (.panic c) (a.put oi.dst v) w → Q (.panic c) a w) (hy : YieldsIf P ops S oi v a) (hS : S w) {a' : Act} (ha : a.put N v = a')
    (h : g5 P md ops Q S ds fuel l' a' w) : g5 P md ops Q S ds (fuel + 1) l a w := by
 subst ha; subst hN; simp only [D3, ai, bG] at hc; obtain ⟨⟨⟨⟨⟨h1, h2⟩, h3⟩, h4⟩, h5⟩, h6⟩ := hc; subst h6; exact Ab hi h1 h2 h3 h4 h5 hQ hy hS h
def N0 (md : Region.Mode) (ops : Array Oper) (l l' : Array Bool) (i : Nat) : Bool :=
  Region.noSelect ops && Region.free md ops l i && (Region.ready md ops l).contains i && (l.setIfInBounds i true == l')
theorem ji {i : Nat} {N : Option Tmp} {oi : Oper} {v : Value} {fuel : Nat} {l : Array Bool} {a : Act} {w : World} (l' : Array Bool) (hi : ops[i]? = some oi) (hN : oi.dst = N) (hc : N0 md ops l l' i = true)
    (hQ : ∀ c a w, Q (.panic c) (a.put oi.dst v) w → Q (.panic c) a w) (hy : Yields P ops oi v a) {a' : Act} (ha : a.put N v = a')
    (h : g5 P md ops Q S ds fuel l' a' w) : g5 P md ops Q S ds (fuel + 1) l a w := by
 subst ha; subst hN; simp only [N0, ai, bG] at hc; obtain ⟨⟨⟨h1, h2⟩, h3⟩, h6⟩ := hc; subst h6; exact AK hi (Region.noSelect_spec h1) hQ fuel l a w (Region.free_spec hi h2) (by simpa using h3) hy h
def CI (md : Region.Mode) (ops : Array Oper) (l l' : Array Bool) (i : Nat) : Bool := (Region.ready md ops l == [i]) && (l.setIfInBounds i true == l')
theorem Zq {i : Nat} {N : Option Tmp} {oi : Oper} {fuel : Nat} {l : Array Bool} {a : Act} {w : World} (l' : Array Bool) (hi : ops[i]? = some oi) (hN : oi.dst = N) (hc : CI md ops l l' i = true) (hd : i ∉ ds)
    (h : ∀ K : Act → World → Prop, Shut (∀ a' w', S w' → (S w' → g5 P md ops Q S ds fuel l' a' w') → K a' w') → if Region.wanted oi (yielded ops a.tmps) = true then Oper.wp P oi a w K Q else K (a.put N undef) w) :
    g5 P md ops Q S ds (fuel + 1) l a w := by
     subst hN; simp only [CI, ai, bG] at hc; obtain ⟨h1, h2⟩ := hc; subst h2; exact nR h1 (by simp) (jd.cons hi hd (fun K hK => h K hK) jd.nil)
theorem Lo {l : Array Bool} {a : Act} {w : World} {n : Nat} (hr : (Region.ready md ops l == []) = true) (h : Q .normal a w) : g5 P md ops Q S ds n l a w := Ac (by simpa using hr) h n
theorem Uy {fuel : Nat} {l : Array Bool} {a a' : Act} {w : World} (ha : a = a') (h : g5 P md ops Q S ds fuel l a' w) : g5 P md ops Q S ds fuel l a w := by
 subst ha; exact h
theorem Uz {oi : Oper} {N : Option Tmp} {a : Act} {w : World} {K : Act → World → Prop} (f : FuncId) (args : Array Value) (hw : Region.wanted oi (yielded ops a.tmps) = true) (hN : oi.dst = N) (hrun : (execOp a.eval oi).run P w = .ok (.enter f args) w)
    (h : Calls P f args w fun e w' => ∃ v, e = .returned v ∧ K (a.put N v) w') : if Region.wanted oi (yielded ops a.tmps) = true then Oper.wp P oi a w K Q else K (a.put N undef) w := by
 rw [aj hw]; subst hN; unfold Oper.wp; rw [hrun, Oper.upon_enter]; refine h.mono fun e w'' hh => ?_; obtain ⟨v, rfl, hk⟩ := hh; exact hk
theorem BY {f : FuncId} {fn : Func} (hf : P.funcs[f]? = some fn) (hname : (fn.name == "runtime.NumGoroutine") = false) (hb : fn.body.isSome = true) (args : Array Value) (w : World) : (callFunc f args).run P w = .ok (.enter f args) w := by
 have h1 : fn.name ≠ "runtime.NumGoroutine" := by simpa using hname
 obtain ⟨c, hc⟩ := cX.1 hb; simp [callFunc, hf, h1, hc]
theorem UA {oi : Oper} {N : Option Tmp} {a : Act} {w : World} {K : Act → World → Prop} {f : FuncId} {fn : Func} {as : Array Operand} {ts : Array TypeId} (hf : P.funcs[f]? = some fn) (hname : (fn.name == "runtime.NumGoroutine") = false) (hb : fn.body.isSome = true) (args : Array Value)
    (hw : Region.wanted oi (yielded ops a.tmps) = true) (hN : oi.dst = N) (hop : oi.op = .call { callee := .value (.func f), args := as, argTypes := ts }) (hargs : as.map a.eval = args)
    (h : Calls P f args w fun e w' => ∃ v, e = .returned v ∧ K (a.put N v) w') : if Region.wanted oi (yielded ops a.tmps) = true then Oper.wp P oi a w K Q else K (a.put N undef) w := by
 refine Uz f args hw hN ?_ h; have he := BY hf hname hb args w; unfold execOp; simp [hop, resolve, Deferred.ofValue, invoke, Act.eval, hargs, he]
theorem mD {rest : List Oper} {oi : Oper} {a : Act} {w : World} (N : Option Tmp) (hd : oi.dst = N) (hg : oi.guard = none) {f : FuncId} {fn : Func} {as : Array Operand} {ts : Array TypeId} (hf : P.funcs[f]? = some fn) (hname : (fn.name == "runtime.NumGoroutine") = false) (hb : fn.body.isSome = true) (args : Array Value)
    (hop : oi.op = .call { callee := .value (.func f), args := as, argTypes := ts }) (hargs : as.map a.eval = args)
    (h : Calls P f args w fun e w' => ∃ v, e = .returned v ∧ wpList P ops Q rest (a.put N v) w') : wpList P ops Q (oi :: rest) a w := by
 refine wpList_plain hg fun K hK => ?_; have he := BY hf hname hb args w
 have hrun : (execOp a.eval oi).run P w = .ok (.enter f args) w := by
  unfold execOp; simp [hop, resolve, Deferred.ofValue, invoke, Act.eval, hargs, he]
 unfold Oper.wp; rw [hrun, Oper.upon_enter]; refine h.mono fun e w'' hh => ?_; obtain ⟨v, rfl, hk⟩ := hh; subst hd; exact hK _ _ hk
theorem iK (n : Int) : IntKind.i64.wrap n = Go.RowKit.wrap64 n := by unfold Go.RowKit.wrap64; exact IntKind.wrap_i64 n
theorem iM (n : Int) : IntKind.i32.wrap n = Go.RowKit.wrap32 n := by unfold Go.RowKit.wrap32; exact IntKind.wrap_i32 n
end
end Go.Proofs.YtmjnenjeckeklaaW.PrintLast
