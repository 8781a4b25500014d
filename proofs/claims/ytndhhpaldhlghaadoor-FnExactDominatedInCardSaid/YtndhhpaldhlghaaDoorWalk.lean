/- The walk of own make: frames as functions, operations by their runs, regions that draw their order. -/
import Derived.Test.YtndhhpaldhlghaaDoorLib
import Derived.Deep.RegionHeld3
namespace Go.GL
open Go Go.RowKit

/-! ### frames -/
def upd (env : Nat → Value) (d : Nat) (v : Value) : Nat → Value := fun k => cond (Nat.beq k d) v (env k)
def ev (env : Nat → Value) : Operand → Value
  | .tmp t => env t
  | .const v => v
  | .global g => .pointer (some ⟨g, 0, none⟩)
  | .func f => .func (.func f) #[] #[]
def envOf (l : List Value) : Nat → Value := fun k => l.getD k undef
def F (n : Nat) (env : Nat → Value) : Act := ⟨Array.ofFn (fun i : Fin n => env i.val), []⟩
theorem upd_same {env : Nat → Value} {d : Nat} {v : Value} (h : env d = v) : upd env d v = env := by
  funext k
  unfold upd
  cases hk : Nat.beq k d
  · rfl
  · have := Nat.eq_of_beq_eq_true hk
    subst this; exact h.symm
theorem put_F (n d : Nat) (env : Nat → Value) (v : Value) : (F n env).put (some d) v = F n (upd env d v) := by
  show (⟨(Array.ofFn (fun i : Fin n => env i.val)).setIfInBounds d v, []⟩ : Act) = ⟨Array.ofFn (fun i : Fin n => upd env d v i.val), []⟩
  congr 1
  apply Array.ext
  · simp
  · intro i h1 h2
    have h3 : i < n := by simpa using h2
    rw [Array.getElem_ofFn]
    by_cases h : d = i
    · subst h
      rw [Array.getElem_setIfInBounds_self]
      simp [upd]
    · have hb : Nat.beq i d = false := by
        cases hb : Nat.beq i d
        · rfl
        · exact absurd (Nat.eq_of_beq_eq_true hb).symm h
      rw [Array.getElem_setIfInBounds_ne (by simpa using h3) h, Array.getElem_ofFn]
      simp [upd, hb]
theorem put_F0 (n : Nat) (env : Nat → Value) (v : Value) : (F n env).put none v = F n env := rfl
def okX (n : Nat) : Operand → Bool
  | .tmp t => Nat.blt t n
  | _ => true
def okC (n : Nat) (c : Call) : Bool := (match c.callee with | .value f => okX n f | .invoke r _ => okX n r | .builtin _ => true) && c.args.toList.all (okX n)
def okN (n : Nat) : Option Operand → Bool
  | none => true
  | some x => okX n x
def okO (n : Nat) (o : Oper) : Bool :=
  match o.op with
  | .alloc _ | .ready _ | .waits _ => true
  | .move x | .assign x | .box _ x | .load _ x | .nilCheck x | .unOp _ _ x | .convert _ _ x | .sliceToArrayPointer _ x | .makeInterface _ x
  | .makeChan _ x | .fieldAddr _ x _ | .field _ x _ | .range _ x | .next x _ | .entry x | .typeAssert x _ _ _ | .extract x _ | .panic x | .recv _ x _ => okX n x
  | .pick c a b => okX n c && okX n a && okX n b
  | .build _ ps | .buildSlice _ _ ps => ps.toList.all fun p => okX n p.2
  | .store _ a v | .binOp _ _ a v _ | .makeSlice _ a v | .indexAddr _ a v | .index _ a v | .lookup _ a v _ | .mapEntry _ a v | .send a v => okX n a && okX n v
  | .makeFunc _ first captured => first.toList.all (okX n) && captured.toList.all (okX n)
  | .makeMap _ r => okN n r
  | .slice _ x l h m => okX n x && okN n l && okN n h && okN n m
  | .mapUpdate _ m k v | .entryStore _ m k v | .insert _ m k v => okX n m && okX n k && okX n v
  | .call c | .go c | .defer c => okC n c
  | .select _ _ => false

theorem eval_F {n : Nat} {env : Nat → Value} {x : Operand} (h : okX n x = true) : (F n env).eval x = ev env x := by
  cases x with
  | tmp t =>
    have ht : t < n := by simpa [okX, Nat.blt_eq] using h
    simp [Act.eval, F, ev, ht]
  | _ => rfl

theorem exec_F {n : Nat} {env : Nat → Value} {o : Oper} (h : okO n o = true) : execOp (F n env).eval o = execOp (ev env) o := by
  refine execOp_congr o ?_ ?_
  · intro cs b he
    rw [okO, he] at h
    cases h
  · intro x hx
    refine eval_F ?_
    obtain ⟨dst, op, ty, pos, aft, g⟩ := o
    cases op <;> simp only [okO, okC, Bool.and_eq_true, Op.operands, Call.operands] at h hx
    all_goals first
      | (simp at hx; done)
      | (simp at hx; subst hx; exact h)
      | (simp at hx; rcases hx with rfl | rfl <;> first | exact h.1 | exact h.2)
      | (simp at hx; rcases hx with rfl | rfl | rfl <;> first | exact h.1.1 | exact h.1.2 | exact h.2)
      | skip
    case build t ps => obtain ⟨i, hi⟩ : ∃ i, (i, x) ∈ ps := by simpa using hx
                       exact List.all_eq_true.1 h (i, x) (by simpa using hi)
    case buildSlice t l ps => obtain ⟨i, hi⟩ : ∃ i, (i, x) ∈ ps := by simpa using hx
                              exact List.all_eq_true.1 h (i, x) (by simpa using hi)
    case makeFunc fn f c => simp at hx; rcases hx with hx | hx <;> first | exact List.all_eq_true.1 h.1 _ (by simpa using hx) | exact List.all_eq_true.1 h.2 _ (by simpa using hx)
    case slice t y l hi m =>
      simp at hx
      rcases hx with rfl | hx | hx | hx
      · exact h.1.1.1
      · cases l <;> simp at hx; subst hx; exact h.1.1.2
      · cases hi <;> simp at hx; subst hx; exact h.1.2
      · cases m <;> simp at hx; subst hx; exact h.2
    all_goals first
      | (rename_i c; obtain ⟨callee, args, ats⟩ := c
         have h2 : ∀ x ∈ args, okX n x = true := fun x hx => List.all_eq_true.1 h.2 x (by simpa using hx)
         cases callee <;> simp at hx <;> first | exact h2 x hx | (rcases hx with rfl | hx <;> first | exact h.1 | exact h2 x hx))
      | (cases h)

theorem want_none {o : Oper} (hg : o.guard = none) (f : Nat → Option Bool) : Region.wanted o f = true := by simp [Region.wanted, hg]
theorem want_yes {ops : Array Oper} {n j t : Nat} {env : Nat → Value} {o : Oper} {b : Bool} (hg : o.guard = some (j, b)) (hj : (ops[j]?).bind (·.dst) = some t) (ht : Nat.blt t n = true) (he : env t = .bool b) :
    Region.wanted o (yielded ops (F n env).tmps) = true := by
  have h1 : t < n := by simpa [Nat.blt_eq] using ht
  simp [Region.wanted, hg, yielded, hj, F, h1, he]
theorem want_no {ops : Array Oper} {n j t : Nat} {env : Nat → Value} {o : Oper} {b c : Bool} (hg : o.guard = some (j, b)) (hj : (ops[j]?).bind (·.dst) = some t) (ht : Nat.blt t n = true) (he : env t = .bool c) (hbc : b = !c) :
    Region.wanted o (yielded ops (F n env).tmps) = false := by
  have h1 : t < n := by simpa [Nat.blt_eq] using ht
  subst hbc
  simp [Region.wanted, hg, yielded, hj, F, h1, he]
/-- An operation that was passed over itself guards no one in. -/
theorem want_undef {ops : Array Oper} {n j t : Nat} {env : Nat → Value} {o : Oper} {b : Bool} (hg : o.guard = some (j, b)) (hj : (ops[j]?).bind (·.dst) = some t) (ht : Nat.blt t n = true) (he : env t = undef) :
    Region.wanted o (yielded ops (F n env).tmps) = false := by
  have h1 : t < n := by simpa [Nat.blt_eq] using ht
  simp [Region.wanted, hg, yielded, hj, F, h1, he, undef]

/-! ### one operation -/
/-- The operation ends with a value, in a world, of which K holds. -/
def EO (P : Program) (ρ : Operand → Value) (o : Oper) (w : World) (K : Value → World → Prop) : Prop :=
  ∀ (a : Act) (N : Act → World → Prop) (Q : Exit → Act → World → Prop), (∀ v w', K v w' → N (a.put o.dst v) w') → o.upon P a N Q ((execOp ρ o).run P w)
theorem EO.run {P : Program} {ρ : Operand → Value} {o : Oper} {w w' : World} {K : Value → World → Prop} {v : Value} (h : (execOp ρ o).run P w = .ok (.value v) w') (hk : K v w') : EO P ρ o w K := by
  intro a N Q hn
  rw [h]
  exact hn v w' hk
theorem EO.skip {P : Program} {ρ : Operand → Value} {o : Oper} {w w' : World} {K : Value → World → Prop} (h : (execOp ρ o).run P w = .ok .skip w') (hk : K undef w') : EO P ρ o w K := by
  intro a N Q hn
  rw [h]
  exact hn undef w' hk
theorem EO.call {P : Program} {ρ : Operand → Value} {o : Oper} {w w1 : World} {K : Value → World → Prop} {f : FuncId} {args : Array Value} (h : (execOp ρ o).run P w = .ok (.enter f args) w1)
    (hc : Calls P f args w1 fun e w' => ∃ v, e = .returned v ∧ K v w') : EO P ρ o w K := by
  intro a N Q hn
  rw [h]
  refine Calls.mono hc fun e w' he => ?_
  obtain ⟨v, rfl, hk⟩ := he
  exact hn v w' hk
theorem EO.mono {P : Program} {ρ : Operand → Value} {o : Oper} {w : World} {K K' : Value → World → Prop} (h : EO P ρ o w K) (hk : ∀ v w', K v w' → K' v w') : EO P ρ o w K' :=
  fun a N Q hn => h a N Q fun v w' x => hn v w' (hk v w' x)

/-- 'wpList', closed: it is not to be reckoned. -/
structure WL (P : Program) (ops : Array Oper) (Q : Exit → Act → World → Prop) (l : List Oper) (a : Act) (w : World) : Prop where
  out : wpList P ops Q l a w
section
variable {P : Program} {ops : Array Oper} {Q : Exit → Act → World → Prop} {n : Nat} {env : Nat → Value} {w : World} {rest : List Oper} {o : Oper}
/-- The step of a region in its own order. -/
theorem q1 {d : Nat} (hg : o.guard = none) (hd : o.dst = some d) (hok : okO n o = true) (h : EO P (ev env) o w fun v w' => WL P ops Q rest (F n (upd env d v)) w') : WL P ops Q (o :: rest) (F n env) w := by
  constructor
  unfold wpList
  rw [if_pos (want_none hg _)]
  left
  unfold Oper.wp
  rw [exec_F hok]
  exact h _ _ _ fun v w' hk => by rw [hd, put_F]; exact hk.out
theorem q0 (hg : o.guard = none) (hd : o.dst = none) (hok : okO n o = true) (h : EO P (ev env) o w fun _ w' => WL P ops Q rest (F n env) w') : WL P ops Q (o :: rest) (F n env) w := by
  constructor
  unfold wpList
  rw [if_pos (want_none hg _)]
  left
  unfold Oper.wp
  rw [exec_F hok]
  exact h _ _ _ fun v w' hk => by rw [hd, put_F0]; exact hk.out
theorem qd {d : Nat} {v : Value} (hg : o.guard = none) (hd : o.dst = some d) (hok : okO n o = true) (hr : (execOp (ev env) o).run P w = .ok (.value v) w) (h : WL P ops Q rest (F n (upd env d v)) w) : WL P ops Q (o :: rest) (F n env) w :=
  q1 hg hd hok (EO.run hr h)
theorem q1g {d j t : Nat} {b : Bool} (hg : o.guard = some (j, b)) (hj : (ops[j]?).bind (·.dst) = some t) (ht : Nat.blt t n = true) (he : env t = .bool b) (hd : o.dst = some d) (hok : okO n o = true)
    (h : EO P (ev env) o w fun v w' => WL P ops Q rest (F n (upd env d v)) w') : WL P ops Q (o :: rest) (F n env) w := by
  constructor
  unfold wpList
  rw [if_pos (want_yes hg hj ht he)]
  left
  unfold Oper.wp
  rw [exec_F hok]
  exact h _ _ _ fun v w' hk => by rw [hd, put_F]; exact hk.out
theorem qdg {d j t : Nat} {b : Bool} {v : Value} (hg : o.guard = some (j, b)) (hj : (ops[j]?).bind (·.dst) = some t) (ht : Nat.blt t n = true) (he : env t = .bool b) (hd : o.dst = some d) (hok : okO n o = true)
    (hr : (execOp (ev env) o).run P w = .ok (.value v) w) (h : WL P ops Q rest (F n (upd env d v)) w) : WL P ops Q (o :: rest) (F n env) w :=
  q1g hg hj ht he hd hok (EO.run hr h)
theorem qs {d j t : Nat} {b c : Bool} (hg : o.guard = some (j, b)) (hj : (ops[j]?).bind (·.dst) = some t) (ht : Nat.blt t n = true) (he : env t = .bool c) (hbc : b = !c) (hd : o.dst = some d)
    (h : WL P ops Q rest (F n (upd env d undef)) w) : WL P ops Q (o :: rest) (F n env) w := by
  constructor
  unfold wpList
  rw [if_neg (by rw [want_no hg hj ht he hbc]; simp), hd, put_F]
  exact h.out
theorem qsu {d j t : Nat} {b : Bool} (hg : o.guard = some (j, b)) (hj : (ops[j]?).bind (·.dst) = some t) (ht : Nat.blt t n = true) (he : env t = undef) (hd : o.dst = some d)
    (h : WL P ops Q rest (F n (upd env d undef)) w) : WL P ops Q (o :: rest) (F n env) w := by
  constructor
  unfold wpList
  rw [if_neg (by rw [want_undef hg hj ht he]; simp), hd, put_F]
  exact h.out
theorem qe (h : Q .normal (F n env) w) : WL P ops Q [] (F n env) w := ⟨h⟩
/-- A slot that holds a Bool is read by cases. -/
theorem qb {l : List Oper} {t : Nat} {b : Bool} (he : env t = .bool b) (h1 : b = true → WL P ops Q l (F n (upd env t (.bool true))) w) (h2 : b = false → WL P ops Q l (F n (upd env t (.bool false))) w) : WL P ops Q l (F n env) w := by
  cases b
  · have := h2 rfl; rwa [upd_same he] at this
  · have := h1 rfl; rwa [upd_same he] at this
end

/-! ### control -/
section
variable {P : Program} {Q : Exit → Act → World → Prop} {n : Nat} {env : Nat → Value} {w : World} {a : Act}
theorem enter {f : FuncId} {fn : Func} {c : Code} {l : List Value} {R : Ending → World → Prop} (hf : P.funcs[f]? = some fn) (hn : fn.ntmps = n) (hl : Nat.ble l.length n = true) (hb : fn.body = some c)
    (h : c.wp P (bodyPost P fn R) (F n (envOf l)) w) : Calls P f l.toArray w R := by
  refine calls_of_wp hf hb ?_
  have h1 : l.length ≤ n := by simpa [Nat.ble_eq] using hl
  have : ({ tmps := l.toArray ++ Array.replicate (fn.ntmps - l.toArray.size) undef, defers := [] } : Act) = F n (envOf l) := by
    unfold F
    congr 1
    apply Array.ext
    · simp; omega
    · intro i h2 h3
      simp only [Array.getElem_ofFn, envOf]
      rw [Array.getElem_append]
      split
      · rename_i h4; simp at h4; simp [List.getD, h4]
      · rename_i h4; simp at h4; simp [List.getD, List.getElem?_eq_none h4]
  rw [this]
  exact h
theorem c_reg {id : Nat} {l : List Oper} (h : WL P l.toArray Q l (F n env) w) : (Code.region id l.toArray false).wp P Q (F n env) w := wp_region_lit h.out
theorem c_then {next : Act → World → Prop} (h : next a w) : Exit.then next Q .normal a w := h
theorem c_thenE {next : Act → World → Prop} {id : Nat} (h : Q (.exit id) a w) : Exit.then next Q (.exit id) a w := h
theorem c_thenR {next : Act → World → Prop} (h : Q .ret a w) : Exit.then next Q .ret a w := h
theorem c_blkN {id : Nat} (h : Q .normal a w) : Exit.inBlock id Q .normal a w := h
theorem c_blkR {id : Nat} (h : Q .ret a w) : Exit.inBlock id Q .ret a w := h
theorem c_blkE {id : Nat} (h : Q .normal a w) : Exit.inBlock id Q (.exit id) a w := by simp only [Exit.inBlock, if_true]; exact h
theorem c_blkO {id id' : Nat} (hne : Nat.beq id' id = false) (h : Q (.exit id') a w) : Exit.inBlock id Q (.exit id') a w := by
  have : id' ≠ id := fun e => by subst e; simp at hne
  simp only [Exit.inBlock, if_neg this]; exact h
theorem c_if {c : Operand} {x y : Code} {b : Bool} (hok : okX n c = true) (hc : ev env c = .bool b) (h1 : b = true → x.wp P Q (F n env) w) (h2 : b = false → y.wp P Q (F n env) w) : (Code.cond c x y).wp P Q (F n env) w :=
  wp_cond_split (by rw [eval_F hok]; exact hc) h1 h2
theorem c_ret1 {fn : Func} {R : Ending → World → Prop} {t : Nat} {v : Value} (hr : fn.results = #[.tmp t]) (ht : Nat.blt t n = true) (hv : env t = v) (h : R (.returned v) w) : bodyPost P fn R .ret (F n env) w := by
  have h1 : t < n := by simpa [Nat.blt_eq] using ht
  refine bodyPost_ret (results_tmp hr _ _ _) rfl ?_
  simp only [F, Array.getD_eq_getD_getElem?]
  simp [h1, hv]; exact h
theorem c_ret2 {fn : Func} {R : Ending → World → Prop} {t s : Nat} {v u : Value} (hr : fn.results = #[.tmp t, .tmp s]) (ht : Nat.blt t n = true) (hs : Nat.blt s n = true) (hv : env t = v) (hu : env s = u) (h : R (.returned (.tuple #[v, u])) w) : bodyPost P fn R .ret (F n env) w := by
  have h1 : t < n := by simpa [Nat.blt_eq] using ht
  have h2 : s < n := by simpa [Nat.blt_eq] using hs
  refine bodyPost_ret (results_tmp2 hr _ _ _) rfl ?_
  simp only [F, Array.getD_eq_getD_getElem?]
  simp [h1, h2, hv, hu]; exact h
theorem c_ret0 {fn : Func} {R : Ending → World → Prop} (hr : fn.results = #[]) (h : R (.returned (.tuple #[])) w) : bodyPost P fn R .ret (F n env) w :=
  bodyPost_ret (results_none hr _ _ _) rfl h
theorem c_end0 {fn : Func} {R : Ending → World → Prop} (hr : fn.results = #[]) (h : R (.returned (.tuple #[])) w) : bodyPost P fn R .normal (F n env) w :=
  bodyPost_end (results_none hr _ _ _) rfl h
end

/-! ### regions that draw their order
As Derived/OrdersHeld.lean has it, but 'S' is not asked behind the one operation 'last', which waits for all that is taken first. -/
section
variable {P : Program} {ops : Array Oper} {Q : Exit → Act → World → Prop} {md : Region.Mode} {S : World → Prop}
def dr (P : Program) (md : Region.Mode) (ops : Array Oper) (Q : Exit → Act → World → Prop) (S : World → Prop) (last : Nat) : Nat → Array Bool → Act → World → Prop
  | 0, listed, a, w => Region.ready md ops listed = [] ∧ Q .normal a w
  | fuel + 1, listed, a, w =>
    (Region.ready md ops listed = [] → Q .normal a w) ∧
    ∀ i ∈ Region.ready md ops listed, wpOp P ops Q i (fun a' w' => (i ≠ last → S w') ∧ dr P md ops Q S last fuel (listed.setIfInBounds i true) a' w') a w
theorem wpAny_of_dr {last : Nat} : ∀ (fuel : Nat) (listed : Array Bool) (a : Act) (w : World), dr P md ops Q S last fuel listed a w → wpAny P md ops Q fuel listed a w
  | 0, _, _, _, h => h
  | fuel + 1, _, _, _, h => ⟨h.1, fun i hi => wpOp_mono (fun a' w' h' => wpAny_of_dr fuel _ a' w' h'.2) (h.2 i hi)⟩

theorem dr_first {last i : Nat} {oi : Oper} {v : Value} (hi : ops[i]? = some oi) (hsel : ∀ (j : Nat) (o : Oper) cs b, ops[j]? = some o → o.op ≠ .select cs b)
    (hQ : ∀ c a w, Q (.panic c) (a.put oi.dst v) w → Q (.panic c) a w) :
    ∀ (fuel : Nat) (listed : Array Bool) (a : Act) (w : World),
      (∀ j oj, ops[j]? = some oj → j ≠ i → listed.getD j true = false → (∀ e ∈ oj.after, Region.binds md e = true → e.on ≠ i) → oi.apart ops oj = true) →
      (∀ ol, ops[last]? = some ol → i ≠ last ∧ ∃ e ∈ ol.after, Region.binds md e = true ∧ e.on = i) →
      i ∈ Region.ready md ops listed → YieldsIf P ops S oi v a → S w →
      dr P md ops Q S last fuel (listed.setIfInBounds i true) (a.put oi.dst v) w → dr P md ops Q S last (fuel + 1) listed a w := by
  intro fuel
  induction fuel with
  | zero =>
    intro listed a w _ _ hr hy hS H
    refine ⟨fun h => (by rw [h] at hr; cases hr), fun j hj => ?_⟩
    by_cases hji : j = i
    · subst hji; exact hy.wpOp hi hS ⟨fun _ => hS, H⟩
    · have := ready_mono hj hji
      rw [H.1] at this
      cases this
  | succ fuel ih =>
    intro listed a w hfree hlast hr hy hS H
    refine ⟨fun h => (by rw [h] at hr; cases hr), fun j hj => ?_⟩
    by_cases hji : j = i
    · subst hji; exact hy.wpOp hi hS ⟨fun _ => hS, H⟩
    · have h1 := H.2 j (ready_mono hj hji)
      obtain ⟨hjun, oj, hoj, hall⟩ := mem_ready.1 hj
      have hnot : ∀ e ∈ oj.after, Region.binds md e = true → e.on ≠ i := fun e he hb heq => by
        have h1 := hall e he hb
        have h0 := (mem_ready.1 hr).1
        rw [heq] at h1
        rcases Nat.lt_or_ge i listed.size with h' | h'
        · simp [h'] at h0 h1; rw [h0] at h1; cases h1
        · simp [Array.getElem?_eq_none h'] at h1
      have h2 := wpOp_putIf hoj (hfree j oj hoj hji hjun hnot) (fun cs b => hsel i oi cs b hi) (fun cs b => hsel j oj cs b hoj) hQ hy h1
      have hfree' : ∀ k ok, ops[k]? = some ok → k ≠ i → (listed.setIfInBounds j true).getD k true = false →
          (∀ e ∈ ok.after, Region.binds md e = true → e.on ≠ i) → oi.apart ops ok = true := fun k ok hk hki hun hno => by
        refine hfree k ok hk hki ?_ hno
        by_cases hjk : j = k
        · subst hjk; exact hjun
        · rw [getD_set_ne true hjk] at hun; exact hun
      have hjl : j ≠ last := fun e => by
        subst e
        obtain ⟨_, e, he, hb, heq⟩ := hlast oj hoj
        exact hnot e he hb heq
      refine wpOp_mono (fun a' w' h3 => ⟨fun _ => h3.2.1 hjl, ih (listed.setIfInBounds j true) a' w' hfree' hlast (ready_mono hr (Ne.symm hji)) h3.1 (h3.2.1 hjl) ?_⟩) h2
      rw [Array.setIfInBounds_comm _ _ hji]
      exact h3.2.2

/-- 'last' waits for number i (or there is no 'last'). -/
def waits (ops : Array Oper) (last i : Nat) : Bool :=
  match ops[last]? with
  | none => true
  | some ol => !(Nat.beq i last) && ol.after.any (fun e => Region.binds .any e && Nat.beq e.on i)

/-- 'dr', closed. -/
structure DR (P : Program) (ops : Array Oper) (Q : Exit → Act → World → Prop) (S : World → Prop) (last fuel : Nat) (listed : Array Bool) (a : Act) (w : World) : Prop where
  out : dr P .any ops (NoPanic Q) S last fuel listed a w
variable {n fuel : Nat} {env : Nat → Value} {listed : Array Bool} {w : World} {o : Oper}
theorem dr_take {last i d : Nat} {v : Value} (hi : ops[i]? = some o) (hd : o.dst = some d) (hok : okO n o = true) (hw : Region.wanted o (yielded ops (F n env).tmps) = true)
    (hf : (Region.noSelect ops && Region.free .any ops listed i && (Region.ready .any ops listed).contains i && waits ops last i) = true)
    (hy : ∀ w, S w → (execOp (ev env) o).run P w = .ok (.value v) w) (hS : S w)
    (h : DR P ops Q S last fuel (listed.setIfInBounds i true) (F n (upd env d v)) w) : DR P ops Q S last (fuel + 1) listed (F n env) w := by
  simp only [Bool.and_eq_true] at hf
  obtain ⟨⟨⟨h1, h2⟩, h3⟩, h4⟩ := hf
  constructor
  refine dr_first hi (Region.noSelect_spec h1) (fun _ _ _ h => h) fuel listed _ w (Region.free_spec hi h2) ?_ (by simpa using h3) (Or.inl ⟨hw, fun w hs => by rw [exec_F hok]; exact hy w hs⟩) hS (by rw [hd, put_F]; exact h.out)
  intro ol hol
  simp only [waits, hol, Bool.and_eq_true, Bool.not_eq_true'] at h4
  refine ⟨fun e => by subst e; simp at h4, ?_⟩
  obtain ⟨e, he, hb⟩ := Array.any_eq_true'.1 h4.2
  simp only [Bool.and_eq_true] at hb
  exact ⟨e, he, hb.1, Nat.eq_of_beq_eq_true hb.2⟩
/-- An operation that is passed over. -/
theorem dr_skip {last i d : Nat} (hi : ops[i]? = some o) (hd : o.dst = some d) (hw : Region.wanted o (yielded ops (F n env).tmps) = false)
    (hf : (Region.noSelect ops && Region.free .any ops listed i && (Region.ready .any ops listed).contains i && waits ops last i) = true) (hS : S w)
    (h : DR P ops Q S last fuel (listed.setIfInBounds i true) (F n (upd env d undef)) w) : DR P ops Q S last (fuel + 1) listed (F n env) w := by
  simp only [Bool.and_eq_true] at hf
  obtain ⟨⟨⟨h1, h2⟩, h3⟩, h4⟩ := hf
  constructor
  refine dr_first hi (Region.noSelect_spec h1) (fun _ _ _ h => h) fuel listed _ w (Region.free_spec hi h2) ?_ (by simpa using h3) (Or.inr ⟨hw, rfl⟩) hS (by rw [hd, put_F]; exact h.out)
  intro ol hol
  simp only [waits, hol, Bool.and_eq_true, Bool.not_eq_true'] at h4
  refine ⟨fun e => by subst e; simp at h4, ?_⟩
  obtain ⟨e, he, hb⟩ := Array.any_eq_true'.1 h4.2
  simp only [Bool.and_eq_true] at hb
  exact ⟨e, he, hb.1, Nat.eq_of_beq_eq_true hb.2⟩
/-- One operation is carried out, whatever it does. -/
structure drOp (P : Program) (ops : Array Oper) (Q : Exit → Act → World → Prop) (S : World → Prop) (last n fuel : Nat) (listed : Array Bool) (env : Nat → Value) (w : World) (i : Nat) : Prop where
  out : wpOp P ops (NoPanic Q) i (fun a' w' => (i ≠ last → S w') ∧ dr P .any ops (NoPanic Q) S last fuel (listed.setIfInBounds i true) a' w') (F n env) w
theorem dr_one {last i : Nat} (hr : Region.ready .any ops listed = [i]) (h : drOp P ops Q S last n fuel listed env w i) : DR P ops Q S last (fuel + 1) listed (F n env) w :=
  ⟨⟨fun h0 => (by rw [hr] at h0; cases h0), fun j hj => by rw [hr] at hj; simp at hj; subst hj; exact h.out⟩⟩
theorem dr_two {last i j : Nat} (hr : Region.ready .any ops listed = [i, j]) (h : drOp P ops Q S last n fuel listed env w i) (h' : drOp P ops Q S last n fuel listed env w j) : DR P ops Q S last (fuel + 1) listed (F n env) w :=
  ⟨⟨fun h0 => (by rw [hr] at h0; cases h0), fun k hk => by rw [hr] at hk; simp at hk; rcases hk with rfl | rfl <;> first | exact h.out | exact h'.out⟩⟩
theorem dr_three {last i j l : Nat} (hr : Region.ready .any ops listed = [i, j, l]) (h : drOp P ops Q S last n fuel listed env w i) (h' : drOp P ops Q S last n fuel listed env w j) (h'' : drOp P ops Q S last n fuel listed env w l) : DR P ops Q S last (fuel + 1) listed (F n env) w :=
  ⟨⟨fun h0 => (by rw [hr] at h0; cases h0), fun k hk => by rw [hr] at hk; simp at hk; rcases hk with rfl | rfl | rfl <;> first | exact h.out | exact h'.out | exact h''.out⟩⟩
theorem drOp1 {last i d : Nat} (hi : ops[i]? = some o) (hd : o.dst = some d) (hok : okO n o = true) (hw : Region.wanted o (yielded ops (F n env).tmps) = true)
    (h : EO P (ev env) o w fun v w' => (i ≠ last → S w') ∧ DR P ops Q S last fuel (listed.setIfInBounds i true) (F n (upd env d v)) w') : drOp P ops Q S last n fuel listed env w i := by
  constructor
  unfold wpOp
  simp only [hi, hw, if_true]
  left
  unfold Oper.wp
  rw [exec_F hok]
  exact h _ _ _ fun v w' hk => by rw [hd, put_F]; exact ⟨hk.1, hk.2.out⟩
theorem drOp0 {last i : Nat} (hi : ops[i]? = some o) (hd : o.dst = none) (hok : okO n o = true) (hw : Region.wanted o (yielded ops (F n env).tmps) = true)
    (h : EO P (ev env) o w fun _ w' => (i ≠ last → S w') ∧ DR P ops Q S last fuel (listed.setIfInBounds i true) (F n env) w') : drOp P ops Q S last n fuel listed env w i := by
  constructor
  unfold wpOp
  simp only [hi, hw, if_true]
  left
  unfold Oper.wp
  rw [exec_F hok]
  exact h _ _ _ fun v w' hk => by rw [hd, put_F0]; exact ⟨hk.1, hk.2.out⟩
theorem dr_end {last : Nat} (hr : Region.ready .any ops listed = []) (h : Q .normal (F n env) w) : DR P ops Q S last fuel listed (F n env) w := by
  cases fuel with
  | zero => exact ⟨⟨hr, NoPanic.normal h⟩⟩
  | succ k => exact ⟨⟨fun _ => NoPanic.normal h, by rw [hr]; simp⟩⟩
theorem c_draw {id last : Nat} {l : List Oper} {m : Nat} (hm : P.follows .mixedOrders = true) (hl : l.toArray.size = m)
    (h : DR P l.toArray Q S last m (Array.replicate m false) (F n env) w.drew) : (Code.region id l.toArray true).wp P Q (F n env) w := by
  refine wp_region_noPanic (wp_region_any hm (wpAny_of_dr (S := S) (last := last) _ _ _ _ ?_))
  rw [hl]
  exact h.out
end
end Go.GL
