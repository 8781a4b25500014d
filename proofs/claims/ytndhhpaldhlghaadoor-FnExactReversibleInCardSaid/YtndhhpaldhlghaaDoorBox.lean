/- Variables that lie in memory (boxes): made, read, written, promised. -/
import Derived.Test.YtndhhpaldhlghaaDoorOps
import Derived.Deep.LoopGhost
namespace Go.GL
open Go Go.RowKit

theorem Pins.of_le {G G' : Pin} {w : World} (h : Pins G' w) (hl : Pin.le G G') : Pins G w := fun b o u hu => h b o u (hl b o u hu)
theorem Own.below {α : Type} {E : Elt α} {e : Nat} {G : Pin} {w w' : World} {base : Nat} {v : Value} {xs : List α} (h : Own E e G w base v xs) (hb : Below w.heap.size w w') : Own E e G w' base v xs :=
  h.kept (Below.grownBy hb none) (by cases hv : v.ownBlock <;> simp)

/-- A block of the call's own that holds just these cells. -/
structure Bx (G : Pin) (w : World) (b : Nat) (cs : List Value) : Prop where
  heap : ∃ T, w.heap[b]? = some (.cells cs.toArray T (0, 0))
  free : ∀ o u, ¬ G b o u
/-- Promised cells of a block. -/
def BxP (G : Pin) (b : Nat) (cs : List Value) : Prop := ∀ o u, cs[o]? = some u → G b o u
theorem BxP.mono {G G' : Pin} {b : Nat} {cs : List Value} (h : BxP G b cs) (hl : Pin.le G G') : BxP G' b cs := fun o u hu => hl _ _ _ (h o u hu)

section
variable {G : Pin} {w w' : World} {b : Nat} {cs : List Value}
theorem Bx.lt (h : Bx G w b cs) : b < w.heap.size := by
  obtain ⟨T, hT⟩ := h.heap
  exact (Array.getElem?_eq_some_iff.1 hT).1
theorem Bx.cell (h : Bx G w b cs) {o : Nat} {u : Value} (hu : cs[o]? = some u) : w.cell? ⟨b, o, none⟩ = some u := by
  obtain ⟨T, hT⟩ := h.heap
  rw [cell_of_row w b o cs.toArray T (0, 0) hT]
  simpa using hu
theorem Bx.below (h : Bx G w b cs) (hb : Below w.heap.size w w') : Bx G w' b cs := by
  obtain ⟨T, hT⟩ := h.heap
  exact ⟨⟨T, by rw [hb.block b h.lt]; exact hT⟩, h.free⟩
theorem Bx.kept {row : Option Nat} (h : Bx G w b cs) (hg : w.grownBy w' row) (hne : some b ≠ row) : Bx G w' b cs := by
  obtain ⟨T, hT⟩ := h.heap
  exact ⟨⟨T, by rw [hg.block b h.lt hne]; exact hT⟩, h.free⟩
theorem Bx.extS {S : Nat → Prop} {G' : Pin} (h : Bx G w b cs) (hx : Ext S G w G' w') (hS : ¬ S b) : Bx G' w' b cs :=
  ⟨by obtain ⟨T, hT⟩ := h.heap; exact ⟨T, by rw [hx.block b h.lt hS]; exact hT⟩, fun o u hu => by
    rcases hx.fresh b o u hu with h1 | h1
    · exact h.free o u h1
    · have := h.lt; omega⟩
theorem Bx.ext {G' : Pin} (h : Bx G w b cs) (hx : Ext noS G w G' w') : Bx G' w' b cs := h.extS hx id
/-- A box that is written no more. -/
theorem Bx.shut {S : Nat → Prop} {w0 : World} {G0 : Pin} (h : Bx G w b cs) (hx : Ext S G0 w0 G w) (hb : w0.heap.size ≤ b) :
    ∃ G', Pin.le G G' ∧ Ext S G0 w0 G' w ∧ BxP G' b cs ∧ (∀ k o u, G' k o u → G k o u ∨ k = b) :=
  ⟨fun k o u => G k o u ∨ (k = b ∧ cs[o]? = some u), fun _ _ _ h => Or.inl h,
    ⟨fun k o u hu => Or.inl (hx.le k o u hu), fun k o u hu => by
      rcases hu with hu | ⟨rfl, hu⟩
      · exact hx.pins k o u hu
      · exact h.cell hu, fun k o u hu => by
      rcases hu with hu | ⟨rfl, hu⟩
      · exact hx.fresh k o u hu
      · exact Or.inr hb, hx.os, hx.tape, hx.output, hx.size, hx.block⟩, fun o u hu => Or.inr ⟨rfl, hu⟩, fun k o u hu => by
      rcases hu with hu | hu
      · exact Or.inl hu
      · exact Or.inr hu.1⟩
theorem Own.more {α : Type} {E : Elt α} {e : Nat} {base : Nat} {v : Value} {xs : List α} {G' : Pin} (h : Own E e G w base v xs) (hl : Pin.le G G') (hf : ∀ k o u, G' k o u → G k o u ∨ k = b) (hne : v.ownBlock ≠ some b) : Own E e G' w base v xs :=
  h.mono hl fun k hk o u hu => by
    rcases hf k o u hu with h1 | h1
    · exact h.free k hk o u h1
    · subst h1; exact hne hk
theorem Bx.more {G' : Pin} {c : Nat} (h : Bx G w b cs) (hf : ∀ k o u, G' k o u → G k o u ∨ k = c) (hne : b ≠ c) : Bx G' w b cs :=
  ⟨h.heap, fun o u hu => by
    rcases hf b o u hu with h1 | h1
    · exact h.free o u h1
    · exact hne h1⟩
end

section
variable {P : Program} {ρ : Operand → Value} {w : World} {K : Value → World → Prop} {d : Option Nat} {t ty : Nat} {pos : String} {aft : Array Edge} {g : Option (Nat × Bool)} {x y : Operand} {G : Pin}
theorem newBox (cs : List Value) (T : Nat) (hP : Pins G w) : Bx G (w.alloc (.cells cs.toArray T)) w.heap.size cs ∧ Pins G (w.alloc (.cells cs.toArray T)) ∧ Below w.heap.size w (w.alloc (.cells cs.toArray T)) := by
  have hb : Below w.heap.size w (w.alloc (.cells cs.toArray T)) := (Below.refl _ _).alloc (Nat.le_refl _) _
  refine ⟨⟨⟨T, heap_alloc_new w _⟩, fun o u hu => ?_⟩, hP.below hb, hb⟩
  have := block_lt (hP _ _ _ hu); omega
theorem o_alloc (cs : List Value) {z : Value} (hz : (P.info? t).bind (·.zero) = some z) (hc : z.cells.toList = cs) (hP : Pins G w)
    (h : ∀ b w', b = w.heap.size → Bx G w' b cs → Pins G w' → Below w.heap.size w w' → K (.pointer (some ⟨b, 0, none⟩)) w') : EO P ρ ⟨d, .alloc t, ty, pos, aft, g⟩ w K := by
  obtain ⟨inf, hi, hzz⟩ := Option.bind_eq_some_iff.1 hz
  obtain ⟨h1, h2, h3⟩ := newBox (w := w) cs t hP
  have hcs : z.cells = cs.toArray := by rw [← hc]
  refine EO.run ?_ (h _ _ rfl h1 h2 h3)
  simp [execOp, Instr.alloc, zeroValue, typeInfo, hi, hzz, newVar, newRow, hcs]
theorem o_box (cs : List Value) {v : Value} (hx : ρ x = v) (hc : v.cells.toList = cs) (hP : Pins G w)
    (h : ∀ b w', b = w.heap.size → Bx G w' b cs → Pins G w' → Below w.heap.size w w' → K (.pointer (some ⟨b, 0, none⟩)) w') : EO P ρ ⟨d, .box t x, ty, pos, aft, g⟩ w K := by
  obtain ⟨h1, h2, h3⟩ := newBox (w := w) cs t hP
  have hcs : v.cells = cs.toArray := by rw [← hc]
  refine EO.run ?_ (h _ _ rfl h1 h2 h3)
  simp [execOp, hx, Instr.box, newVar, newRow, hcs]
theorem r_fldp {fs : Array Field} {f b o k : Nat} {fd : Field} (hk : o + fd.offset = k) (ht : P.underlying t = some (.struct fs)) (hf : fs[f]? = some fd) (hi : ((P.info? fd.type).map (·.size == 0)) = some false) (hx : ρ x = .pointer (some ⟨b, o, none⟩)) :
    (execOp ρ ⟨d, .fieldAddr t x f, ty, pos, aft, g⟩).run P w = .ok (.value (.pointer (some ⟨b, k, none⟩))) w := by
  subst hk
  obtain ⟨inf, hinf, hsz⟩ := Option.map_eq_some_iff.1 hi
  have hne : ¬ inf.size = 0 := by simpa using hsz
  simp only [execOp, hx, Instr.fieldAt, Instr.sureAddr, fieldPlace]
  simp [underlying, ht, hf, sizeOf, typeInfo, hinf, hne, Addr.add]
theorem r_ldp1 {b o : Nat} {u : Value} (ha : (P.underlying t).map aggD = some false) (hx : ρ x = .pointer (some ⟨b, o, none⟩)) (hc : w.cell? ⟨b, o, none⟩ = some u) :
    (execOp ρ ⟨d, .load t x, ty, pos, aft, g⟩).run P w = .ok (.value u) w := by
  simp only [execOp, hx, Instr.loadAt, Instr.sureAddr, loadVar, Sem.run_bind, Sem.run_pure, Result.andThen_ok, run_isAgg ha]
  simp [hc]
theorem r_ldpA {b o : Nat} {cs : List Value} (ha : (P.underlying t).map aggD = some true) (hs : (P.info? t).map (·.size) = some cs.length) (hx : ρ x = .pointer (some ⟨b, o, none⟩)) (hc : ∀ j u, cs[j]? = some u → w.cell? ⟨b, o + j, none⟩ = some u) :
    (execOp ρ ⟨d, .load t x, ty, pos, aft, g⟩).run P w = .ok (.value (.agg cs.toArray)) w := by
  have hcell : ∀ j u, cs[j]? = some u → w.cell? ((⟨b, o, none⟩ : Addr).add j) = some u := fun j u hj => by
    have := hc j u hj
    simp only [Addr.add]
    split
    · simp_all
    · exact this
  have hr2 := run_loadCells_list (P := P) w ⟨b, o, none⟩ cs hcell
  have hlv : (loadVar t ⟨b, o, none⟩).run P w = .ok (.agg cs.toArray) w := by
    unfold loadVar
    simp only [Sem.run_bind, run_isAgg ha, Result.andThen_ok, if_true, run_sizeOf hs, hr2, Sem.run_pure]
  simp only [execOp, hx, Instr.loadAt, Instr.sureAddr, Sem.run_bind, Sem.run_pure, Result.andThen_ok, hlv]
/-- Cells of a box are written, from place o on. -/
theorem o_stp {b o : Nat} {cs cs' us : List Value} {v : Value} (hs : (P.info? t).map (·.size) = some us.length) (hx : ρ x = .pointer (some ⟨b, o, none⟩)) (hy : ρ y = v) (hu : v.cells.toList = us) (h1 : ∀ u ∈ us, u.oneCell' = true)
    (hP : Pins G w) (hb : Bx G w b cs) (hl : o + us.length ≤ cs.length) (hcs : cs' = cs.take o ++ us ++ cs.drop (o + us.length))
    (h : ∀ w', Bx G w' b cs' → Pins G w' → w.grownBy w' (some b) → w'.heap.size = w.heap.size → K undef w') : EO P ρ ⟨d, .store t x y, ty, pos, aft, g⟩ w K := by
  obtain ⟨T, hT⟩ := hb.heap
  have hst := run_storeCells_at P b o T us 0 cs.toArray w hT (by simpa using hl) h1
  simp only [Nat.add_zero] at hst
  have hgrow : w.grownBy (w.setRow b (cs.take o ++ us ++ cs.drop (o + us.length)).toArray) (some b) :=
    ⟨rfl, rfl, rfl, by simp [World.setRow], fun k _ hk => setRow_other w b k _ (fun e => hk (by simp [e]))⟩
  have hsz : v.cells.size = us.length := by rw [← hu]; simp
  subst hcs
  refine EO.skip (w' := w.setRow b (cs.take o ++ us ++ cs.drop (o + us.length)).toArray) ?_ (h _ ⟨⟨T, setRow_heap w b cs.toArray _ T _ hT⟩, hb.free⟩ (hP.grown hgrow (fun k hk o' u' => by cases hk; exact hb.free o' u')) hgrow (by simp [World.setRow]))
  have hlv : (storeVar t ⟨b, o, none⟩ v).run P w = .ok () (w.setRow b (cs.take o ++ us ++ cs.drop (o + us.length)).toArray) := by
    unfold storeVar
    simp only [Sem.run_bind, run_sizeOf hs, Result.andThen_ok, hsz]
    simp only [ne_eq, not_true_eq_false, if_false]
    rw [hu]
    exact hst
  simp only [execOp, hx, hy, Instr.storeAt, Instr.sureAddr, Sem.run_bind, Sem.run_pure, Result.andThen_ok, hlv]
/-- A call of a function by name. -/
theorem o_call {f : FuncId} {fn : Func} {xs : Array Operand} {ats : Array TypeId} {vs : List Value} (hf : P.funcs[f]? = some fn) (hn : (fn.name == "runtime.NumGoroutine") = false) (hb : fn.body.isNone = false) (hargs : xs.toList.map ρ = vs) (hρ : ρ (.func f) = .func (.func f) #[] #[])
    (h : Calls P f vs.toArray w fun e w' => ∃ v, e = .returned v ∧ K v w') : EO P ρ ⟨d, .call { callee := .value (.func f), args := xs, argTypes := ats }, ty, pos, aft, g⟩ w K := by
  refine EO.call (f := f) (args := vs.toArray) (w1 := w) ?_ h
  have h1 : execOp ρ ⟨d, .call { callee := .value (.func f), args := xs, argTypes := ats }, ty, pos, aft, g⟩ = callFunc f (#[] ++ xs.map ρ ++ #[]) := by
    simp only [execOp, resolve, hρ]
    rfl
  have h2 : (#[] ++ xs.map ρ ++ #[] : Array Value) = vs.toArray := by
    rw [Array.empty_append, Array.append_empty, ← hargs, ← Array.toList_map]
  have h3 : ¬ fn.name = "runtime.NumGoroutine" := by simpa using hn
  have h4 : ¬ fn.body = none := fun h => by rw [h] at hb; cases hb
  rw [h1, h2]
  simp [callFunc, hf, h3, h4]
end

/-! ### more of control -/
section
variable {P : Program} {Q : Exit → Act → World → Prop} {n : Nat} {env : Nat → Value} {w : World} {a : Act}
theorem c_loop {c : Code} (I : Nat → (Nat → Value) → World → Prop) (k0 : Nat) (h0 : I k0 env w)
    (round : ∀ k env w, I k env w → c.wp P (Exit.then (fun a' w' => ∃ k', k' < k ∧ ∃ env', a' = F n env' ∧ I k' env' w') Q) (F n env) w) : (Code.loop c).wp P Q (F n env) w := by
  refine wp_loop_ghost (fun k a w => ∃ env, a = F n env ∧ I k env w) k0 ⟨env, rfl, h0⟩ ?_
  rintro k a w ⟨env, rfl, hI⟩
  refine wp_mono (round k env w hI) ?_
  intro e a' w' hq
  cases e with
  | normal => obtain ⟨k', h1, h2⟩ := hq; exact ⟨k', h1, h2⟩
  | exit id => exact hq
  | goto l => exact hq
  | ret => exact hq
  | panic ch => exact hq
  | outgrown => exact hq
theorem c_ifT {c : Operand} {x y : Code} (hok : okX n c = true) (hc : ev env c = .bool true) (h : x.wp P Q (F n env) w) : (Code.cond c x y).wp P Q (F n env) w := wp_cond_true (by rw [eval_F hok]; exact hc) h
theorem c_ifF {c : Operand} {x y : Code} (hok : okX n c = true) (hc : ev env c = .bool false) (h : y.wp P Q (F n env) w) : (Code.cond c x y).wp P Q (F n env) w := wp_cond_false (by rw [eval_F hok]; exact hc) h
theorem c_ifd {c : Operand} {x y : Code} {p : Prop} [Decidable p] (hok : okX n c = true) (hc : ev env c = .bool (decide p)) (h1 : p → x.wp P Q (F n env) w) (h2 : ¬ p → y.wp P Q (F n env) w) : (Code.cond c x y).wp P Q (F n env) w :=
  c_if hok hc (fun h => h1 (of_decide_eq_true h)) (fun h => h2 (of_decide_eq_false h))
theorem c_retc {fn : Func} {R : Ending → World → Prop} {s t b : Nat} {cs : List Value} (hr : fn.results = #[.cell s t]) (hs : Nat.blt s n = true) (hv : env s = .pointer (some ⟨b, 0, none⟩)) (ha : (P.underlying t).map aggD = some true) (hz : (P.info? t).map (·.size) = some cs.length)
    (hc : ∀ j u, cs[j]? = some u → w.cell? ⟨b, 0 + j, none⟩ = some u) (h : R (.returned (.agg cs.toArray)) w) : bodyPost P fn R .ret (F n env) w := by
  have h2 : s < n := by simpa [Nat.blt_eq] using hs
  have hcell : ∀ j u, cs[j]? = some u → w.cell? ((⟨b, 0, none⟩ : Addr).add j) = some u := fun j u hj => by
    have := hc j u hj
    simp only [Addr.add]
    split
    · simp_all
    · exact this
  have hlv : (loadVar t ⟨b, 0, none⟩).run P w = .ok (.agg cs.toArray) w := by
    unfold loadVar
    simp only [Sem.run_bind, run_isAgg ha, Result.andThen_ok, if_true, run_sizeOf hz, run_loadCells_list (P := P) w ⟨b, 0, none⟩ cs hcell, Sem.run_pure]
  refine bodyPost_ret (v := .agg cs.toArray) ?_ rfl h
  have he : (F n env).tmps[s]?.getD undef = .pointer (some ⟨b, 0, none⟩) := by simp [F, h2, hv]
  simp [results, hr, he, asAddr, hlv]
theorem pack1 {x : Nat} {u : Value} (h : env x = u) : env = upd env x u := (upd_same h).symm
theorem packS {x : Nat} {u : Value} {env' : Nat → Value} (h : env = env') (hx : env x = u) : env = upd env' x u := by subst h; exact (upd_same hx).symm
end
end Go.GL
