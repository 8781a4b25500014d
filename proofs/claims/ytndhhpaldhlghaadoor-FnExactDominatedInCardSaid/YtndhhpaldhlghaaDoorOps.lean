/- The runs of single operations, over any program: what each yields, under what its operands hold. -/
import Derived.Test.YtndhhpaldhlghaaDoorWalk
namespace Go.GL
open Go Go.RowKit

section
variable {P : Program} {ρ : Operand → Value} {w : World} {d : Option Nat} {t ty t' : Nat} {pos : String} {aft : Array Edge} {g : Option (Nat × Bool)} {x y c : Operand}
  {v u : Value} {i j : Int} {k : IntKind}

theorem r_move (hx : ρ x = v) : (execOp ρ ⟨d, .move x, ty, pos, aft, g⟩).run P w = .ok (.value v) w := by simp [execOp, hx]
theorem r_assign (hx : ρ x = v) : (execOp ρ ⟨d, .assign x, ty, pos, aft, g⟩).run P w = .ok (.value v) w := by simp [execOp, hx]
theorem r_pickT (hc : ρ c = .bool true) (hx : ρ x = v) : (execOp ρ ⟨d, .pick c x y, ty, pos, aft, g⟩).run P w = .ok (.value v) w := by simp [execOp, hc, hx, asBool]
theorem r_pickF (hc : ρ c = .bool false) (hy : ρ y = v) : (execOp ρ ⟨d, .pick c x y, ty, pos, aft, g⟩).run P w = .ok (.value v) w := by simp [execOp, hc, hy, asBool]
theorem r_add (hx : ρ x = .int .i64 i) (hy : ρ y = .int .i64 j) (h : -9223372036854775808 ≤ i + j ∧ i + j ≤ 9223372036854775807) : (execOp ρ ⟨d, .binOp .add t x y t', ty, pos, aft, g⟩).run P w = .ok (.value (.int .i64 (i + j))) w := by
  simp [execOp, hx, hy, binOp, eqGuard, Op.intArith, IntWalk.i64_in _ h]
theorem r_sub (hx : ρ x = .int .i64 i) (hy : ρ y = .int .i64 j) (h : -9223372036854775808 ≤ i - j ∧ i - j ≤ 9223372036854775807) : (execOp ρ ⟨d, .binOp .sub t x y t', ty, pos, aft, g⟩).run P w = .ok (.value (.int .i64 (i - j))) w := by
  simp [execOp, hx, hy, binOp, eqGuard, Op.intArith, IntWalk.i64_in _ h]
theorem r_mul (hx : ρ x = .int .i64 i) (hy : ρ y = .int .i64 j) (h : -9223372036854775808 ≤ i * j ∧ i * j ≤ 9223372036854775807) : (execOp ρ ⟨d, .binOp .mul t x y t', ty, pos, aft, g⟩).run P w = .ok (.value (.int .i64 (i * j))) w := by
  simp [execOp, hx, hy, binOp, eqGuard, Op.intArith, IntWalk.i64_in _ h]
theorem r_quo (hx : ρ x = .int .i64 i) (hy : ρ y = .int .i64 j) (h0 : 0 ≤ i) (h1 : 0 < j) (h2 : i ≤ 9223372036854775807) : (execOp ρ ⟨d, .binOp .quo t x y t', ty, pos, aft, g⟩).run P w = .ok (.value (.int .i64 (i / j))) w := by
  have hj : j ≠ 0 := by omega
  have he : i.tdiv j = i / j := Int.tdiv_eq_ediv_of_nonneg h0
  have hle : i / j ≤ i := Int.ediv_le_self j h0
  have hge : 0 ≤ i / j := Int.ediv_nonneg h0 (by omega)
  simp [execOp, hx, hy, binOp, eqGuard, Op.intDiv, hj, he, IntWalk.i64_in (i / j) ⟨by omega, by omega⟩]
theorem r_rem (hx : ρ x = .int .i64 i) (hy : ρ y = .int .i64 j) (h0 : 0 ≤ i) (h1 : 0 < j) : (execOp ρ ⟨d, .binOp .rem t x y t', ty, pos, aft, g⟩).run P w = .ok (.value (.int .i64 (i % j))) w := by
  have hj : j ≠ 0 := by omega
  have he : i.tmod j = i % j := Int.tmod_eq_emod_of_nonneg h0
  simp [execOp, hx, hy, binOp, eqGuard, Op.intDiv, hj, he]
theorem r_lss (hx : ρ x = .int k i) (hy : ρ y = .int k j) : (execOp ρ ⟨d, .binOp .lss t x y t', ty, pos, aft, g⟩).run P w = .ok (.value (.bool (decide (i < j)))) w := by
  simp [execOp, hx, hy, binOp, eqGuard, Op.intCmp]
theorem r_leq (hx : ρ x = .int k i) (hy : ρ y = .int k j) : (execOp ρ ⟨d, .binOp .leq t x y t', ty, pos, aft, g⟩).run P w = .ok (.value (.bool (decide (i ≤ j)))) w := by
  simp [execOp, hx, hy, binOp, eqGuard, Op.intCmp]
theorem r_gtr (hx : ρ x = .int k i) (hy : ρ y = .int k j) : (execOp ρ ⟨d, .binOp .gtr t x y t', ty, pos, aft, g⟩).run P w = .ok (.value (.bool (decide (j < i)))) w := by
  simp [execOp, hx, hy, binOp, eqGuard, Op.intCmp]
theorem r_geq (hx : ρ x = .int k i) (hy : ρ y = .int k j) : (execOp ρ ⟨d, .binOp .geq t x y t', ty, pos, aft, g⟩).run P w = .ok (.value (.bool (decide (j ≤ i)))) w := by
  simp [execOp, hx, hy, binOp, eqGuard, Op.intCmp]
theorem r_eql (hx : ρ x = .int k i) (hy : ρ y = .int k j) : (execOp ρ ⟨d, .binOp .eql t x y t', ty, pos, aft, g⟩).run P w = .ok (.value (.bool (decide (i = j)))) w := by
  have : (i == j) = decide (i = j) := rfl
  simp [execOp, hx, hy, binOp, eqGuard, Op.intCmp, this]
theorem r_neq (hx : ρ x = .int k i) (hy : ρ y = .int k j) : (execOp ρ ⟨d, .binOp .neq t x y t', ty, pos, aft, g⟩).run P w = .ok (.value (.bool (decide (i ≠ j)))) w := by
  have : (i != j) = decide (i ≠ j) := by by_cases h : i = j <;> simp [h]
  simp [execOp, hx, hy, binOp, eqGuard, Op.intCmp, this]
theorem r_eqlB {p q : Bool} (hu : (P.underlying t) = some .bool) (hx : ρ x = .bool p) (hy : ρ y = .bool q) : (execOp ρ ⟨d, .binOp .eql t x y t', ty, pos, aft, g⟩).run P w = .ok (.value (.bool (p == q))) w := by
  simp [execOp, hx, hy, eqGuard, run_eql_bool w t p q hu]
theorem r_neqB {p q : Bool} (hu : (P.underlying t) = some .bool) (hx : ρ x = .bool p) (hy : ρ y = .bool q) : (execOp ρ ⟨d, .binOp .neq t x y t', ty, pos, aft, g⟩).run P w = .ok (.value (.bool (p != q))) w := by
  have h := run_eql_bool w t p q hu
  simp only [binOp] at h
  simp only [execOp, hx, hy, eqGuard, binOp]
  cases he : (Op.equal t (.bool p) (.bool q)).run P w with
  | ok b w' => simp [he] at h; simp [he, h.1, h.2, bne]
  | halt a b => simp [he] at h
theorem r_eqlS {p q : ByteArray} (hx : ρ x = .string p) (hy : ρ y = .string q) : (execOp ρ ⟨d, .binOp .eql t x y t', ty, pos, aft, g⟩).run P w = .ok (.value (.bool (p.toList == q.toList))) w := by
  simp [execOp, hx, hy, binOp, eqGuard, Op.stringOp]
theorem r_neqS {p q : ByteArray} (hx : ρ x = .string p) (hy : ρ y = .string q) : (execOp ρ ⟨d, .binOp .neq t x y t', ty, pos, aft, g⟩).run P w = .ok (.value (.bool (!(p.toList == q.toList)))) w := by
  simp [execOp, hx, hy, binOp, eqGuard, Op.stringOp]
theorem r_addS {p q : ByteArray} (hx : ρ x = .string p) (hy : ρ y = .string q) (h : p.size + q.size ≤ 9223372036854775807) : (execOp ρ ⟨d, .binOp .add t x y t', ty, pos, aft, g⟩).run P w = .ok (.value (.string (p ++ q))) w := by
  have h' : ¬ (((p.size + q.size : Nat) : Int) > IntKind.i64.max) := by
    have : IntKind.i64.max = 9223372036854775807 := by decide
    rw [this]; omega
  simp only [execOp, hx, hy, binOp, eqGuard, Op.stringOp]
  simp only [if_neg h']
  simp
theorem r_not {p : Bool} (hx : ρ x = .bool p) : (execOp ρ ⟨d, .unOp .not t x, ty, pos, aft, g⟩).run P w = .ok (.value (.bool (!p))) w := by
  simp [execOp, hx, Op.unary]
theorem r_neg (hx : ρ x = .int .i64 i) (h : -9223372036854775808 ≤ -i ∧ -i ≤ 9223372036854775807) : (execOp ρ ⟨d, .unOp .neg t x, ty, pos, aft, g⟩).run P w = .ok (.value (.int .i64 (-i))) w := by
  have h2 : (0 : Int) - i = -i := by omega
  simp [execOp, hx, Op.unary, Op.intArith, h2, IntWalk.i64_in _ h]
theorem r_nil {a : Addr} (hx : ρ x = .pointer (some a)) : (execOp ρ ⟨d, .nilCheck x, ty, pos, aft, g⟩).run P w = .ok (.value (.pointer (some a))) w := by
  simp [execOp, hx]
theorem r_extract {vs : Array Value} {n : Nat} (hx : ρ x = .tuple vs) (hn : vs[n]? = some v) : (execOp ρ ⟨d, .extract x n, ty, pos, aft, g⟩).run P w = .ok (.value v) w := by
  simp [execOp, hx, Instr.extract, hn]
theorem r_field1 {fs : Array Field} {fd : Field} {f : Nat} {cs : Array Value} (ht : P.underlying t = some (.struct fs)) (hf : fs[f]? = some fd) (ha : (P.underlying fd.type).map aggD = some false) (hx : ρ x = .agg cs) (hv : cs[fd.offset]? = some v) :
    (execOp ρ ⟨d, .field t x f, ty, pos, aft, g⟩).run P w = .ok (.value v) w := by
  simp [execOp, hx, Instr.field, run_underlying ht, hf, asAgg, part, run_isAgg ha, hv]
theorem r_fieldA {fs : Array Field} {fd : Field} {f n : Nat} {cs : Array Value} (ht : P.underlying t = some (.struct fs)) (hf : fs[f]? = some fd) (ha : (P.underlying fd.type).map aggD = some true) (hs : (P.info? fd.type).map (·.size) = some n) (hx : ρ x = .agg cs) :
    (execOp ρ ⟨d, .field t x f, ty, pos, aft, g⟩).run P w = .ok (.value (.agg (cs.extract fd.offset (fd.offset + n)))) w := by
  simp [execOp, hx, Instr.field, run_underlying ht, hf, asAgg, part, run_isAgg ha, run_sizeOf hs]
theorem r_lenS {p : ByteArray} (ht : P.underlying t = some .string) (hx : ρ x = .string p) :
    (execOp ρ ⟨d, .call { callee := .builtin .len, args := #[x], argTypes := #[t] }, ty, pos, aft, g⟩).run P w = .ok (.value (.int .i64 p.size)) w := by
  simp [execOp, resolve, invoke, builtin, hx, Builtin.len_, goInt, run_underlying ht]
theorem r_max (hx : ρ x = .int .i64 i) (hy : ρ y = .int .i64 j) :
    (execOp ρ ⟨d, .call { callee := .builtin .max, args := #[x, y], argTypes := #[t, t'] }, ty, pos, aft, g⟩).run P w = .ok (.value (.int .i64 (max i j))) w := by
  have h : (if i < j then j else i) = max i j := by rw [Int.max_def]; split <;> split <;> omega
  simp [execOp, resolve, invoke, builtin, hx, hy, Builtin.max_, Builtin.max2, h]
theorem r_min (hx : ρ x = .int .i64 i) (hy : ρ y = .int .i64 j) :
    (execOp ρ ⟨d, .call { callee := .builtin .min, args := #[x, y], argTypes := #[t, t'] }, ty, pos, aft, g⟩).run P w = .ok (.value (.int .i64 (min i j))) w := by
  have h : (if j < i then j else i) = min i j := by rw [Int.min_def]; split <;> split <;> omega
  simp [execOp, resolve, invoke, builtin, hx, hy, Builtin.min_, Builtin.min2, h]
end
end Go.GL
namespace Go.GL
open Go Go.RowKit
section
variable {P : Program} {ρ : Operand → Value} {w : World} {K : Value → World → Prop} {d : Option Nat} {t ty e : Nat} {pos : String} {aft : Array Edge} {g : Option (Nat × Bool)} {x y : Operand}
  {α : Type} {E : Elt α} {G : Pin} {v u : Value}
theorem o_append {base : Nat} {xs ys : List α} (bytes : Nat) (ht : P.underlying t = some (.slice e)) (hi : (P.info? e).map (fun i => (i.size, i.bytes, (i.zero.map (·.cells.size)))) = some (E.size, bytes, some E.size)) (hpos : 0 < E.size)
    (hx : ρ x = v) (hy : ρ y = u) (hP : Pins G w) (hv : Own E e G w base v xs) (hu : Src E G w u ys)
    (hb : (xs.length + ys.length) * bytes ≤ 140737488355328) (hb2 : xs.length + ys.length ≤ 140737488355328) (hbase : base ≤ w.heap.size)
    (h : ∀ v' w', Own E e G w' base v' (xs ++ ys) → Pins G w' → w.grownBy w' v.ownBlock → (v'.ownBlock = v.ownBlock ∨ ∃ k, v'.ownBlock = some k ∧ w.heap.size ≤ k) → K v' w') :
    EO P ρ ⟨d, .call { callee := .builtin .append, args := #[x, y], argTypes := #[t, t] }, ty, pos, aft, g⟩ w K := by
  obtain ⟨v', w', h1, h2, h3, h4, h5⟩ := run_append (d := d) (ty := ty) (pos := pos) (aft := aft) (g := g) bytes ht hi hpos hx hy hP hv hu hb hb2 hbase
  exact EO.run h1 (h v' w' h2 h3 h4 h5)
theorem o_make {n : Int} (zero : α) (bytes : Nat) (z : Value) (ht : P.underlying t = some (.slice e)) (hi : (P.info? e).map (fun i => (i.size, i.bytes, i.zero)) = some (E.size, bytes, some z))
    (hz : ∀ G, E.rep G z.cells.toList zero) (hx : ρ x = .int .i64 n) (hy : ρ y = .int .i64 n) (hP : Pins G w) (h0 : 0 ≤ n) (hb : bytes * n.toNat ≤ 281474976710656) (hm : n ≤ 9223372036854775807)
    (h : ∀ v w', Own E e G w' w.heap.size v (List.replicate n.toNat zero) → Pins G w' → Below w.heap.size w w' → v.ownBlock = some w.heap.size → K v w') :
    EO P ρ ⟨d, .makeSlice t x y, ty, pos, aft, g⟩ w K := by
  obtain ⟨v', w', h1, h2, h3, h4, h5⟩ := run_make (d := d) (ty := ty) (pos := pos) (aft := aft) (g := g) zero ht bytes z hi hz hx hy hP h0 hb hm
  exact EO.run h1 (h v' w' h2 h3 h4 h5)
theorem o_set {base : Nat} {xs : List α} {z : Int} {cs : List Value} (q : α) (hs : (P.info? t).map (·.size) = some E.size)
    (hx : ρ x = eptr v z E.size 0) (hy : ρ y = u) (hc : u.cells.toList = cs) (hq : E.rep G cs q) (hP : Pins G w) (hv : Own E e G w base v xs) (h0 : 0 ≤ z) (h1 : z < xs.length)
    (h : ∀ w', Own E e G w' base v (xs.set z.toNat q) → Pins G w' → w.grownBy w' v.ownBlock → w'.heap.size = w.heap.size → K undef w') :
    EO P ρ ⟨d, .store t x y, ty, pos, aft, g⟩ w K := by
  obtain ⟨w', h2, h3, h4, h5, h6⟩ := run_set (d := d) (ty := ty) (pos := pos) (aft := aft) (g := g) q hs hx hy hc hq hP hv h0 h1
  exact EO.skip h2 (h w' h3 h4 h5 h6)
end
end Go.GL
