/- Rules for local arrays of bytes and for unsigned numbers; numbers in base 36, and the keys that the pool makes of them. -/
import Derived.Test.YtndhhpaldhlghaaDoorOrd
import Derived.Test.YtndhhpaldhlghaaDoorText
import Derived.Test.YtndhhpaldhlghaaDoorMap
import Derived.Laws.BytesString
namespace Go.GL
open Go Go.RowKit
section
variable {P : Program} {ρ : Operand → Value} {w : World} {d : Option Nat} {t ty t' : Nat} {pos : String} {aft : Array Edge} {g : Option (Nat × Bool)} {x y c : Operand}
  {v u : Value} {i j : Int} {k : IntKind} {G : Pin} {K : Value → World → Prop}
theorem wrapU {n : Int} (h : 0 ≤ n ∧ n ≤ 18446744073709551615) : IntKind.u64.wrap n = n := by
  unfold IntKind.wrap
  simp only [IntKind.bits, IntKind.signed]
  have : n % (2 : Int) ^ 64 = n := Int.emod_eq_of_lt h.1 (by omega)
  simp only [this, Bool.false_and]
  rfl
theorem wrapI {n : Int} (h : -9223372036854775808 ≤ n ∧ n ≤ 9223372036854775807) : IntKind.i64.wrap n = n := by
  simp [IntWalk.i64_in n h]
theorem r_addX (hx : ρ x = .int .u64 i) (hy : ρ y = .int .u64 j) (h : 0 ≤ i + j ∧ i + j ≤ 18446744073709551615) : (execOp ρ ⟨d, .binOp .add t x y t', ty, pos, aft, g⟩).run P w = .ok (.value (.int .u64 (i + j))) w := by
  simp [execOp, hx, hy, binOp, eqGuard, Op.intArith, wrapU h]
theorem r_subX (hx : ρ x = .int .u64 i) (hy : ρ y = .int .u64 j) (h : 0 ≤ i - j ∧ i - j ≤ 18446744073709551615) : (execOp ρ ⟨d, .binOp .sub t x y t', ty, pos, aft, g⟩).run P w = .ok (.value (.int .u64 (i - j))) w := by
  simp [execOp, hx, hy, binOp, eqGuard, Op.intArith, wrapU h]
theorem r_mulX (hx : ρ x = .int .u64 i) (hy : ρ y = .int .u64 j) (h : 0 ≤ i * j ∧ i * j ≤ 18446744073709551615) : (execOp ρ ⟨d, .binOp .mul t x y t', ty, pos, aft, g⟩).run P w = .ok (.value (.int .u64 (i * j))) w := by
  simp [execOp, hx, hy, binOp, eqGuard, Op.intArith, wrapU h]
theorem r_quoX (hx : ρ x = .int .u64 i) (hy : ρ y = .int .u64 j) (h0 : 0 ≤ i) (h1 : 0 < j) (h2 : i ≤ 18446744073709551615) : (execOp ρ ⟨d, .binOp .quo t x y t', ty, pos, aft, g⟩).run P w = .ok (.value (.int .u64 (i / j))) w := by
  have hj : j ≠ 0 := by omega
  have he : i.tdiv j = i / j := Int.tdiv_eq_ediv_of_nonneg h0
  have hle : i / j ≤ i := Int.ediv_le_self j h0
  have hge : 0 ≤ i / j := Int.ediv_nonneg h0 (by omega)
  simp [execOp, hx, hy, binOp, eqGuard, Op.intDiv, hj, he, wrapU (n := i / j) ⟨by omega, by omega⟩]
theorem r_addU (hx : ρ x = .int .u64 i) (hy : ρ y = .int .u64 j) : (execOp ρ ⟨d, .binOp .add t x y t', ty, pos, aft, g⟩).run P w = .ok (.value (.int .u64 (IntKind.u64.wrap (i + j)))) w := by
  simp [execOp, hx, hy, binOp, eqGuard, Op.intArith]
theorem r_mulU (hx : ρ x = .int .u64 i) (hy : ρ y = .int .u64 j) : (execOp ρ ⟨d, .binOp .mul t x y t', ty, pos, aft, g⟩).run P w = .ok (.value (.int .u64 (IntKind.u64.wrap (i * j)))) w := by
  simp [execOp, hx, hy, binOp, eqGuard, Op.intArith]
theorem r_shrU (hx : ρ x = .int .u64 i) (hy : ρ y = .int .u64 j) (h0 : 0 ≤ j) : (execOp ρ ⟨d, .binOp .shr t x y t', ty, pos, aft, g⟩).run P w = .ok (.value (.int .u64 (i.fdiv (2 ^ (min j.toNat 64))))) w := by
  simp [execOp, hx, hy, binOp, eqGuard, Op.shift, show ¬ j < 0 by omega, IntKind.bits]
def andW (k : IntKind) (i j : Int) : Int := k.wrap (BitVec.ofInt k.bits i &&& BitVec.ofInt k.bits j).toNat
theorem r_and (hx : ρ x = .int k i) (hy : ρ y = .int k j) : (execOp ρ ⟨d, .binOp .and t x y t', ty, pos, aft, g⟩).run P w = .ok (.value (.int k (andW k i j))) w := by
  simp [execOp, hx, hy, binOp, eqGuard, Op.intBits, andW]
theorem low8_lt (i : Int) : 0 ≤ andW .u64 i 255 ∧ andW .u64 i 255 ≤ 255 := by
  have h : (BitVec.ofInt 64 i &&& BitVec.ofInt 64 255).toNat ≤ 255 := by
    rw [BitVec.toNat_and]
    exact Nat.le_trans Nat.and_le_right (by decide)
  have e : andW .u64 i 255 = ((BitVec.ofInt 64 i &&& BitVec.ofInt 64 255).toNat : Int) := wrapU ⟨by omega, by show ((BitVec.ofInt 64 i &&& BitVec.ofInt 64 255).toNat : Int) ≤ _; omega⟩
  rw [e]; omega
theorem r_conv {t2 : Nat} {k2 : IntKind} {td : TypeDesc} (hs : P.underlying t = some td) (hd : P.underlying t2 = some (.int k2)) (hx : ρ x = .int k i) (hw : k2.wrap i = j) : (execOp ρ ⟨d, .convert t t2 x, ty, pos, aft, g⟩).run P w = .ok (.value (.int k2 j)) w := by
  subst hw
  simp [execOp, hx, convert, run_underlying hs, run_underlying hd, Conv.intToInt]
/-! ### arrays of bytes in memory -/
def arrV (l : List UInt8) : List Value := l.map fun x => .int .u8 x.toNat
theorem arrV_len (l : List UInt8) : (arrV l).length = l.length := by simp [arrV]
theorem arr_zero (n : Nat) : List.replicate n (Value.int .u8 0) = arrV (List.replicate n 0) := by simp [arrV]
theorem o_stpk {b k : Nat} {l : List UInt8} {x0 : UInt8} (hs : (P.info? t).map (·.size) = some 1) (hx : ρ x = .pointer (some ⟨b, k, none⟩)) (hy : ρ y = .int .u8 (x0.toNat : Int)) (hk : k < l.length)
    (hP : Pins G w) (hb : Bx G w b (arrV l)) (h : ∀ w', Bx G w' b (arrV (l.set k x0)) → Pins G w' → w.grownBy w' (some b) → w'.heap.size = w.heap.size → K undef w') : EO P ρ ⟨d, .store t x y, ty, pos, aft, g⟩ w K :=
  o_stp (us := [.int .u8 (x0.toNat : Int)]) (cs := arrV l) (cs' := arrV (l.set k x0)) hs hx hy rfl (fun v hv => by simp at hv; subst hv; rfl) hP hb (by rw [arrV_len]; exact hk) (by
    unfold arrV
    rw [List.map_set, List.set_eq_take_append_cons_drop, if_pos (by simpa using hk), List.append_assoc]
    rfl) h
theorem name_arr {b n : Nat} {l : List UInt8} {z : Int} (hb : BxP G b (arrV l)) (hn : l.length = n) (hz : 0 ≤ z ∧ z < n) (hm : n ≤ 1000000) : ∃ v, RSl eByte G v (l.drop z.toNat) ∧
    ∀ {P : Program} {w : World} {d : Option Nat} {t ty e : Nat} {pos : String} {aft : Array Edge} {g : Option (Nat × Bool)} {x y : Operand} {ρ : Operand → Value} (_ : P.underlying t = some (.array n e)) (_ : (P.info? e).map (·.size) = some 1) (_ : ρ x = .pointer (some ⟨b, 0, none⟩)) (_ : ρ y = .int .i64 z),
      (execOp ρ ⟨d, .slice t x (some y) none none, ty, pos, aft, g⟩).run P w = .ok (.value v) w := by
  have hne : ¬ n = z.toNat := by omega
  refine ⟨.slice (some ⟨b, z.toNat, none⟩) (n - z.toNat) (n - z.toNat), ⟨⟨_, _, by rw [List.length_drop, hn], by rw [List.length_drop, hn]; exact Nat.le_refl _, by unfold maxLen; omega⟩, fun i q hi => ?_⟩, ?_⟩
  · rw [List.getElem?_drop] at hi
    refine ⟨⟨b, z.toNat, none⟩, b, z.toNat + i, _, _, [.int .u8 (q.toNat : Int)], rfl, fun k => ?_, rfl, fun j u hj => ?_⟩
    · show Addr.add ⟨b, z.toNat, none⟩ (i * 1 + k) = _
      by_cases h0 : i * 1 + k = 0
      · have h1 : i = 0 := by omega
        have h2 : k = 0 := by omega
        subst h1 h2; rfl
      · simp only [Addr.add, if_neg h0, Addr.mk.injEq, true_and, and_true]; omega
    · have hj0 : j = 0 := by
        have := (List.getElem?_eq_some_iff.1 hj).1
        simpa using this
      subst hj0
      simp at hj
      subst hj
      exact hb _ _ (by unfold arrV; rw [Nat.add_zero, List.getElem?_map, hi]; rfl)
  · intro P w d t ty e pos aft g x y ρ ht hs hx hy
    obtain ⟨inf, hinf, hsz⟩ := Option.map_eq_some_iff.1 hs
    have hzn : (z.toNat : Int) ≤ n := by omega
    simp only [execOp, hx, hy, Option.map, Instr.sliceAt, Sem.run_bind, run_underlying ht, Result.andThen_ok, Instr.sureAddr, Sem.run_pure]
    simp [Instr.sliceBounds, run_sliceBound, hz.1, show z ≤ (n : Int) by omega, sizeOf, typeInfo, hinf, hsz, hne, Addr.add]
    omega
/-! ### make([]T, 0, n) -/
theorem o_make0 {α : Type} {E : Elt α} {e bytes : Nat} {z : Value} {n : Int} (ht : P.underlying t = some (.slice e)) (hi : (P.info? e).map (fun i => (i.size, i.bytes, i.zero)) = some (E.size, bytes, some z))
    (hx : ρ x = .int .i64 0) (hy : ρ y = .int .i64 n) (hP : Pins G w) (h0 : 0 ≤ n) (hb : (bytes : Int) * n ≤ 281474976710656) (hm : n ≤ 9223372036854775807)
    (h : ∀ v w', Own E e G w' w.heap.size v ([] : List α) → Pins G w' → Below w.heap.size w w' → v.ownBlock = some w.heap.size → K v w') : EO P ρ ⟨d, .makeSlice t x y, ty, pos, aft, g⟩ w K := by
  obtain ⟨inf, hinf, hsz⟩ := Option.map_eq_some_iff.1 hi
  simp only [Prod.mk.injEq] at hsz
  obtain ⟨hsz, hby, hz1⟩ := hsz
  have hr := _root_.Go.run_make (P := P) w t e inf z ht hinf hz1 .i64 .i64 0 n (Int.le_refl _) h0 (by rw [hby]; exact hb) hm
  have hbl : Below w.heap.size w (w.alloc (.cells (madeCells z.cells (n.toNat * inf.size)) e)) := (Below.refl _ _).alloc (Nat.le_refl _) _
  have hfree : ∀ k, Value.ownBlock (.slice (some ⟨w.heap.size, 0, none⟩) 0 n.toNat) = some k → ∀ o u, ¬ G k o u := by
    intro k hk o u hG
    simp [Value.ownBlock] at hk
    have := block_lt (hP _ _ _ hG); omega
  refine EO.run (v := .slice (some ⟨w.heap.size, 0, none⟩) 0 n.toNat) ?_ (h _ _ ⟨⟨[], ⟨by simp, Or.inr ⟨w.heap.size, n.toNat, madeCells z.cells (n.toNat * inf.size), rfl, Nat.le_refl _, heap_alloc_new w _, Nat.zero_le _, by unfold maxLen; omega, by rw [size_madeCells, hsz], by simp⟩⟩, fun i q hq => by simp at hq⟩, hfree⟩ (hP.below hbl) hbl rfl)
  simp only [execOp, hx, hy, Sem.run_bind, hr, Result.andThen_ok]
  rfl
/-! ### bytes as a string -/
def b2s (l : List UInt8) : ByteArray := ⟨l.toArray⟩
theorem b2s_inj {a b : List UInt8} (h : b2s a = b2s b) : a = b := by
  have := congrArg (fun x => x.data.toList) h
  simpa [b2s] using this
theorem fold_push : ∀ (l : List UInt8) (s : ByteArray), (l.map fun x => (x.toNat : Int)).foldl (fun r n => r.push (UInt8.ofNat n.toNat)) s = ⟨(s.data.toList ++ l).toArray⟩
  | [], s => by cases s; simp
  | x :: l, s => by
    rw [List.map_cons, List.foldl_cons, fold_push l]
    simp [ByteArray.push]
theorem r_b2s {e : Nat} {xs : List UInt8} (ht : P.underlying t = some (.slice e)) (he : P.underlying e = some (.int .u8)) (hs : P.underlying t' = some .string) (hx : ρ x = v) (hv : RSl eByte G v xs) (hP : Pins G w) :
    (execOp ρ ⟨d, .convert t t' x, ty, pos, aft, g⟩).run P w = .ok (.value (.string (b2s xs))) w := by
  obtain ⟨a, cp, rfl, _, _⟩ := hv.sl
  have key : (Conv.bytesToString (.slice a xs.length cp)).run P w = .ok (.string (b2s xs)) w := by
    cases a with
    | none =>
      have h0 : xs = [] := by
        cases xs with
        | nil => rfl
        | cons q r =>
          obtain ⟨a', _, _, _, _, _, h1, _⟩ := hv.at_ 0 q rfl
          cases h1
      subst h0; rfl
    | some a =>
      have hcell : ∀ j q, (xs.map fun x => Value.int .u8 (x.toNat : Int))[j]? = some q → w.cell? (a.add j) = some q := fun j q hj => by
        rw [List.getElem?_map] at hj
        obtain ⟨y, hy, rfl⟩ := Option.map_eq_some_iff.1 hj
        obtain ⟨a', b, o, n, c', cs, h1, h2, h3, h4⟩ := hv.at_ j y hy
        simp only [Value.slice.injEq, Option.some.injEq] at h1
        obtain ⟨rfl, _, _⟩ := h1
        have h5 := h2 0
        simp only [eByte, Nat.mul_one, Nat.add_zero] at h5 h3
        rw [h5]
        exact hP _ _ _ (by have := h4 0 _ (by rw [h3]; rfl); simpa using this)
      have hl := run_loadCells_list (P := P) w a (xs.map fun x => Value.int .u8 (x.toNat : Int)) hcell
      rw [List.length_map] at hl
      have e0 : (xs.map fun x => Value.int .u8 (x.toNat : Int)) = (xs.map fun x => (x.toNat : Int)).map (Value.int .u8) := by rw [List.map_map]; rfl
      rw [e0] at hl
      rw [run_bytesToString w a xs.length cp _ hl, fold_push]
      simp [b2s]
  simp only [execOp, hx, convert, Sem.run_bind, run_underlying ht, run_underlying hs, Result.andThen_ok, run_underlying he, key]
  rfl
/-! ### digits -/
def digC (n : Nat) : UInt8 := if n < 10 then UInt8.ofNat (48 + n) else UInt8.ofNat (87 + n)
def digs36 : ByteArray := ⟨#[48, 49, 50, 51, 52, 53, 54, 55, 56, 57, 97, 98, 99, 100, 101, 102, 103, 104, 105, 106, 107, 108, 109, 110, 111, 112, 113, 114, 115, 116, 117, 118, 119, 120, 121, 122]⟩
theorem digs_at : ∀ n : Fin 36, digs36[n.val]? = some (digC n.val) := by decide
theorem r_digit (ht : P.underlying t = some .string) (hx : ρ x = .string digs36) (hy : ρ y = .int k i) (h : 0 ≤ i ∧ i < 36) : (execOp ρ ⟨d, .index t x y, ty, pos, aft, g⟩).run P w = .ok (.value (.int .u8 ((digC i.toNat).toNat : Int))) w := by
  have e := digs_at ⟨i.toNat, by omega⟩
  simp only at e
  simp [execOp, hx, hy, Instr.index, asIntOf, run_underlying ht, h.1, e]
end
theorem digC_inj : ∀ a b : Fin 36, digC a.val = digC b.val → a = b := by decide
theorem digC_sep : ∀ a : Fin 36, digC a.val ≠ 44 ∧ digC a.val ≠ 124 := by decide
def dig36 (n : Nat) : List UInt8 := if _h : n < 36 then [digC n] else dig36 (n / 36) ++ [digC (n % 36)]
termination_by n
decreasing_by omega
theorem dig_lo {n : Nat} (h : n < 36) : dig36 n = [digC n] := by rw [dig36, dif_pos h]
theorem dig_hi {n : Nat} (h : ¬ n < 36) : dig36 n = dig36 (n / 36) ++ [digC (n % 36)] := by rw [dig36, dif_neg h]
theorem dig_pos (n : Nat) : 0 < (dig36 n).length := by
  by_cases h : n < 36
  · rw [dig_lo h]; simp
  · rw [dig_hi h]; simp
theorem dig_len : ∀ (k n : Nat), n < 36 ^ (k + 1) → (dig36 n).length ≤ k + 1
  | 0, n, h => by rw [dig_lo (by simpa using h)]; simp
  | k + 1, n, h => by
    by_cases hn : n < 36
    · rw [dig_lo hn]; simp
    · rw [dig_hi hn]
      have := dig_len k (n / 36) (by rw [Nat.pow_succ] at h; omega)
      simp; omega
theorem dig13 {n : Nat} (h : n < 9223372036854775808) : (dig36 n).length ≤ 13 := by
  have h36 : (36 : Nat) ^ 13 = 170581728179578208256 := by decide
  exact dig_len 12 n (by omega)
theorem dig_sep (n : Nat) : ∀ x ∈ dig36 n, x ≠ 44 ∧ x ≠ 124 := by
  induction n using Nat.strongRecOn with
  | _ n ih =>
    intro x hx
    by_cases h : n < 36
    · rw [dig_lo h] at hx; simp at hx; subst hx; exact digC_sep ⟨n, h⟩
    · rw [dig_hi h] at hx
      rcases List.mem_append.1 hx with hx | hx
      · exact ih _ (by omega) x hx
      · simp at hx; subst hx; exact digC_sep ⟨n % 36, by omega⟩
theorem dig_inj : ∀ (a b : Nat), dig36 a = dig36 b → a = b := by
  intro a
  induction a using Nat.strongRecOn with
  | _ a ih =>
    intro b h
    by_cases ha : a < 36 <;> by_cases hb : b < 36
    · rw [dig_lo ha, dig_lo hb] at h
      have := digC_inj ⟨a, ha⟩ ⟨b, hb⟩ (by simpa using h)
      simpa using this
    · rw [dig_lo ha, dig_hi hb] at h
      have h1 := congrArg List.length h
      have := dig_pos (b / 36)
      rw [List.length_append] at h1
      simp only [List.length_cons, List.length_nil] at h1; omega
    · rw [dig_hi ha, dig_lo hb] at h
      have h1 := congrArg List.length h
      have := dig_pos (a / 36)
      rw [List.length_append] at h1
      simp only [List.length_cons, List.length_nil] at h1; omega
    · rw [dig_hi ha, dig_hi hb] at h
      obtain ⟨h1, h2⟩ := List.append_inj' h rfl
      have e1 := ih (a / 36) (by omega) _ h1
      have e2 := digC_inj ⟨a % 36, by omega⟩ ⟨b % 36, by omega⟩ (by simpa using h2)
      simp at e2; omega
/-- One digit more. -/
theorem dig_step {u0 : Nat} {uz iz : Int} {L : List UInt8} (hd : dig36 u0 = dig36 uz.toNat ++ L.drop iz.toNat) (hL : L.length = 65) (hu : 36 ≤ uz) (hi : 1 ≤ iz ∧ iz ≤ 65) :
    dig36 u0 = dig36 (uz / 36).toNat ++ (L.set (iz - 1).toNat (digC (uz - (uz / 36 * 36)).toNat)).drop (iz - 1).toNat := by
  have e1 : (uz / 36).toNat = uz.toNat / 36 := by omega
  have e2 : (uz - (uz / 36 * 36)).toNat = uz.toNat % 36 := by omega
  have e3 : iz.toNat = (iz - 1).toNat + 1 := by omega
  rw [hd, dig_hi (by omega), e1, e2, e3, List.append_assoc]
  congr 1
  rw [List.drop_set, if_neg (by omega), Nat.sub_self, List.drop_eq_getElem_cons (by omega : (iz - 1).toNat < L.length)]
  rfl
theorem dig_last {u0 : Nat} {uz iz : Int} {L : List UInt8} (hd : dig36 u0 = dig36 uz.toNat ++ L.drop iz.toNat) (hL : L.length = 65) (hu : ¬ 36 ≤ uz) (hi : 1 ≤ iz ∧ iz ≤ 65) :
    (L.set (iz - 1).toNat (digC uz.toNat)).drop (iz - 1).toNat = dig36 u0 := by
  have e3 : iz.toNat = (iz - 1).toNat + 1 := by omega
  rw [hd, dig_lo (by omega), e3]
  rw [List.drop_set, if_neg (by omega), Nat.sub_self, List.drop_eq_getElem_cons (by omega : (iz - 1).toNat < L.length)]
  rfl
theorem dig_place {u0 : Nat} {uz iz : Int} {L : List UInt8} (hd : dig36 u0 = dig36 uz.toNat ++ L.drop iz.toNat) (hL : L.length = 65) (h0 : u0 < 9223372036854775808) : 53 ≤ iz := by
  have h1 := congrArg List.length hd
  have h2 := dig_pos uz.toNat
  have h3 := dig_len 12 u0 (by have : (36 : Nat) ^ 13 = 170581728179578208256 := by decide
                               omega)
  rw [List.length_append, List.length_drop] at h1
  omega
theorem not_pow36 : decide (andW .i64 36 (36 - 1) = (0 : Int)) = false := by decide
/-! ### keys -/
def keyL (l : List Int) : List UInt8 := l.flatMap fun z => dig36 z.toNat ++ [44]
def keyN (l r : List Int) : List UInt8 := keyL l ++ [124] ++ keyL r
theorem key_next {l : List Int} {j : Nat} (h : j < l.length) : keyL (l.take (j + 1)) = keyL (l.take j) ++ dig36 (l.getD j 0).toNat ++ [44] := by
  rw [take_snoc l 0 h]; simp [keyL]
theorem cut_at {s : UInt8} : ∀ {a b x y : List UInt8}, (∀ z ∈ a, z ≠ s) → (∀ z ∈ b, z ≠ s) → a ++ s :: x = b ++ s :: y → a = b ∧ x = y
  | [], [], _, _, _, _, h => by simpa using h
  | [], q :: b, _, _, _, hb, h => by simp at h; exact absurd h.1.symm (hb q List.mem_cons_self)
  | p :: a, [], _, _, ha, _, h => by simp at h; exact absurd h.1 (ha p List.mem_cons_self)
  | p :: a, q :: b, x, y, ha, hb, h => by
    simp only [List.cons_append, List.cons.injEq] at h
    obtain ⟨h1, h2⟩ := cut_at (a := a) (b := b) (fun z hz => ha z (List.mem_cons_of_mem _ hz)) (fun z hz => hb z (List.mem_cons_of_mem _ hz)) h.2
    exact ⟨by rw [h.1, h1], h2⟩
theorem keyL_cons (z : Int) (l : List Int) (x : List UInt8) : keyL (z :: l) ++ x = dig36 z.toNat ++ 44 :: (keyL l ++ x) := by simp [keyL]
theorem keyL_sep (l : List Int) : ∀ x ∈ keyL l, x ≠ 124 := fun x hx => by
  obtain ⟨z, _, hz⟩ := List.mem_flatMap.1 hx
  rcases List.mem_append.1 hz with hz | hz
  · exact (dig_sep _ x hz).2
  · simp at hz; subst hz; decide
theorem keyL_inj : ∀ {a b : List Int}, (∀ z ∈ a, 0 ≤ z) → (∀ z ∈ b, 0 ≤ z) → keyL a = keyL b → a = b
  | [], [], _, _, _ => rfl
  | [], z :: b, _, _, h => by
    have := congrArg List.length h
    simp [keyL] at this
  | z :: a, [], _, _, h => by
    have := congrArg List.length h
    simp [keyL] at this
  | z :: a, y :: b, ha, hb, h => by
    have e1 := keyL_cons z a []
    have e2 := keyL_cons y b []
    rw [List.append_nil, List.append_nil] at e1 e2
    rw [e1, e2] at h
    obtain ⟨h1, h2⟩ := cut_at (fun q hq => (dig_sep _ q hq).1) (fun q hq => (dig_sep _ q hq).1) h
    have := dig_inj _ _ h1
    have z0 := ha z List.mem_cons_self; have y0 := hb y List.mem_cons_self
    rw [keyL_inj (fun q hq => ha q (List.mem_cons_of_mem _ hq)) (fun q hq => hb q (List.mem_cons_of_mem _ hq)) h2, show z = y by omega]
theorem keyN_inj {a b c e : List Int} (ha : ∀ z ∈ a, 0 ≤ z) (hb : ∀ z ∈ b, 0 ≤ z) (hc : ∀ z ∈ c, 0 ≤ z) (he : ∀ z ∈ e, 0 ≤ z) (h : keyN a b = keyN c e) : a = c ∧ b = e := by
  unfold keyN at h
  rw [List.append_assoc, List.append_assoc] at h
  obtain ⟨h1, h2⟩ := cut_at (keyL_sep a) (keyL_sep c) h
  exact ⟨keyL_inj ha hc h1, keyL_inj hb he h2⟩
theorem key_len {l : List Int} (h : ∀ z ∈ l, 0 ≤ z ∧ z < 9223372036854775808) : (keyL l).length ≤ 14 * l.length := by
  induction l with
  | nil => simp [keyL]
  | cons z l ih =>
    have e := keyL_cons z l []
    rw [List.append_nil] at e
    have h1 := h z List.mem_cons_self
    have := dig_len 12 z.toNat (by have : (36 : Nat) ^ 13 = 170581728179578208256 := by decide
                                   omega)
    have := ih fun y hy => h y (List.mem_cons_of_mem _ hy)
    rw [e]; simp; omega
/-! ### what a call that turns one block hands back -/
theorem ap_turn {w : World} {x y z : Option Nat} (h : Lo w (inO y) x) (ha : Apart z y) (hl : ∀ k, z = some k → k < w.heap.size) : Apart z x := fun k hz hx => by
  rcases h k hx with h1 | h1
  · have := hl k hz; omega
  · exact ha k hz h1
theorem lo_turn {w0 w : World} {S : Nat → Prop} {x y : Option Nat} (h : Lo w (inO y) x) (hy : Lo w0 S y) (hs : w0.heap.size ≤ w.heap.size) : Lo w0 S x := fun k hk => by
  rcases h k hk with h1 | h1
  · exact Or.inl (by omega)
  · exact hy k h1
end Go.GL
