/- Texts of forms: the runs of a few more operations (slices of texts, arrays of two), and the plain law that both texts are the same. -/
import Derived.Test.YtndhhpaldhlghaaDoorLaw
import Derived.Test.YtndhhpaldhlghaaDoorRow
import Derived.Lib.Join
namespace Go.GL
open Go Go.RowKit

section
variable {P : Program} {ρ : Operand → Value} {w : World} {d : Option Nat} {t e ty : Nat} {pos : String} {aft : Array Edge} {g : Option (Nat × Bool)} {x y : Operand}
theorem r_cutS {p : ByteArray} {j : Int} (ht : P.underlying t = some .string) (hx : ρ x = .string p) (hy : ρ y = .int .i64 j) (h0 : 0 ≤ j) (h1 : j ≤ p.size) :
    (execOp ρ ⟨d, .slice t x none (some y) none, ty, pos, aft, g⟩).run P w = .ok (.value (.string (p.extract 0 j.toNat))) w := by
  have h := run_slice_string_h (P := P) w t p ht .i64 j h0 h1
  simp [execOp, hx, hy, Instr.sliceAt, run_underlying ht, h]
theorem r_neqS_same {t' : Nat} {p : ByteArray} (hx : ρ x = .string p) (hy : ρ y = .string p) : (execOp ρ ⟨d, .binOp .neq t x y t', ty, pos, aft, g⟩).run P w = .ok (.value (.bool false)) w := by
  rw [r_neqS hx hy]; simp
theorem r_eqlS_same {t' : Nat} {p : ByteArray} (hx : ρ x = .string p) (hy : ρ y = .string p) : (execOp ρ ⟨d, .binOp .eql t x y t', ty, pos, aft, g⟩).run P w = .ok (.value (.bool true)) w := by
  rw [r_eqlS hx hy]; simp
theorem r_neqB_same {t' : Nat} {p : Bool} (ht : P.underlying t = some .bool) (hx : ρ x = .bool p) (hy : ρ y = .bool p) : (execOp ρ ⟨d, .binOp .neq t x y t', ty, pos, aft, g⟩).run P w = .ok (.value (.bool false)) w := by
  rw [r_neqB ht hx hy]; simp
theorem r_eqlB_same {t' : Nat} {p : Bool} (ht : P.underlying t = some .bool) (hx : ρ x = .bool p) (hy : ρ y = .bool p) : (execOp ρ ⟨d, .binOp .eql t x y t', ty, pos, aft, g⟩).run P w = .ok (.value (.bool true)) w := by
  rw [r_eqlB ht hx hy]; simp
/-- The operation that reads one of two slices in an array. -/
def RunsIndex (vs : List Value) (z : Int) (u : Value) : Prop :=
  ∀ {P : Program} {w : World} {d : Option Nat} {t e ty n : Nat} {pos : String} {aft : Array Edge} {g : Option (Nat × Bool)} {x y : Operand} {ρ : Operand → Value}
    (_ : P.underlying t = some (.array n e)) (_ : n = vs.length) (_ : (P.info? e).map (·.size) = some 1) (_ : (P.underlying e).map aggD = some false) (_ : ρ x = .agg vs.toArray) (_ : ρ y = .int .i64 z),
    (execOp ρ ⟨d, .index t x y, ty, pos, aft, g⟩).run P w = .ok (.value u) w
theorem runs_index {vs : List Value} {z : Int} {u : Value} (h0 : 0 ≤ z) (hu : vs[z.toNat]? = some u) : RunsIndex vs z u := by
  intro P w d t e ty n pos aft g x y ρ ht hn hs ha hx hy
  have hlt : z.toNat < vs.length := (List.getElem?_eq_some_iff.1 hu).1
  have h2 : 0 ≤ z ∧ z < (n : Int) := ⟨h0, by omega⟩
  have hp : (part e vs.toArray (z.toNat * 1)).run P w = .ok u w := by
    unfold part
    simp only [Sem.run_bind, run_isAgg ha, Result.andThen_ok]
    simp [hu]
  simp only [execOp, hx, hy, Instr.index, asIntOf, Sem.run_bind, Sem.run_pure, Result.andThen_ok, run_underlying ht, h2, if_true, run_sizeOf hs, and_self]
  rw [hp]; rfl
def pick2 {α : Type} (s : Nat) (xs ys : α) : α := if s = 0 then xs else ys
theorem pick2_0 {α : Type} (xs ys : α) : pick2 0 xs ys = xs := rfl
theorem pick2_1 {α : Type} (xs ys : α) : pick2 1 xs ys = ys := rfl
theorem name_index2 {α : Type} {E : Elt α} {G : Pin} {a b : Value} {xs ys : List α} (ha : RSl E G a xs) (hb : RSl E G b ys) {z : Int} (s : Nat) (h0 : 0 ≤ z) (h1 : z < 2) (hs : z.toNat = s) :
    ∃ u, RSl E G u (pick2 s xs ys) ∧ RunsIndex [a, b] z u := by
  subst hs
  unfold pick2
  by_cases h : z.toNat = 0
  · exact ⟨a, by rw [if_pos h]; exact ha, runs_index h0 (by rw [h]; rfl)⟩
  · exact ⟨b, by rw [if_neg h]; exact hb, runs_index h0 (by rw [show z.toNat = 1 by omega]; rfl)⟩
theorem r_buildA {parts : Array (Nat × Operand)} {n m : Nat} {z : Value} (zs cs : List Value) (ps : List (Nat × Value × List Value)) (ht : P.underlying t = some (.array n e)) (hz : (P.info? t).bind (·.zero) = some z) (hzc : z.cells.toList = zs)
    (he : (P.info? e).map (·.size) = some m) (hpt : (parts.toList.map fun (i, x) => (i, ρ x)) = ps.map fun p => (p.1, p.2.1)) (hc : ∀ p ∈ ps, p.2.1.cells = p.2.2.toArray)
    (hf : fillL (fun i => some (i * m, m)) zs (ps.map fun p => (p.1, p.2.2)) = some cs) :
    (execOp ρ ⟨d, .build t parts, ty, pos, aft, g⟩).run P w = .ok (.value (.agg cs.toArray)) w := by
  obtain ⟨it, hit, hzz⟩ := Option.bind_eq_some_iff.1 hz
  obtain ⟨ie, hie, hm⟩ := Option.map_eq_some_iff.1 he
  subst hm
  have hb : P.built t (parts.map fun (i, x) => (i, ρ x)).toList = some cs.toArray := by
    unfold Program.built
    rw [hit, ht]
    simp only [hzz, hie]
    rw [Array.toList_map, hpt]
    have := fill_parts hc hf
    rw [← hzc] at this
    exact this
  have := Go.run_build (P := P) w t (parts.map fun (i, x) => (i, ρ x)) cs.toArray hb
  simp [execOp, this]
/-- The address of a place in an array that a box holds. -/
theorem r_idxb {b o n m k : Nat} {z : Int} (ht : P.underlying t = some (.array n e)) (hs : (P.info? e).map (·.size) = some m) (hx : ρ x = .pointer (some ⟨b, o, none⟩)) (hy : ρ y = .int .i64 z) (h0 : 0 ≤ z) (h1 : z < n) (hk : o + z.toNat * m = k) :
    (execOp ρ ⟨d, .indexAddr t x y, ty, pos, aft, g⟩).run P w = .ok (.value (.pointer (some ⟨b, k, none⟩))) w := by
  subst hk
  have hadd : (⟨b, o, none⟩ : Addr).add (z.toNat * m) = ⟨b, o + z.toNat * m, none⟩ := by
    simp only [Addr.add]
    split <;> simp_all
  simp [execOp, hx, hy, Instr.indexAt, asIntOf, Instr.sureAddr, run_underlying ht, h0, h1, run_sizeOf hs, hadd]
end

section
variable {P : Program} {ρ : Operand → Value} {w : World} {K : Value → World → Prop} {d : Option Nat} {t ty : Nat} {pos : String} {aft : Array Edge} {g : Option (Nat × Bool)} {x y : Operand} {G : Pin}
/-- One of two texts in a box is written. -/
theorem o_stp2 {b k : Nat} {a0 a1 u : ByteArray} (hs : (P.info? t).map (·.size) = some 1) (hx : ρ x = .pointer (some ⟨b, k, none⟩)) (hy : ρ y = .string u) (hk : k < 2)
    (hP : Pins G w) (hb : Bx G w b [.string a0, .string a1]) (h : ∀ w', Bx G w' b [.string (if k = 0 then u else a0), .string (if k = 0 then a1 else u)] → Pins G w' → w.grownBy w' (some b) → w'.heap.size = w.heap.size → K undef w') : EO P ρ ⟨d, .store t x y, ty, pos, aft, g⟩ w K :=
  o_stp (us := [.string u]) (cs := [.string a0, .string a1]) hs hx hy rfl (fun v hv => by simp at hv; subst hv; rfl) hP hb (by show k + 1 ≤ 2; omega) rfl (fun w' hb' => h w' (by
    have e : ([.string a0, .string a1] : List Value).take k ++ [.string u] ++ ([.string a0, .string a1] : List Value).drop (k + [Value.string u].length) = [.string (if k = 0 then u else a0), .string (if k = 0 then a1 else u)] := by
      match k, hk with
      | 0, _ => rfl
      | 1, _ => rfl
    rw [← e]; exact hb'))
end

/-! ### the texts -/
def joinN (ts : List ByteArray) (l : List Int) : Nat → ByteArray
  | 0 => ByteArray.empty
  | n + 1 => (if 0 < n then joinN ts l n ++ (⟨#[44]⟩ : ByteArray) else joinN ts l n) ++ ts.getD (l.getD n 0).toNat ByteArray.empty
def joinP (ts : List ByteArray) (l : List Int) : ByteArray := joinN ts l l.length
def cutT (s : ByteArray) : ByteArray := if 4001 < s.size then s.extract 0 4001 else s
def nodeT (ts : List ByteArray) (n : Nd) : ByteArray := (⟨#[123]⟩ : ByteArray) ++ joinP ts n.l ++ (⟨#[124]⟩ : ByteArray) ++ joinP ts n.r ++ (⟨#[125]⟩ : ByteArray)
def txts (ns : List Nd) : Nat → List ByteArray
  | 0 => []
  | k + 1 => txts ns k ++ [cutT (nodeT (txts ns k) (ns.getD k default))]
def textOf (ns : List Nd) : ByteArray := (txts ns ns.length).getD (ns.length - 1) ByteArray.empty
def Texts (ts : List ByteArray) : Prop := ∀ i, (ts.getD i ByteArray.empty).size ≤ 4001

theorem txts_length (ns : List Nd) : ∀ k, (txts ns k).length = k
  | 0 => rfl
  | k + 1 => by unfold txts; rw [List.length_append, txts_length ns k]; rfl
theorem cutT_size (s : ByteArray) : (cutT s).size = min 4001 s.size := by
  unfold cutT; split
  · rw [ByteArray.size_extract]; omega
  · omega
theorem getD_app {α : Type} {l : List α} {x d : α} {i : Nat} : (l ++ [x]).getD i d = if i < l.length then l.getD i d else if i = l.length then x else d := by
  simp only [List.getD, List.getElem?_append]
  split
  · rfl
  · split
    · rename_i h; subst h; simp
    · rename_i h1 h2
      have : i - l.length ≠ 0 := by omega
      match hk : i - l.length with
      | 0 => exact absurd hk this
      | n + 1 => simp
theorem Texts.nil : Texts [] := fun i => by simp [List.getD]
theorem Texts.app {ts : List ByteArray} (h : Texts ts) {s : ByteArray} (hs : s.size ≤ 4001) : Texts (ts ++ [s]) := fun i => by
  rw [getD_app]; split
  · exact h i
  · split
    · exact hs
    · exact Nat.zero_le _
theorem txts_ok (ns : List Nd) : ∀ k, Texts (txts ns k)
  | 0 => Texts.nil
  | k + 1 => (txts_ok ns k).app (by rw [cutT_size]; omega)
theorem joinN_size {ts : List ByteArray} (h : Texts ts) (l : List Int) : ∀ n, (joinN ts l n).size ≤ 4002 * n
  | 0 => Nat.zero_le _
  | n + 1 => by
    have ih := joinN_size h l n
    have := h (l.getD n 0).toNat
    unfold joinN
    rw [ByteArray.size_append]
    split
    · rw [ByteArray.size_append]
      have : (⟨#[44]⟩ : ByteArray).size = 1 := rfl
      omega
    · omega
theorem joinP_size {ts : List ByteArray} (h : Texts ts) {l : List Int} (hl : l.length ≤ 24) : (joinP ts l).size ≤ 96048 := by
  have := joinN_size h l l.length
  unfold joinP; omega
theorem txts_get (ns : List Nd) {i : Nat} : ∀ {k : Nat}, i < k → (txts ns k).getD i ByteArray.empty = cutT (nodeT (txts ns i) (ns.getD i default))
  | 0, h => absurd h (Nat.not_lt_zero _)
  | k + 1, h => by
    rw [show txts ns (k + 1) = txts ns k ++ [cutT (nodeT (txts ns k) (ns.getD k default))] from rfl, getD_app, txts_length]
    by_cases hk : i < k
    · rw [if_pos hk]; exact txts_get ns hk
    · have : i = k := by omega
      subst this
      rw [if_neg hk, if_pos rfl]
theorem txts_same (ns : List Nd) {i k : Nat} (h : i < k) : (txts ns k).getD i ByteArray.empty = (txts ns (i + 1)).getD i ByteArray.empty := by
  rw [txts_get ns h, txts_get ns (Nat.lt_succ_self i)]

/-! ### the library's Join -/
def joinW (xs : List ByteArray) : ByteArray := ⟨(Lib.join (xs.map (·.data.toList)) [44]).toArray⟩
theorem joinW_app (xs : List ByteArray) (y : ByteArray) : joinW (xs ++ [y]) = (if 0 < xs.length then joinW xs ++ (⟨#[44]⟩ : ByteArray) else joinW xs) ++ y := by
  match xs with
  | [] =>
    apply ByteArray.ext
    simp [joinW, Lib.join_one, Lib.join_nil, ByteArray.data_append]
  | x :: r =>
    apply ByteArray.ext
    rw [if_pos (by simp)]
    simp [joinW, Lib.join_cons, Lib.joinTail, ByteArray.data_append]
theorem joinN_words (ts : List ByteArray) (l : List Int) : ∀ n, n ≤ l.length → joinN ts l n = joinW ((l.take n).map fun k => ts.getD k.toNat ByteArray.empty)
  | 0, _ => rfl
  | n + 1, h => by
    have ih := joinN_words ts l n (by omega)
    have hl : l.take (n + 1) = l.take n ++ [l.getD n 0] := by
      rw [List.take_add_one, List.getElem?_eq_getElem (by omega : n < l.length)]
      simp [List.getD, List.getElem?_eq_getElem (by omega : n < l.length)]
    rw [hl, List.map_append, List.map_cons, List.map_nil, joinW_app, ← ih]
    have : ((l.take n).map fun k => ts.getD k.toNat ByteArray.empty).length = n := by simp; omega
    rw [this]
    rfl
theorem joinP_words (ts : List ByteArray) (l : List Int) : joinW (l.map fun k => ts.getD k.toNat ByteArray.empty) = joinP ts l := by
  have := joinN_words ts l l.length (Nat.le_refl _)
  rw [List.take_length] at this
  exact this.symm
/-- What a slice of texts lies in. -/
theorem RSl.strs {G : Pin} {w : World} {v : Value} {xs : List ByteArray} (h : RSl eStr G v xs) (hP : Pins G w) (hne : 0 < xs.length) :
    ∃ b o c, v = .slice (some ⟨b, o, none⟩) xs.length c ∧ xs.length ≤ c ∧ b < w.heap.size ∧ ∀ (j : Nat) x, xs[j]? = some x → w.cell? ⟨b, o + j, none⟩ = some (.string x) := by
  obtain ⟨a, c, rfl, hc, _⟩ := h.sl
  obtain ⟨a', b, o, n, c', cs, hv, hk, hr, hg⟩ := h.at_ 0 _ (List.getElem?_eq_getElem hne)
  simp only [Value.slice.injEq] at hv
  obtain ⟨rfl, rfl, rfl⟩ := hv
  have h0 : a' = ⟨b, o, none⟩ := by
    have := hk 0
    simpa [Addr.add] using this
  subst h0
  have hcell : ∀ (j : Nat) x, xs[j]? = some x → w.cell? ⟨b, o + j, none⟩ = some (.string x) := fun j x hx => by
    obtain ⟨a', b', o', n', c', cs', hv, hk', hr', hg'⟩ := h.at_ j x hx
    simp only [Value.slice.injEq, Option.some.injEq] at hv
    obtain ⟨rfl, _, _⟩ := hv
    have e := hk' 0
    have hcs : cs' = [.string x] := hr'
    subst hcs
    have h3 := hP _ _ _ (hg' 0 _ rfl)
    have hsz : eStr.size = 1 := rfl
    rw [hsz, Nat.mul_one, Nat.add_zero] at e
    have e2 : (⟨b, o, none⟩ : Addr).add j = ⟨b, o + j, none⟩ := by
      simp only [Addr.add]
      split
      · rename_i h; subst h; rfl
      · rfl
    rw [e2] at e
    rw [e]; exact h3
  refine ⟨b, o, c, rfl, hc, ?_, hcell⟩
  have h2 := hcell 0 _ (List.getElem?_eq_getElem hne)
  cases hb : w.heap[b]? with
  | none => simp [World.cell?, hb] at h2
  | some B => exact (Array.getElem?_eq_some_iff.1 hb).1

/-! ### good forms -/
theorem GoodP.optsOk {ns : List Nd} (hg : GoodP ns) : OptsOk ns := opts_ok hg.opts
theorem goodOpts_len {l : List Int} {b : Int} (h : goodOpts l b = true) : l.length ≤ 24 := by
  unfold goodOpts at h
  split at h
  · cases h
  · omega
theorem GoodP.lenl {ns : List Nd} (hg : GoodP ns) {i : Nat} (hi : i < ns.length) : (ns.getD i default).l.length ≤ 24 := goodOpts_len (hg.opts i hi).1
theorem GoodP.lenr {ns : List Nd} (hg : GoodP ns) {i : Nat} (hi : i < ns.length) : (ns.getD i default).r.length ≤ 24 := goodOpts_len (hg.opts i hi).2
theorem GoodP.atl {ns : List Nd} (hg : GoodP ns) {n i : Nat} (hi : i < ns.length) (hn : n = i) : ∀ k, k < (ns.getD i default).l.length → 0 ≤ (ns.getD i default).l.getD k 0 ∧ (ns.getD i default).l.getD k 0 < n :=
  fun k hk => by subst hn; exact hg.optsOk.left hi hk
theorem GoodP.atr {ns : List Nd} (hg : GoodP ns) {n i : Nat} (hi : i < ns.length) (hn : n = i) : ∀ k, k < (ns.getD i default).r.length → 0 ≤ (ns.getD i default).r.getD k 0 ∧ (ns.getD i default).r.getD k 0 < n :=
  fun k hk => by subst hn; exact hg.optsOk.right hi hk
theorem txts_no {ns : List Nd} {ts : List ByteArray} {j : Nat} (h : ts = txts ns j) (hn : ¬ (4001 : Int) < ((nodeT ts (ns.getD j default)).size : Int)) : ts ++ [nodeT ts (ns.getD j default)] = txts ns (j + 1) := by
  subst h
  have : cutT (nodeT (txts ns j) (ns.getD j default)) = nodeT (txts ns j) (ns.getD j default) := by unfold cutT; rw [if_neg (by omega)]
  conv => rhs; unfold txts
  rw [this]
theorem txts_cut {ns : List Nd} {ts : List ByteArray} {j : Nat} (h : ts = txts ns j) (hn : (4001 : Int) < ((nodeT ts (ns.getD j default)).size : Int)) : ts ++ [(nodeT ts (ns.getD j default)).extract 0 4001] = txts ns (j + 1) := by
  subst h
  have : cutT (nodeT (txts ns j) (ns.getD j default)) = (nodeT (txts ns j) (ns.getD j default)).extract 0 4001 := by unfold cutT; rw [if_pos (by omega)]
  conv => rhs; unfold txts
  rw [this]
theorem text_done {ns : List Nd} {ts : List ByteArray} {j : Nat} {z : Int} (h : ts = txts ns j) (hj : j = ns.length) (hz : z.toNat = ns.length - 1) : ts.getD z.toNat ByteArray.empty = textOf ns := by
  subst h hj
  rw [hz]; rfl
theorem Texts.of {ns : List Nd} {ts : List ByteArray} {j : Nat} (h : ts = txts ns j) : Texts ts := h ▸ txts_ok ns j
theorem textOf_size (ns : List Nd) : (textOf ns).size ≤ 4001 := txts_ok ns ns.length _

/-- What FormText answers. -/
noncomputable def ftOk (ns : List Nd) : Bool := goodB ns && decide ((textOf ns).size ≤ 4000)
noncomputable def ftS (ns : List Nd) : ByteArray := if ftOk ns = true then textOf ns else ByteArray.empty
theorem ft_bad {ns : List Nd} (h : goodB ns = false) : ftOk ns = false ∧ ftS ns = ByteArray.empty := by
  have : ftOk ns = false := by unfold ftOk; rw [h]; rfl
  exact ⟨this, by unfold ftS; rw [this]; rfl⟩
theorem ft_long {ns : List Nd} (h : (4000 : Int) < ((textOf ns).size : Int)) : ftOk ns = false ∧ ftS ns = ByteArray.empty := by
  have : ftOk ns = false := by unfold ftOk; rw [decide_eq_false (by omega)]; simp
  exact ⟨this, by unfold ftS; rw [this]; rfl⟩
theorem ft_good {ns : List Nd} (hg : goodB ns = true) (h : ¬ (4000 : Int) < ((textOf ns).size : Int)) : ftOk ns = true ∧ ftS ns = textOf ns := by
  have : ftOk ns = true := by unfold ftOk; rw [hg, decide_eq_true (by omega)]; rfl
  exact ⟨this, by unfold ftS; rw [this]; rfl⟩
end Go.GL
