/- More rules: own rows whose elements are read, slices of slices, rows that were there ahead of the call. -/
import Derived.Test.YtndhhpaldhlghaaDoorMore
namespace Go.GL
open Go Go.RowKit

/-! ### slices of slices -/
theorem add_add (a : Addr) (m n : Nat) : (a.add m).add n = a.add (m + n) := by
  unfold Addr.add
  split <;> split <;> split <;> first | omega | (simp_all; done) | (subst_vars; simp_all <;> omega) | (simp <;> omega)
theorem sliced_reads {α : Type} {E : Elt α} {G : Pin} {a : Option Addr} {n c : Nat} {xs : List α} (hv : RSl E G (.slice a n c) xs) (l h : Nat) (hl : l ≤ h) (hh : h ≤ xs.length) :
    RSl E G (sliced a l h c E.size) ((xs.take h).drop l) := by
  obtain ⟨a', c', he, h1, h2⟩ := hv.sl
  simp only [Value.slice.injEq] at he
  obtain ⟨rfl, rfl, rfl⟩ := he
  have hlen : ((xs.take h).drop l).length = h - l := by simp [Nat.min_eq_left hh]
  refine ⟨⟨_, c - l, by rw [hlen]; rfl, by omega, by omega⟩, fun i x hx => ?_⟩
  have hi : i < h - l := by
    rw [← hlen]; exact (List.getElem?_eq_some_iff.1 hx).1
  rw [List.getElem?_drop, List.getElem?_take, if_pos (by omega)] at hx
  obtain ⟨a1, b, o, n1, c1, cs, hv1, hk, hr, hg⟩ := hv.at_ (l + i) x hx
  simp only [Value.slice.injEq] at hv1
  obtain ⟨rfl, _, _⟩ := hv1
  refine ⟨a1.add (l * E.size), b, o, h - l, c - l, cs, ?_, fun k => ?_, hr, hg⟩
  · unfold sliced; rw [if_neg (by omega)]; rfl
  · rw [← hk k, add_add, Nat.add_mul, Nat.add_assoc]

section
variable {α : Type} {E : Elt α} {G : Pin} {v : Value} {xs : List α}
/-- The operation of a slice of a slice, by what it answers. -/
def RunsSlice (v u : Value) (size : Nat) (lo hi : Option Int) : Prop :=
  ∀ {P : Program} {w : World} {d : Option Nat} {t e ty : Nat} {pos : String} {aft : Array Edge} {g : Option (Nat × Bool)} {x : Operand} {l h : Option Operand} {ρ : Operand → Value}
    (_ : P.underlying t = some (.slice e)) (_ : (P.info? e).map (·.size) = some size) (_ : ρ x = v) (_ : l.map ρ = lo.map (Value.int .i64)) (_ : h.map ρ = hi.map (Value.int .i64)),
    (execOp ρ ⟨d, .slice t x l h none, ty, pos, aft, g⟩).run P w = .ok (.value u) w
theorem elem_of {P : Program} {t e : Nat} (ht : P.underlying t = some (.slice e)) : P.elem t = e := by unfold Program.elem; rw [ht]
theorem name_slice (hv : RSl E G v xs) {lo hi : Option Int} (l h : Nat) (hlo : lo = none ∧ l = 0 ∨ ∃ z, lo = some z ∧ 0 ≤ z ∧ z.toNat = l) (hhi : hi = none ∧ h = xs.length ∨ ∃ z, hi = some z ∧ 0 ≤ z ∧ z.toNat = h) (hl : l ≤ h) (hh : h ≤ xs.length) :
    ∃ u, RSl E G u ((xs.take h).drop l) ∧ RunsSlice v u E.size lo hi := by
  obtain ⟨a, c, rfl, h1, h2⟩ := hv.sl
  refine ⟨_, sliced_reads hv l h hl hh, ?_⟩
  intro P w d t e ty pos aft g x lx hx ρ ht hs hρ hlx hhx
  have he := elem_of ht
  have ht' : P.underlying t = some (.slice (P.elem t)) := by rw [he]; exact ht
  have hsz : ∀ w : World, (sizeOf (P.elem t)).run P w = .ok E.size w := fun w => by rw [he]; exact run_sizeOf hs w
  have key : (Instr.slice t (.slice a xs.length c) (lo.map (Value.int .i64)) (hi.map (Value.int .i64)) none).run P w = .ok (sliced a l h c E.size) w := by
    rcases hlo with ⟨rfl, rfl⟩ | ⟨z, rfl, hz0, rfl⟩ <;> rcases hhi with ⟨rfl, rfl⟩ | ⟨y, rfl, hy0, rfl⟩
    · exact (run_slice_all w t a xs.length c ht').trans (by rw [hsz]; rfl)
    · exact (run_slice_h w t a xs.length c ht' .i64 y hy0 (by omega)).trans (by rw [hsz]; rfl)
    · exact (run_slice_l w t a xs.length c ht' .i64 z hz0 (by omega)).trans (by rw [hsz]; rfl)
    · exact (run_slice_lh w t a xs.length c ht' .i64 .i64 z y hz0 (by omega) (by omega)).trans (by rw [hsz]; rfl)
  simp [execOp, hρ, hlx, hhx, run_sliceAt_slice w t _ _ _ _ ht', key]
end

/-! ### rows that were there ahead of the call, which only reads them -/
theorem Pins.ext0 {Gr G G' : Pin} {w w' : World} (h : Pins Gr w) (hx : Ext noS G w G' w') : Pins Gr w' := h.below hx.below

/-! ### elements of own rows -/
section
variable {α : Type} {E : Elt α} {e : Nat} {G : Pin} {w : World} {base : Nat} {v : Value} {xs : List α} {z : Int}
/-- Where an element lies; what it holds is promised by G, its cells by Gr. -/
def At (E : Elt α) (Gr G : Pin) (v : Value) (xs : List α) (z : Int) : Prop :=
  ∃ b o cs x, xs[z.toNat]? = some x ∧ E.rep G cs x ∧ (∀ k, eptr v z E.size k = .pointer (some ⟨b, o + k, none⟩)) ∧ (∀ j u, cs[j]? = some u → Gr b (o + j) u)
theorem RSl.at (h : RSl E G v xs) (h0 : 0 ≤ z) (h1 : z < xs.length) : At E G G v xs z := h.cells h0 h1
theorem Own.at (h : Own E e G w base v xs) (h0 : 0 ≤ z) (h1 : z < xs.length) : At E (Gadd G w v) G v xs z := by
  obtain ⟨cells, ⟨hl, hown⟩, hr⟩ := h.ex
  have hz : z.toNat < xs.length := by omega
  rcases hown with ⟨rfl, h0⟩ | ⟨g, cap, cur, rfl, _, hg, hnc, hcm, hcs, htake⟩
  · omega
  · refine ⟨g, z.toNat * E.size, (cells.drop (z.toNat * E.size)).take E.size, _, List.getElem?_eq_getElem hz, hr _ _ (List.getElem?_eq_getElem hz), fun k => ?_, fun j u hu => Or.inr ⟨rfl, ?_⟩⟩
    · simp only [eptr, Addr.add]; split <;> simp_all
    · rw [List.getElem?_take] at hu
      split at hu
      · rw [List.getElem?_drop] at hu
        rw [cell_of_row w g _ cur e (0, 0) hg]
        rw [← htake, List.getElem?_take] at hu
        split at hu
        · simpa using hu
        · cases hu
      · cases hu
end
section
variable {Gr G : Pin} {v : Value} {z : Int}
theorem nm_node {xs : List Nd} {j : Nat} (hv : At eNode Gr G v xs z) (hj : z.toNat = j) :
    ∃ l r, RSl eInt G l (xs.getD j default).l ∧ RSl eInt G r (xs.getD j default).r ∧
      ∀ {P : Program} {w : World} {d : Option Nat} {t ty : Nat} {pos : String} {aft : Array Edge} {g : Option (Nat × Bool)} {x : Operand} {ρ : Operand → Value} (_ : (P.underlying t).map aggD = some true) (_ : (P.info? t).map (·.size) = some 2)
        (_ : ρ x = eptr v z 2 0) (_ : Pins Gr w), (execOp ρ ⟨d, .load t x, ty, pos, aft, g⟩).run P w = .ok (.value (.agg [l, r].toArray)) w := by
  obtain ⟨b, o, cs, e, he, hr, hp, hc⟩ := hv
  rw [hj] at he
  obtain ⟨l, r, hcs, hl, hrr⟩ := hr
  have hx : xs.getD j default = e := by rw [List.getD, he]; rfl
  refine ⟨l, r, by rw [hx]; exact hl, by rw [hx]; exact hrr, ?_⟩
  intro P w d t ty pos aft g x ρ ha hs hρ hP
  have hpp := hp 0
  simp only [eNode] at hpp
  refine r_ldpA (cs := [l, r]) (b := b) (o := o) ha hs (hρ.trans hpp) fun i u hi => ?_
  exact hP _ _ _ (hc i u (by rw [hcs]; exact hi))
theorem nm_nl {xs : List Nd} {j : Nat} (hv : At eNode Gr G v xs z) (hj : z.toNat = j) :
    ∃ l, RSl eInt G l (xs.getD j default).l ∧
      ∀ {P : Program} {w : World} {d : Option Nat} {t ty : Nat} {pos : String} {aft : Array Edge} {g : Option (Nat × Bool)} {x : Operand} {ρ : Operand → Value} (_ : (P.underlying t).map aggD = some false)
        (_ : ρ x = eptr v z 2 0) (_ : Pins Gr w), (execOp ρ ⟨d, .load t x, ty, pos, aft, g⟩).run P w = .ok (.value l) w := by
  obtain ⟨b, o, cs, e, he, hr, hp, hc⟩ := hv
  rw [hj] at he
  obtain ⟨l, r, hcs, hl, hrr⟩ := hr
  have hx : xs.getD j default = e := by rw [List.getD, he]; rfl
  refine ⟨l, by rw [hx]; exact hl, ?_⟩
  intro P w d t ty pos aft g x ρ ha hρ hP
  have hpp := hp 0
  simp only [eNode] at hpp
  exact r_ldp1 (b := b) (o := o) ha (hρ.trans hpp) (hP _ _ _ (hc 0 l (by rw [hcs]; rfl)))
theorem nm_nr {xs : List Nd} {j : Nat} (hv : At eNode Gr G v xs z) (hj : z.toNat = j) :
    ∃ r, RSl eInt G r (xs.getD j default).r ∧
      ∀ {P : Program} {w : World} {d : Option Nat} {t ty : Nat} {pos : String} {aft : Array Edge} {g : Option (Nat × Bool)} {x : Operand} {ρ : Operand → Value} (_ : (P.underlying t).map aggD = some false)
        (_ : ρ x = eptr v z 2 1) (_ : Pins Gr w), (execOp ρ ⟨d, .load t x, ty, pos, aft, g⟩).run P w = .ok (.value r) w := by
  obtain ⟨b, o, cs, e, he, hr, hp, hc⟩ := hv
  rw [hj] at he
  obtain ⟨l, r, hcs, hl, hrr⟩ := hr
  have hx : xs.getD j default = e := by rw [List.getD, he]; rfl
  refine ⟨r, by rw [hx]; exact hrr, ?_⟩
  intro P w d t ty pos aft g x ρ ha hρ hP
  have hpp := hp 1
  simp only [eNode] at hpp
  exact r_ldp1 (b := b) (o := o + 1) ha (hρ.trans hpp) (hP _ _ _ (hc 1 r (by rw [hcs]; rfl)))
theorem nm_sl {β : Type} {F : Elt β} {xs : List (List β)} {j : Nat} (hv : At (eSl F) Gr G v xs z) (hj : z.toNat = j) :
    ∃ u, RSl F G u (xs.getD j []) ∧
      ∀ {P : Program} {w : World} {d : Option Nat} {t ty : Nat} {pos : String} {aft : Array Edge} {g : Option (Nat × Bool)} {x : Operand} {ρ : Operand → Value} (_ : (P.underlying t).map aggD = some false)
        (_ : ρ x = eptr v z 1 0) (_ : Pins Gr w), (execOp ρ ⟨d, .load t x, ty, pos, aft, g⟩).run P w = .ok (.value u) w := by
  obtain ⟨b, o, cs, e, he, hr, hp, hc⟩ := hv
  rw [hj] at he
  obtain ⟨u, hcs, hu⟩ := hr
  have hx : xs.getD j [] = e := by rw [List.getD, he]; rfl
  refine ⟨u, by rw [hx]; exact hu, ?_⟩
  intro P w d t ty pos aft g x ρ ha hρ hP
  have hpp := hp 0
  simp only [eSl] at hpp
  exact r_ldp1 (b := b) (o := o) ha (hρ.trans hpp) (hP _ _ _ (hc 0 u (by rw [hcs]; rfl)))
theorem nm_form {β : Type} {F : Elt β} {xs : List (List β)} {j : Nat} (hv : At (eSl F) Gr G v xs z) (hj : z.toNat = j) :
    ∃ u, RSl F G u (xs.getD j []) ∧
      ∀ {P : Program} {w : World} {d : Option Nat} {t ty : Nat} {pos : String} {aft : Array Edge} {g : Option (Nat × Bool)} {x : Operand} {ρ : Operand → Value} (_ : (P.underlying t).map aggD = some true) (_ : (P.info? t).map (·.size) = some 1)
        (_ : ρ x = eptr v z 1 0) (_ : Pins Gr w), (execOp ρ ⟨d, .load t x, ty, pos, aft, g⟩).run P w = .ok (.value (.agg [u].toArray)) w := by
  obtain ⟨b, o, cs, e, he, hr, hp, hc⟩ := hv
  rw [hj] at he
  obtain ⟨u, hcs, hu⟩ := hr
  have hx : xs.getD j [] = e := by rw [List.getD, he]; rfl
  refine ⟨u, by rw [hx]; exact hu, ?_⟩
  intro P w d t ty pos aft g x ρ ha hs hρ hP
  have hpp := hp 0
  simp only [eSl] at hpp
  refine r_ldpA (cs := [u]) (b := b) (o := o) ha hs (hρ.trans hpp) fun i q hi => ?_
  exact hP _ _ _ (hc i q (by rw [hcs]; exact hi))
end

/-! ### rows and boxes that were there ahead of the call, which writes them -/
theorem Own.nil {α : Type} (E : Elt α) (e : Nat) (G : Pin) (w : World) (base : Nat) : Own E e G w base (.slice none 0 0) ([] : List α) :=
  ⟨⟨[], ⟨by simp, Or.inl ⟨rfl, rfl⟩⟩, fun i x hx => by simp at hx⟩, fun k hk => by cases hk⟩
/-- A block that is new, or may turn. -/
def Lo (w0 : World) (S : Nat → Prop) (x : Option Nat) : Prop := ∀ k, x = some k → w0.heap.size ≤ k ∨ S k
theorem lo_none (w0 : World) (S : Nat → Prop) : Lo w0 S none := fun k hk => by cases hk
theorem lo_app {w0 w : World} {S : Nat → Prop} {v u : Value} (h : Lo w0 S u.ownBlock) (hw : v.ownBlock = u.ownBlock ∨ ∃ k, v.ownBlock = some k ∧ w.heap.size ≤ k) (hs : w0.heap.size ≤ w.heap.size) : Lo w0 S v.ownBlock := fun k hk => by
  rcases hw with h1 | ⟨k', h1, h2⟩
  · exact h k (h1 ▸ hk)
  · rw [h1] at hk; cases hk; exact Or.inl (Nat.le_trans hs h2)
theorem apart_none {x : Option Nat} : Apart none x := fun k hk => by cases hk

/-! ### a book: a block that holds two rows -/
structure Bk (e1 e2 : Nat) (G : Pin) (w : World) (b : Nat) (u v : Value) (ns : List Nd) (bs : List Int) : Prop where
  bx : Bx G w b [u, v]
  ou : Own eNode e1 G w 0 u ns
  ov : Own eInt e2 G w 0 v bs
  abu : Apart (some b) u.ownBlock
  abv : Apart (some b) v.ownBlock
  auv : Apart u.ownBlock v.ownBlock
def inS (b : Nat) (u v : Value) (k : Nat) : Prop := k = b ∨ u.ownBlock = some k ∨ v.ownBlock = some k
section
variable {w0 w : World} {S : Nat → Prop} {b : Nat} {u v : Value} {x y : Option Nat}
theorem inS_lo (hb : Lo w0 S (some b)) (hu : Lo w0 S u.ownBlock) (hv : Lo w0 S v.ownBlock) : ∀ i, inS b u v i → w0.heap.size ≤ i ∨ S i := fun i hi => by
  rcases hi with rfl | h | h
  · exact hb _ rfl
  · exact hu _ h
  · exact hv _ h
theorem lo_call (h : Lo w (inS b u v) x) (hS : ∀ i, inS b u v i → w0.heap.size ≤ i ∨ S i) (hs : w0.heap.size ≤ w.heap.size) : Lo w0 S x := fun k hk => by
  rcases h k hk with h1 | h1
  · exact Or.inl (Nat.le_trans hs h1)
  · exact hS k h1
theorem notS (hb : Apart x (some b)) (hu : Apart x u.ownBlock) (hv : Apart x v.ownBlock) : ∀ k, x = some k → ¬ inS b u v k := fun k hk hi => by
  rcases hi with rfl | h | h
  · exact hb _ hk rfl
  · exact hu _ hk h
  · exact hv _ hk h
theorem notSb {c : Nat} (h : ∀ k, some c = some k → ¬ inS b u v k) : ¬ inS b u v c := h c rfl
theorem ap_call (h : Lo w (inS b u v) x) (hn : ∀ k, y = some k → ¬ inS b u v k) (hl : ∀ k, y = some k → k < w.heap.size) : Apart y x := fun k hy hx => by
  rcases h k hx with h1 | h1
  · have := hl k hy; omega
  · exact hn k hy h1
theorem lo_b : Lo w (inS b u v) (some b) := fun k hk => by cases hk; exact Or.inr (Or.inl rfl)
theorem lo_u : Lo w (inS b u v) u.ownBlock := fun _ hk => Or.inr (Or.inr (Or.inl hk))
theorem lo_v : Lo w (inS b u v) v.ownBlock := fun _ hk => Or.inr (Or.inr (Or.inr hk))
theorem lo_own {α : Type} {E : Elt α} {e : Nat} {G : Pin} {xs : List α} (h : Own E e G w w0.heap.size v xs) : Lo w0 S v.ownBlock := fun k hk => Or.inl (h.lt k hk).1
theorem lo_box (h : w0.heap.size ≤ b) : Lo w0 S (some b) := fun k hk => by cases hk; exact Or.inl h
theorem own_lt {α : Type} {E : Elt α} {e base : Nat} {G : Pin} {xs : List α} (h : Own E e G w base v xs) : ∀ k, v.ownBlock = some k → k < w.heap.size := fun k hk => (h.lt k hk).2
theorem box_lt {G : Pin} {cs : List Value} (h : Bx G w b cs) : ∀ k, some b = some k → k < w.heap.size := fun k hk => by cases hk; exact h.lt
end

theorem cells1 {v : Value} (h : v.oneCell' = true) : v.cells.toList = [v] := by rw [cells_one h]

/-! ### structs that are built -/
def setCells (off : Nat) (cs cells : List Value) : List Value := (cs.zipIdx 0).foldl (fun a x => a.set (off + x.2) x.1) cells
def fillL (place : Nat → Option (Nat × Nat)) (cells : List Value) : List (Nat × List Value) → Option (List Value)
  | [] => some cells
  | (i, cs) :: rest => match place i with
    | none => none
    | some (off, size) => if cs.length = size ∧ off + cs.length ≤ cells.length then fillL place (setCells off cs cells) rest else none
theorem setCells_arr (off : Nat) (cs cells : List Value) : cs.toArray.zipIdx.foldl (fun (a : Array Value) (x : Value × Nat) => a.setIfInBounds (off + x.2) x.1) cells.toArray = (setCells off cs cells).toArray := by
  have key : ∀ (l : List (Value × Nat)) (cells : List Value), l.foldl (fun (a : Array Value) (x : Value × Nat) => a.setIfInBounds (off + x.2) x.1) cells.toArray = (l.foldl (fun a x => a.set (off + x.2) x.1) cells).toArray := by
    intro l
    induction l with
    | nil => intro cells; rfl
    | cons x r ih => intro cells; simp only [List.foldl_cons, List.setIfInBounds_toArray]; exact ih _
  rw [← Array.foldl_toList]
  unfold setCells
  rw [← key]
  simp
theorem fill_parts {place : Nat → Option (Nat × Nat)} : ∀ {parts : List (Nat × Value × List Value)} {cells r : List Value}, (∀ p ∈ parts, p.2.1.cells = p.2.2.toArray) → fillL place cells (parts.map fun p => (p.1, p.2.2)) = some r →
    Instr.fill place cells.toArray (parts.map fun p => (p.1, p.2.1)) = some r.toArray
  | [], cells, r, _, h => by
    simp only [List.map_nil, fillL, Option.some.injEq] at h
    subst h; rfl
  | (i, v, cs) :: rest, cells, r, hc, h => by
    have hv : v.cells = cs.toArray := hc (i, v, cs) List.mem_cons_self
    simp only [List.map_cons, fillL] at h
    cases hp : place i with
    | none => simp [hp] at h
    | some q =>
      obtain ⟨off, size⟩ := q
      simp only [hp] at h
      split at h
      · rename_i hk
        have ih := fill_parts (fun p hp => hc p (List.mem_cons_of_mem _ hp)) h
        simp only [List.map_cons, Instr.fill, hp, hv, List.size_toArray]
        rw [if_neg (by simp; omega)]
        rw [← ih, ← setCells_arr]
      · cases h
section
variable {P : Program} {ρ : Operand → Value} {w : World} {d : Option Nat} {t ty : Nat} {pos : String} {aft : Array Edge} {g : Option (Nat × Bool)}
def placesD (P : Program) : TypeDesc → Option (List (Nat × Nat))
  | .struct fs => fs.toList.mapM fun f => (P.info? f.type).map fun i => (f.offset, i.size)
  | _ => none
theorem r_build {parts : Array (Nat × Operand)} {fs : Array Field} {z : Value} {places : List (Nat × Nat)} (zs cs : List Value) (ps : List (Nat × Value × List Value)) (ht : P.underlying t = some (.struct fs)) (hz : (P.info? t).bind (·.zero) = some z) (hzc : z.cells.toList = zs)
    (hp' : (P.underlying t).bind (placesD P) = some places) (hpt : (parts.toList.map fun (i, x) => (i, ρ x)) = ps.map fun p => (p.1, p.2.1)) (hc : ∀ p ∈ ps, p.2.1.cells = p.2.2.toArray)
    (hf : fillL (places.toArray[·]?) zs (ps.map fun p => (p.1, p.2.2)) = some cs) :
    (execOp ρ ⟨d, .build t parts, ty, pos, aft, g⟩).run P w = .ok (.value (.agg cs.toArray)) w := by
  have hp : (fs.toList.mapM fun f => (P.info? f.type).map fun i => (f.offset, i.size)) = some places := by rw [ht] at hp'; exact hp'
  obtain ⟨it, hit, hzz⟩ := Option.bind_eq_some_iff.1 hz
  have hb : P.built t (parts.map fun (i, x) => (i, ρ x)).toList = some cs.toArray := by
    unfold Program.built
    rw [hit, ht]
    simp only [hzz, hp]
    rw [Array.toList_map, hpt]
    have := fill_parts hc hf
    rw [← hzc] at this
    exact this
  have := Go.run_build (P := P) w t (parts.map fun (i, x) => (i, ρ x)) cs.toArray hb
  simp [execOp, this]
end

/-! ### all orders of a region meet -/
structure Cut (M : (Nat → Value) → World → Prop) (n : Nat) (x : Exit) (a : Act) (w : World) : Prop where
  out : x = .normal ∧ ∃ en, a = F n en ∧ M en w
theorem c_cut {P : Program} {Q : Exit → Act → World → Prop} {c : Code} {n : Nat} {env : Nat → Value} {w : World} (M : (Nat → Value) → World → Prop) (h : ∀ en w, M en w → Q .normal (F n en) w)
    (hr : c.wp P (Cut M n) (F n env) w) : c.wp P Q (F n env) w :=
  wp_mono hr fun x a w hc => by
    obtain ⟨rfl, en, rfl, hm⟩ := hc.out
    exact h en w hm
theorem cut_in {M : (Nat → Value) → World → Prop} {n : Nat} {env : Nat → Value} {w : World} (h : M env w) : Cut M n .normal (F n env) w := ⟨rfl, env, rfl, h⟩
end Go.GL
