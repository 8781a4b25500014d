/- Structures that a call owns through and through: rows of slices, each leaf a row of its own. -/
import Derived.Test.YtndhhpaldhlghaaDoorClaim
import Derived.Lib.SliceRun
namespace Go.GL
open Go Go.RowKit

/-- A cell's value as it is. -/
def eVal : Elt Value where
  size := 1
  rep := fun _ cs v => cs = [v] ∧ v.oneCell' = true
  mono := fun _ h => h
  len := fun h => by rw [h.1]; rfl
  one := fun h u hu => by rw [h.1] at hu; simp at hu; subst hu; exact h.2
/-- Two cells' values as they are. -/
def eVal2 : Elt (Value × Value) where
  size := 2
  rep := fun _ cs p => cs = [p.1, p.2] ∧ p.1.oneCell' = true ∧ p.2.oneCell' = true
  mono := fun _ h => h
  len := fun h => by rw [h.1]; rfl
  one := fun h u hu => by
    rw [h.1] at hu; simp at hu
    rcases hu with rfl | rfl
    · exact h.2.1
    · exact h.2.2
/-- Readings that lean on no promise. -/
def Flat {α : Type} (E : Elt α) : Prop := ∀ {G G' : Pin} {cs : List Value} {x : α}, E.rep G cs x → E.rep G' cs x
theorem flat_int : Flat eInt := fun h => h
theorem flat_val : Flat eVal := fun h => h
theorem flat_val2 : Flat eVal2 := fun h => h
theorem Own.anti {α : Type} {E : Elt α} {e base : Nat} {G G' : Pin} {w : World} {v : Value} {xs : List α} (hE : Flat E) (h : Own E e G' w base v xs) (hg : Pin.le G G') : Own E e G w base v xs := by
  obtain ⟨cells, h1, h2⟩ := h.ex
  exact ⟨⟨cells, h1, fun i x hx => hE (h2 i x hx)⟩, fun k hk o u hu => h.free k hk o u (hg _ _ _ hu)⟩
theorem RSl.conv {α β : Type} {E : Elt α} {F : Elt β} {G : Pin} {v : Value} {xs : List α} {ys : List β} (h : RSl E G v xs) (hl : ys.length = xs.length) (hs : F.size = E.size) (hr : ∀ (i : Nat) x y cs, xs[i]? = some x → ys[i]? = some y → E.rep G cs x → F.rep G cs y) : RSl F G v ys := by
  refine ⟨?_, fun i y hy => ?_⟩
  · obtain ⟨a, c, h1, h2, h3⟩ := h.sl
    exact ⟨a, c, by rw [hl]; exact h1, by rw [hl]; exact h2, h3⟩
  · have hi : i < xs.length := by have := (List.getElem?_eq_some_iff.1 hy).1; omega
    obtain ⟨a, b, o, n, c, cs, h1, h2, h3, h4⟩ := h.at_ i _ (List.getElem?_eq_getElem hi)
    exact ⟨a, b, o, n, c, cs, h1, by rw [hs]; exact h2, hr i _ y cs (List.getElem?_eq_getElem hi) hy h3, h4⟩

abbrev Leaf := Value × List Int
/-- Rows of integers of the call's own, from block lo on, below hi, no two in one block. -/
structure Lvs (e : Nat) (G : Pin) (w : World) (lo hi : Nat) (L : List Leaf) : Prop where
  own : ∀ p ∈ L, Own eInt e G w lo p.1 p.2
  hi : ∀ p ∈ L, ∀ k, p.1.ownBlock = some k → k < hi
  ap : L.Pairwise fun p q => Apart p.1.ownBlock q.1.ownBlock
/-- Apart from all leaves. -/
def ApL (L : List Leaf) (x : Option Nat) : Prop := ∀ p ∈ L, Apart p.1.ownBlock x
section
variable {e lo hi : Nat} {G G' : Pin} {w w' : World} {L L' : List Leaf}
theorem Lvs.nil : Lvs e G w lo hi [] := ⟨fun _ hp => (List.not_mem_nil hp).elim, fun _ hp => (List.not_mem_nil hp).elim, List.Pairwise.nil⟩
theorem ApL.nil {x : Option Nat} : ApL [] x := fun _ hp => (List.not_mem_nil hp).elim
theorem Lvs.ge (h : Lvs e G w lo hi L) : ∀ p ∈ L, ∀ k, p.1.ownBlock = some k → lo ≤ k ∧ k < w.heap.size := fun p hp k hk => (h.own p hp).lt k hk
theorem Lvs.map (h : Lvs e G w lo hi L) (f : ∀ p ∈ L, Own eInt e G w lo p.1 p.2 → Own eInt e G' w' lo p.1 p.2) : Lvs e G' w' lo hi L := ⟨fun p hp => f p hp (h.own p hp), h.hi, h.ap⟩
theorem Lvs.below (h : Lvs e G w lo hi L) (hb : Below w.heap.size w w') : Lvs e G w' lo hi L := h.map fun _ _ ho => ho.below hb
theorem Lvs.ext (h : Lvs e G w lo hi L) (hx : Ext noS G w G' w') : Lvs e G' w' lo hi L := h.map fun _ _ ho => ho.ext hx
theorem Lvs.extS {S : Nat → Prop} (h : Lvs e G w lo hi L) (hx : Ext S G w G' w') (hS : ∀ k, lo ≤ k → k < hi → ¬ S k) : Lvs e G' w' lo hi L :=
  h.map fun p hp ho => ho.extS hx fun k hk => hS k (ho.lt k hk).1 (h.hi p hp k hk)
theorem Lvs.kept {row : Option Nat} (h : Lvs e G w lo hi L) (hg : w.grownBy w' row) (ha : ApL L row) : Lvs e G w' lo hi L := h.map fun p hp ho => ho.keptA hg (ha p hp)
theorem Lvs.more {b : Nat} (h : Lvs e G w lo hi L) (hl : Pin.le G G') (hf : ∀ k o u, G' k o u → G k o u ∨ k = b) (ha : ApL L (some b)) : Lvs e G' w lo hi L := h.map fun p hp ho => ho.moreA hl hf (ha p hp)
theorem Lvs.moreO {v : Value} (h : Lvs e G w lo hi L) (hl : Pin.le G G') (hf : ∀ k o u, G' k o u → G k o u ∨ v.ownBlock = some k) (ha : ApL L v.ownBlock) : Lvs e G' w lo hi L := h.map fun p hp ho => ho.moreO hl hf (ha p hp)
theorem Lvs.anti (h : Lvs e G' w lo hi L) (hg : Pin.le G G') : Lvs e G w lo hi L := h.map fun _ _ ho => ho.anti flat_int hg
theorem Lvs.weaken {lo' hi' : Nat} (h : Lvs e G w lo hi L) (hl : lo' ≤ lo) (hh : hi ≤ hi') : Lvs e G w lo' hi' L :=
  ⟨fun p hp => (h.own p hp).weaken hl, fun p hp k hk => Nat.lt_of_lt_of_le (h.hi p hp k hk) hh, h.ap⟩
theorem Lvs.top (h : Lvs e G w lo hi L) : Lvs e G w lo w.heap.size L := ⟨h.own, fun p hp k hk => ((h.own p hp).lt k hk).2, h.ap⟩
theorem Lvs.perm (h : Lvs e G w lo hi L) (hp : L.Perm L') : Lvs e G w lo hi L' :=
  ⟨fun p hq => h.own p (hp.mem_iff.2 hq), fun p hq => h.hi p (hp.mem_iff.2 hq), (hp.pairwise_iff (fun {a b} (x : Apart a.1.ownBlock b.1.ownBlock) => x.symm)).1 h.ap⟩
theorem ApL.perm {x : Option Nat} (h : ApL L x) (hp : L.Perm L') : ApL L' x := fun p hq => h p (hp.mem_iff.2 hq)
/-- A row that is new joins the leaves. -/
theorem Lvs.add {u : Value} {xs : List Int} (h : Lvs e G w lo w.heap.size L) (ho : Own eInt e G w lo u xs) (ha : ApL L u.ownBlock) : Lvs e G w lo w.heap.size (L ++ [(u, xs)]) := by
  refine ⟨fun p hp => ?_, fun p hp k hk => ?_, ?_⟩
  · rcases List.mem_append.1 hp with h1 | h1
    · exact h.own p h1
    · simp at h1; subst h1; exact ho
  · rcases List.mem_append.1 hp with h1 | h1
    · exact h.hi p h1 k hk
    · simp at h1; subst h1; exact (ho.lt k hk).2
  · refine List.pairwise_append.2 ⟨h.ap, by simp, fun a ha' b hb => ?_⟩
    simp at hb; subst hb; exact ha a ha'
theorem ApL.add {u : Value} {xs : List Int} {x : Option Nat} (h : ApL L x) (hu : Apart u.ownBlock x) : ApL (L ++ [(u, xs)]) x := fun p hp => by
  rcases List.mem_append.1 hp with h1 | h1
  · exact h p h1
  · simp at h1; subst h1; exact hu
/-- A block that is new lies apart from all leaves. -/
theorem ApL.fresh {x : Option Nat} (h : Lvs e G w lo hi L) (hx : ∀ k, x = some k → w.heap.size ≤ k) : ApL L x := fun p hp k hk hk' => by
  have h1 := ((h.own p hp).lt k hk).2; have h2 := hx k hk'; omega
theorem ApL.app {u v : Value} (h : Lvs e G w lo hi L) (ha : ApL L u.ownBlock) (hw : v.ownBlock = u.ownBlock ∨ ∃ k, v.ownBlock = some k ∧ w.heap.size ≤ k) : ApL L v.ownBlock := fun p hp =>
  app_ne_own (ha p hp) hw (fun k hk => (h.own p hp).lt k hk)
/-- One leaf is written. -/
theorem Lvs.step {A B : List Leaf} {u : Value} {xs ys : List Int} (h : Lvs e G w lo hi (A ++ (u, xs) :: B)) (ho : Own eInt e G w' lo u ys) (hg : w.grownBy w' u.ownBlock) : Lvs e G w' lo hi (A ++ (u, ys) :: B) := by
  have hp := List.pairwise_append.1 h.ap
  have hq := List.pairwise_cons.1 hp.2.1
  refine ⟨fun p hm => ?_, fun p hm k hk => ?_, ?_⟩
  · rcases List.mem_append.1 hm with h1 | h1
    · exact (h.own p (List.mem_append_left _ h1)).keptA hg (hp.2.2 p h1 _ List.mem_cons_self)
    · rcases List.mem_cons.1 h1 with rfl | h2
      · exact ho
      · exact (h.own p (List.mem_append_right _ (List.mem_cons_of_mem _ h2))).keptA hg (hq.1 p h2).symm
  · rcases List.mem_append.1 hm with h1 | h1
    · exact h.hi p (List.mem_append_left _ h1) k hk
    · rcases List.mem_cons.1 h1 with rfl | h2
      · exact h.hi (u, xs) (List.mem_append_right _ List.mem_cons_self) k hk
      · exact h.hi p (List.mem_append_right _ (List.mem_cons_of_mem _ h2)) k hk
  · refine List.pairwise_append.2 ⟨hp.1, List.pairwise_cons.2 ⟨hq.1, hq.2⟩, fun a ha b hb => ?_⟩
    rcases List.mem_cons.1 hb with rfl | h2
    · exact hp.2.2 a ha (u, xs) List.mem_cons_self
    · exact hp.2.2 a ha b (List.mem_cons_of_mem _ h2)
/-- The promise with all leaves' cells. -/
def GLv (G : Pin) (w : World) (L : List Leaf) : Pin := fun b o u => G b o u ∨ ((∃ p ∈ L, p.1.ownBlock = some b) ∧ w.cell? ⟨b, o, none⟩ = some u)
theorem GLv.le : Pin.le G (GLv G w L) := fun _ _ _ h => Or.inl h
theorem GLv.pins (h : Pins G w) : Pins (GLv G w L) w := fun b o u hu => by
  rcases hu with hu | hu
  · exact h b o u hu
  · exact hu.2
theorem Lvs.read (h : Lvs e G w lo hi L) {p : Leaf} (hp : p ∈ L) : RSl eInt (GLv G w L) p.1 p.2 :=
  (h.own p hp).read.mono fun b o u hu => by
    rcases hu with h1 | h1
    · exact Or.inl h1
    · exact Or.inr ⟨⟨p, hp, h1.1⟩, h1.2⟩
theorem GLv.new (h : Lvs e G w lo hi L) {b o : Nat} {u : Value} (hu : GLv G w L b o u) : G b o u ∨ (lo ≤ b ∧ b < hi) := by
  rcases hu with h1 | ⟨⟨p, hp, h1⟩, _⟩
  · exact Or.inl h1
  · exact Or.inr ⟨((h.own p hp).lt b h1).1, h.hi p hp b h1⟩
end

/-! ### forms -/
def lvN (ps : List (Value × Value)) (ns : List Nd) : List Leaf := (ps.zip ns).flatMap fun q => [(q.1.1, q.2.l), (q.1.2, q.2.r)]
structure DForm (en e : Nat) (G : Pin) (w : World) (lo hi : Nat) (v : Value) (ns : List Nd) : Prop where
  ex : ∃ ps, ps.length = ns.length ∧ Own eVal2 en G w lo v ps ∧ (∀ k, v.ownBlock = some k → k < hi) ∧ Lvs e G w lo hi (lvN ps ns) ∧ ApL (lvN ps ns) v.ownBlock
theorem lvN_snoc (ps : List (Value × Value)) (ns : List Nd) (p : Value × Value) (n : Nd) (h : ps.length = ns.length) : lvN (ps ++ [p]) (ns ++ [n]) = lvN ps ns ++ [(p.1, n.l)] ++ [(p.2, n.r)] := by
  unfold lvN
  rw [List.zip_append h, List.flatMap_append, List.append_assoc]; rfl
theorem lvN_mem {ps : List (Value × Value)} {ns : List Nd} {i : Nat} {p : Value × Value} {n : Nd} (hp : ps[i]? = some p) (hn : ns[i]? = some n) : (p.1, n.l) ∈ lvN ps ns ∧ (p.2, n.r) ∈ lvN ps ns := by
  have : (p, n) ∈ ps.zip ns := List.mem_of_getElem? (i := i) (by rw [List.getElem?_zip_eq_some]; exact ⟨hp, hn⟩)
  unfold lvN
  exact ⟨List.mem_flatMap.2 ⟨_, this, by simp⟩, List.mem_flatMap.2 ⟨_, this, by simp⟩⟩
section
variable {en e lo hi : Nat} {G G' : Pin} {w w' : World} {v : Value} {ns : List Nd}
theorem DForm.below (h : DForm en e G w lo hi v ns) (hb : Below w.heap.size w w') : DForm en e G w' lo hi v ns := by
  obtain ⟨ps, h1, h2, h3, h4, h5⟩ := h.ex
  exact ⟨⟨ps, h1, h2.below hb, h3, h4.below hb, h5⟩⟩
theorem DForm.ext (h : DForm en e G w lo hi v ns) (hx : Ext noS G w G' w') : DForm en e G' w' lo hi v ns := by
  obtain ⟨ps, h1, h2, h3, h4, h5⟩ := h.ex
  exact ⟨⟨ps, h1, h2.ext hx, h3, h4.ext hx, h5⟩⟩
theorem DForm.ge (h : DForm en e G w lo hi v ns) : ∀ k, v.ownBlock = some k → lo ≤ k := by
  obtain ⟨ps, h1, h2, h3, h4, h5⟩ := h.ex
  exact fun k hk => (h2.lt k hk).1
/-- The box of a block from hi on is promised. -/
theorem DForm.more {b : Nat} (h : DForm en e G w lo hi v ns) (hl : Pin.le G G') (hf : ∀ k o u, G' k o u → G k o u ∨ k = b) (hb : hi ≤ b ∨ b < lo) : DForm en e G' w lo hi v ns := by
  obtain ⟨ps, h1, h2, h3, h4, h5⟩ := h.ex
  exact ⟨⟨ps, h1, h2.moreA hl hf (fun k a c => by cases c; have := h3 _ a; have := (h2.lt _ a).1; omega), h3, h4.more hl hf (fun p hp k a c => by cases c; have := h4.hi p hp _ a; have := (h4.ge p hp _ a).1; omega), h5⟩⟩
/-- A block from hi on is written. -/
theorem DForm.kept {b : Nat} (h : DForm en e G w lo hi v ns) (hg : w.grownBy w' (some b)) (hb : hi ≤ b ∨ b < lo) : DForm en e G w' lo hi v ns := by
  obtain ⟨ps, h1, h2, h3, h4, h5⟩ := h.ex
  exact ⟨⟨ps, h1, h2.keptA hg (fun k a c => by cases c; have := h3 _ a; have := (h2.lt _ a).1; omega), h3, h4.kept hg (fun p hp k a c => by cases c; have := h4.hi p hp _ a; have := (h4.ge p hp _ a).1; omega), h5⟩⟩
/-- A form of the call's own, read: the promise grows by cells of its blocks alone. -/
theorem DForm.read (h : DForm en e G w lo hi v ns) (hP : Pins G w) : ∃ G', Pin.le G G' ∧ Pins G' w ∧ RSl eNode G' v ns ∧ ∀ b o x, G' b o x → G b o x ∨ lo ≤ b := by
  obtain ⟨ps, h1, h2, h3, h4, h5⟩ := h.ex
  refine ⟨GLv (Gadd G w v) w (lvN ps ns), Pin.le_trans (Gadd.le _ _ _) GLv.le, GLv.pins (Gadd.pins hP v), (h2.read.mono GLv.le).conv h1.symm rfl fun i p n cs hp hn hr => ?_, fun b o x hx => ?_⟩
  rotate_left
  · rcases hx with (a | a) | a
    · exact Or.inl a
    · exact Or.inr (h2.lt b a.1).1
    · obtain ⟨⟨p, hp, hk⟩, _⟩ := a
      exact Or.inr ((h4.own p hp).lt b hk).1
  have hm := lvN_mem hp hn
  obtain ⟨rfl, _, _⟩ := hr
  have key : ∀ q ∈ lvN ps ns, RSl eInt (GLv (Gadd G w v) w (lvN ps ns)) q.1 q.2 := fun q hq =>
    (h4.read hq).mono fun b o u hu => by
      rcases hu with a | a
      · exact Or.inl (Or.inl a)
      · exact Or.inr a
  exact ⟨_, _, rfl, key _ hm.1, key _ hm.2⟩
end

/-! ### graphs: two rows of rows -/
def lvL (us : List Value) (xss : List (List Int)) : List Leaf := us.zip xss
structure DLoop (er e : Nat) (G : Pin) (w : World) (lo hi : Nat) (u v : Value) (ls rs : List (List Int)) : Prop where
  ex : ∃ us vs, us.length = ls.length ∧ vs.length = rs.length ∧ Own eVal er G w lo u us ∧ Own eVal er G w lo v vs ∧ (∀ k, u.ownBlock = some k → k < hi) ∧ (∀ k, v.ownBlock = some k → k < hi) ∧ Lvs e G w lo hi (lvL us ls ++ lvL vs rs) ∧
    ApL (lvL us ls ++ lvL vs rs) u.ownBlock ∧ ApL (lvL us ls ++ lvL vs rs) v.ownBlock ∧ Apart u.ownBlock v.ownBlock
section
variable {er e lo hi : Nat} {G G' : Pin} {w w' : World} {u v : Value} {ls rs : List (List Int)}
theorem DLoop.below (h : DLoop er e G w lo hi u v ls rs) (hb : Below w.heap.size w w') : DLoop er e G w' lo hi u v ls rs := by
  obtain ⟨us, vs, h1, h2, h3, h4, h5, h6, h7, h8, h9, h10⟩ := h.ex
  exact ⟨⟨us, vs, h1, h2, h3.below hb, h4.below hb, h5, h6, h7.below hb, h8, h9, h10⟩⟩
theorem DLoop.ext (h : DLoop er e G w lo hi u v ls rs) (hx : Ext noS G w G' w') : DLoop er e G' w' lo hi u v ls rs := by
  obtain ⟨us, vs, h1, h2, h3, h4, h5, h6, h7, h8, h9, h10⟩ := h.ex
  exact ⟨⟨us, vs, h1, h2, h3.ext hx, h4.ext hx, h5, h6, h7.ext hx, h8, h9, h10⟩⟩
theorem DLoop.extS {S : Nat → Prop} (h : DLoop er e G w lo hi u v ls rs) (hx : Ext S G w G' w') (hS : ∀ k, lo ≤ k → k < hi → ¬ S k) : DLoop er e G' w' lo hi u v ls rs := by
  obtain ⟨us, vs, h1, h2, h3, h4, h5, h6, h7, h8, h9, h10⟩ := h.ex
  exact ⟨⟨us, vs, h1, h2, h3.extS hx (fun k hk => hS k (h3.lt k hk).1 (h5 k hk)), h4.extS hx (fun k hk => hS k (h4.lt k hk).1 (h6 k hk)), h5, h6, h7.extS hx hS, h8, h9, h10⟩⟩
theorem DLoop.anti (h : DLoop er e G' w lo hi u v ls rs) (hg : Pin.le G G') : DLoop er e G w lo hi u v ls rs := by
  obtain ⟨us, vs, h1, h2, h3, h4, h5, h6, h7, h8, h9, h10⟩ := h.ex
  exact ⟨⟨us, vs, h1, h2, h3.anti flat_val hg, h4.anti flat_val hg, h5, h6, h7.anti hg, h8, h9, h10⟩⟩
theorem DLoop.more {b : Nat} (h : DLoop er e G w lo hi u v ls rs) (hl : Pin.le G G') (hf : ∀ k o u, G' k o u → G k o u ∨ k = b) (hb : hi ≤ b ∨ b < lo) : DLoop er e G' w lo hi u v ls rs := by
  obtain ⟨us, vs, h1, h2, h3, h4, h5, h6, h7, h8, h9, h10⟩ := h.ex
  exact ⟨⟨us, vs, h1, h2, h3.moreA hl hf (fun k a c => by cases c; have := h5 _ a; have := (h3.lt _ a).1; omega), h4.moreA hl hf (fun k a c => by cases c; have := h6 _ a; have := (h4.lt _ a).1; omega), h5, h6, h7.more hl hf (fun p hp k a c => by cases c; have := h7.hi p hp _ a; have := (h7.ge p hp _ a).1; omega), h8, h9, h10⟩⟩
theorem DLoop.kept {b : Nat} (h : DLoop er e G w lo hi u v ls rs) (hg : w.grownBy w' (some b)) (hb : hi ≤ b ∨ b < lo) : DLoop er e G w' lo hi u v ls rs := by
  obtain ⟨us, vs, h1, h2, h3, h4, h5, h6, h7, h8, h9, h10⟩ := h.ex
  exact ⟨⟨us, vs, h1, h2, h3.keptA hg (fun k a c => by cases c; have := h5 _ a; have := (h3.lt _ a).1; omega), h4.keptA hg (fun k a c => by cases c; have := h6 _ a; have := (h4.lt _ a).1; omega), h5, h6, h7.kept hg (fun p hp k a c => by cases c; have := h7.hi p hp _ a; have := (h7.ge p hp _ a).1; omega), h8, h9, h10⟩⟩
theorem rows_read {us : List Value} {xss : List (List Int)} {G : Pin} (hr : RSl eVal G v us) (hl : us.length = xss.length) (hk : ∀ p ∈ lvL us xss, RSl eInt G p.1 p.2) : RSl (eSl eInt) G v xss :=
  hr.conv hl.symm rfl fun i u xs cs hu hx hrep => by
    obtain ⟨rfl, _⟩ := hrep
    exact ⟨u, rfl, hk (u, xs) (List.mem_of_getElem? (i := i) (by unfold lvL; rw [List.getElem?_zip_eq_some]; exact ⟨hu, hx⟩))⟩
theorem DLoop.read (h : DLoop er e G w lo hi u v ls rs) (hP : Pins G w) : ∃ G', Pin.le G G' ∧ Pins G' w ∧ RSl (eSl eInt) G' u ls ∧ RSl (eSl eInt) G' v rs ∧ ∀ b o x, G' b o x → G b o x ∨ lo ≤ b := by
  obtain ⟨us, vs, h1, h2, h3, h4, h5, h6, h7, h8, h9, h10⟩ := h.ex
  have hl1 : Pin.le (Gadd G w u) (Gadd (Gadd G w u) w v) := Gadd.le _ _ _
  have key : ∀ q ∈ lvL us ls ++ lvL vs rs, RSl eInt (GLv (Gadd (Gadd G w u) w v) w (lvL us ls ++ lvL vs rs)) q.1 q.2 := fun q hq =>
    (h7.read hq).mono fun b o u hu => by
      rcases hu with a | a
      · exact Or.inl (Or.inl (Or.inl a))
      · exact Or.inr a
  refine ⟨GLv (Gadd (Gadd G w u) w v) w (lvL us ls ++ lvL vs rs), Pin.le_trans (Pin.le_trans (Gadd.le _ _ _) hl1) GLv.le, GLv.pins (Gadd.pins (Gadd.pins hP u) v), ?_, ?_, fun b o x hx => ?_⟩
  rotate_left
  rotate_left
  · rcases hx with ((a | a) | a) | a
    · exact Or.inl a
    · exact Or.inr (h3.lt b a.1).1
    · exact Or.inr (h4.lt b a.1).1
    · obtain ⟨⟨p, hp, hk⟩, _⟩ := a
      exact Or.inr ((h7.own p hp).lt b hk).1
  · exact rows_read ((h3.read.mono hl1).mono GLv.le) h1 fun p hp => key p (List.mem_append_left _ hp)
  · refine rows_read ((h4.read.mono fun b o u hu => ?_).mono GLv.le) h2 fun p hp => key p (List.mem_append_right _ hp)
    rcases hu with a | a
    · exact Or.inl (Or.inl a)
    · exact Or.inr a
end

/-! ### marks -/
theorem Own.up {α : Type} {E : Elt α} {e base lo : Nat} {G : Pin} {w : World} {v : Value} {xs : List α} (h : Own E e G w base v xs) (hl : ∀ k, v.ownBlock = some k → lo ≤ k) : Own E e G w lo v xs := by
  obtain ⟨cells, ⟨hc, hown⟩, hr⟩ := h.ex
  refine ⟨⟨cells, ⟨hc, ?_⟩, hr⟩, h.free⟩
  rcases hown with hn | ⟨g, cap, cur, h1, h2, h3⟩
  · exact .inl hn
  · exact .inr ⟨g, cap, cur, h1, hl g (by rw [h1]; rfl), h3⟩
theorem Ext.grown {G G' : Pin} {w w' : World} {row : Option Nat} (h : Ext (fun k => row = some k) G w G' w') : w.grownBy w' row :=
  ⟨h.os, h.tape, h.output, h.size, fun k hk hne => h.block k hk fun e => hne e.symm⟩
def inR (lo hi : Nat) (k : Nat) : Prop := lo ≤ k ∧ k < hi
def upL (k : Int) (n : Nat) : List Int := (List.range n).map fun i : Nat => k + (i : Int)
def markP (k : Int) (xs : List Int) (j : Nat) : List Int := upL k j ++ xs.drop j
theorem upL_length (k : Int) (n : Nat) : (upL k n).length = n := by simp [upL]
theorem upL_getD {k : Int} {n j : Nat} (h : j < n) : (upL k n).getD j 0 = k + (j : Int) := by simp [upL, List.getD, h]
theorem upL_succ (k : Int) (n : Nat) : upL k (n + 1) = upL k n ++ [k + (n : Int)] := by simp [upL, List.range_succ]
theorem markP_length {k : Int} {xs : List Int} {j : Nat} (h : j ≤ xs.length) : (markP k xs j).length = xs.length := by simp [markP, upL_length]; omega
theorem markP_next {k q : Int} {xs : List Int} {j : Nat} (h : j < xs.length) (hq : q = k + (j : Int)) : (markP k xs j).set j q = markP k xs (j + 1) := by
  unfold markP
  rw [List.set_append_right _ _ (by rw [upL_length]; exact Nat.le_refl _), upL_length, Nat.sub_self, drop_getD xs 0 h, List.set_cons_zero, upL_succ, List.append_assoc, hq]
  rfl
theorem markP_end {k : Int} {xs : List Int} {j : Nat} (h : j = xs.length) : markP k xs j = upL k xs.length := by
  subst h; simp [markP]
def tot : List (List Int) → Int
  | [] => 0
  | x :: r => (x.length : Int) + tot r
def markSS : Int → List (List Int) → List (List Int)
  | _, [] => []
  | k, x :: r => upL k x.length :: markSS (k + (x.length : Int)) r
theorem markSS_length : ∀ (k : Int) (l : List (List Int)), (markSS k l).length = l.length
  | _, [] => rfl
  | k, x :: r => by simp [markSS, markSS_length]
theorem tot_next {l : List (List Int)} {j : Nat} (h : j < l.length) : tot (l.drop j) = ((l.getD j []).length : Int) + tot (l.drop (j + 1)) := by
  rw [drop_getD l [] h]; rfl
theorem tot_end {l : List (List Int)} {j : Nat} (h : l.length ≤ j) : tot (l.drop j) = 0 := by
  rw [List.drop_eq_nil_of_le h]; rfl
theorem tot_nonneg : ∀ (l : List (List Int)), 0 ≤ tot l
  | [] => Int.le_refl _
  | x :: r => by have := tot_nonneg r; unfold tot; omega
theorem markSS_next {k : Int} {l : List (List Int)} {j : Nat} (h : j < l.length) : markSS k (l.drop j) = upL k (l.getD j []).length :: markSS (k + ((l.getD j []).length : Int)) (l.drop (j + 1)) := by
  rw [drop_getD l [] h]; rfl
theorem lvL_next {us : List Value} {l : List (List Int)} {j : Nat} (d : Value) (hu : j < us.length) (hl : j < l.length) : lvL (us.drop j) (l.drop j) = (us.getD j d, l.getD j []) :: lvL (us.drop (j + 1)) (l.drop (j + 1)) := by
  rw [drop_getD us d hu, drop_getD l [] hl]; rfl
theorem lvL_mark {us : List Value} {k : Int} {l : List (List Int)} {j : Nat} (d : Value) (hu : j < us.length) (hl : j < l.length) :
    lvL (us.drop j) (markSS k (l.drop j)) = (us.getD j d, upL k (l.getD j []).length) :: lvL (us.drop (j + 1)) (markSS (k + ((l.getD j []).length : Int)) (l.drop (j + 1))) := by
  rw [drop_getD us d hu, markSS_next hl]; rfl
theorem lvL_end {us : List Value} {l : List (List Int)} {j : Nat} (h : us.length ≤ j) : lvL (us.drop j) l = [] := by
  rw [List.drop_eq_nil_of_le h]; rfl

/-- Leaves whose contents no longer matter. -/
structure LvF (e : Nat) (G : Pin) (w : World) (lo hi N : Nat) (us : List Value) : Prop where
  ex : ∃ L : List Leaf, L.map (·.1) = us ∧ Lvs e G w lo hi L ∧ ∀ p ∈ L, p.2.length ≤ N
theorem LvF.own {e lo hi N : Nat} {G : Pin} {w : World} {us : List Value} {u : Value} (h : LvF e G w lo hi N us) (hu : u ∈ us) : ∃ xs : List Int, xs.length ≤ N ∧ Own eInt e G w lo u xs ∧ (∀ k, u.ownBlock = some k → lo ≤ k ∧ k < hi) ∧
    ∀ w' ys, ys.length ≤ N → Own eInt e G w' lo u ys → w.grownBy w' u.ownBlock → LvF e G w' lo hi N us := by
  obtain ⟨L, rfl, h1, h2⟩ := h.ex
  obtain ⟨p, hp, rfl⟩ := List.mem_map.1 hu
  obtain ⟨A, B, rfl⟩ := List.append_of_mem hp
  refine ⟨p.2, h2 p hp, h1.own p hp, fun k hk => ⟨((h1.own p hp).lt k hk).1, h1.hi p hp k hk⟩, fun w' ys hy ho hg => ⟨A ++ (p.1, ys) :: B, by simp, Lvs.step (xs := p.2) h1 ho hg, fun q hq => ?_⟩⟩
  rcases List.mem_append.1 hq with h3 | h3
  · exact h2 q (List.mem_append_left _ h3)
  · rcases List.mem_cons.1 h3 with rfl | h4
    · exact hy
    · exact h2 q (List.mem_append_right _ (List.mem_cons_of_mem _ h4))
def leafV (ps : List (Value × Value)) : List Value := ps.flatMap fun p => [p.1, p.2]
theorem leafV_mem {ps : List (Value × Value)} {j : Nat} (h : j < ps.length) : (ps.getD j default).1 ∈ leafV ps ∧ (ps.getD j default).2 ∈ leafV ps := by
  have : ps.getD j default ∈ ps := mem_getD_of h
  unfold leafV
  exact ⟨List.mem_flatMap.2 ⟨_, this, by simp⟩, List.mem_flatMap.2 ⟨_, this, by simp⟩⟩
theorem lvN_fst : ∀ {ps : List (Value × Value)} {ns : List Nd}, ps.length = ns.length → (lvN ps ns).map (·.1) = leafV ps
  | [], [], _ => rfl
  | p :: ps, n :: ns, h => by
    have := lvN_fst (ps := ps) (ns := ns) (by simpa using h)
    simp only [lvN, leafV, List.zip_cons_cons, List.flatMap_cons] at this ⊢
    rw [List.map_append, this]; rfl
  | [], n :: ns, h => by cases h
  | p :: ps, [], h => by cases h
theorem lvN_len {ps : List (Value × Value)} {ns : List Nd} {N : Nat} (h : ∀ n ∈ ns, n.l.length ≤ N ∧ n.r.length ≤ N) : ∀ p ∈ lvN ps ns, p.2.length ≤ N := fun p hp => by
  unfold lvN at hp
  obtain ⟨q, hq, hm⟩ := List.mem_flatMap.1 hp
  have := h q.2 (List.of_mem_zip (a := q.1) (b := q.2) hq).2
  simp at hm
  rcases hm with rfl | rfl
  · exact this.1
  · exact this.2

section
variable {P : Program} {ρ : Operand → Value} {w : World} {d : Option Nat} {t e ty t' : Nat} {pos : String} {aft : Array Edge} {g : Option (Nat × Bool)} {x y : Operand}
def nilSl : Value → Bool
  | .slice none _ _ => true
  | _ => false
theorem r_eqlNil {α : Type} {E : Elt α} {G : Pin} {v : Value} {xs : List α} (ht : P.underlying t = some (.slice e)) (hv : RSl E G v xs) (hx : ρ x = v) (hy : ρ y = .slice none 0 0) :
    (execOp ρ ⟨d, .binOp .eql t x y t', ty, pos, aft, g⟩).run P w = .ok (.value (.bool (nilSl v))) w := by
  obtain ⟨a, c, rfl, _⟩ := hv.sl
  have h := Go.Lib.run_eql_slice_nil (P := P) w t e a xs.length c 0 0 ht
  simp only [execOp, hx, hy]
  cases a <;> simp [eqGuard, nilSl, h]
theorem nil_of {α : Type} {E : Elt α} {G : Pin} {v : Value} {xs : List α} (hv : RSl E G v xs) (h : nilSl v = true) : xs = [] := by
  match xs, hv with
  | [], _ => rfl
  | x :: r, hv =>
    obtain ⟨a, b, o, n, c, cs, h1, _⟩ := hv.at_ 0 x rfl
    rw [h1] at h; cases h
end
theorem c_retct {P : Program} {n : Nat} {env : Nat → Value} {w : World} {fn : Func} {R : Ending → World → Prop} {s t b i : Nat} {cs : List Value} {v : Value} (hr : fn.results = #[.cell s t, .tmp i]) (hs : Nat.blt s n = true) (hi : Nat.blt i n = true) (hv : env s = .pointer (some ⟨b, 0, none⟩)) (hiv : env i = v) (ha : (P.underlying t).map aggD = some true) (hz : (P.info? t).map (·.size) = some cs.length)
    (hc : ∀ j u, cs[j]? = some u → w.cell? ⟨b, 0 + j, none⟩ = some u) (h : R (.returned (.tuple #[.agg cs.toArray, v])) w) : bodyPost P fn R .ret (F n env) w := by
  have h2 : s < n := by simpa [Nat.blt_eq] using hs
  have h3 : i < n := by simpa [Nat.blt_eq] using hi
  have hcell : ∀ j u, cs[j]? = some u → w.cell? ((⟨b, 0, none⟩ : Addr).add j) = some u := fun j u hj => by
    have := hc j u hj
    simp only [Addr.add]
    split
    · simp_all
    · exact this
  have hlv : (loadVar t ⟨b, 0, none⟩).run P w = .ok (.agg cs.toArray) w := by
    unfold loadVar
    simp only [Sem.run_bind, run_isAgg ha, Result.andThen_ok, if_true, run_sizeOf hz, run_loadCells_list (P := P) w ⟨b, 0, none⟩ cs hcell, Sem.run_pure]
  refine bodyPost_ret (v := .tuple #[.agg cs.toArray, v]) ?_ rfl h
  have he : (F n env).tmps[s]?.getD undef = .pointer (some ⟨b, 0, none⟩) := by simp [F, h2, hv]
  have he2 : (F n env).tmps[i]?.getD undef = v := by simp [F, h3, hiv]
  simp [results, hr, he, he2, asAddr, hlv]

/-! ### what marks turn -/
def inV (us : List Value) (k : Nat) : Prop := ∃ u ∈ us, u.ownBlock = some k
theorem Ext.shrink {S : Nat → Prop} {G G' : Pin} {w w' : World} (h : Ext S G w G' w') : Ext S G w G w' :=
  ⟨Pin.le_refl _, fun b o u hu => h.pins b o u (h.le _ _ _ hu), fun _ _ _ hu => Or.inl hu, h.os, h.tape, h.output, h.size, h.block⟩
section
variable {e lo hi : Nat} {G G' : Pin} {w w' : World} {L L1 L2 : List Leaf}
theorem Lvs.left (h : Lvs e G w lo hi (L1 ++ L2)) : Lvs e G w lo hi L1 := ⟨fun p hp => h.own p (List.mem_append_left _ hp), fun p hp => h.hi p (List.mem_append_left _ hp), (List.pairwise_append.1 h.ap).1⟩
theorem Lvs.right (h : Lvs e G w lo hi (L1 ++ L2)) : Lvs e G w lo hi L2 := ⟨fun p hp => h.own p (List.mem_append_right _ hp), fun p hp => h.hi p (List.mem_append_right _ hp), (List.pairwise_append.1 h.ap).2.1⟩
theorem Lvs.cross (h : Lvs e G w lo hi (L1 ++ L2)) : ∀ a ∈ L1.map (·.1), ∀ b ∈ L2.map (·.1), Apart a.ownBlock b.ownBlock := fun a ha b hb => by
  obtain ⟨p, hp, rfl⟩ := List.mem_map.1 ha
  obtain ⟨q, hq, rfl⟩ := List.mem_map.1 hb
  exact (List.pairwise_append.1 h.ap).2.2 p hp q hq
theorem Lvs.join (h1 : Lvs e G w lo hi L1) (h2 : Lvs e G w lo hi L2) (hc : ∀ a ∈ L1.map (·.1), ∀ b ∈ L2.map (·.1), Apart a.ownBlock b.ownBlock) : Lvs e G w lo hi (L1 ++ L2) :=
  ⟨fun p hp => (List.mem_append.1 hp).elim (h1.own p) (h2.own p), fun p hp => (List.mem_append.1 hp).elim (h1.hi p) (h2.hi p),
    List.pairwise_append.2 ⟨h1.ap, h2.ap, fun _ ha _ hb => hc _ (List.mem_map_of_mem ha) _ (List.mem_map_of_mem hb)⟩⟩
theorem Lvs.extV {us : List Value} (h : Lvs e G w lo hi L) (hx : Ext (inV us) G w G' w') (ha : ∀ a ∈ us, ∀ b ∈ L.map (·.1), Apart a.ownBlock b.ownBlock) : Lvs e G' w' lo hi L :=
  h.map fun p hp ho => ho.extS hx fun k hk ⟨u, hu, hk'⟩ => ha u hu p.1 (List.mem_map_of_mem hp) k hk' hk
theorem Own.extV {α : Type} {E : Elt α} {et base : Nat} {v : Value} {xs : List α} {us : List Value} (h : Own E et G w base v xs) (hx : Ext (inV us) G w G' w') (ha : ∀ a ∈ us, Apart a.ownBlock v.ownBlock) : Own E et G' w' base v xs :=
  h.extS hx fun k hk ⟨u, hu, hk'⟩ => ha u hu k hk' hk
theorem Lvs.inR (h : Lvs e G w lo hi L) {us : List Value} (hu : ∀ u ∈ us, u ∈ L.map (·.1)) : ∀ k, inV us k → Go.GL.inR lo hi k := fun k ⟨u, hu', hk⟩ => by
  obtain ⟨p, hp, rfl⟩ := List.mem_map.1 (hu u hu')
  exact ⟨((h.own p hp).lt k hk).1, h.hi p hp k hk⟩
end
theorem lvL_fst {us : List Value} {l : List (List Int)} (h : us.length = l.length) : (lvL us l).map (·.1) = us := by
  unfold lvL; rw [List.map_fst_zip (by omega)]
theorem apl_fst {L : List Leaf} {us : List Value} {x : Option Nat} (h : ApL L x) (hl : L.map (·.1) = us) : ∀ a ∈ us, Apart a.ownBlock x := fun a ha => by
  subst hl
  obtain ⟨p, hp, rfl⟩ := List.mem_map.1 ha
  exact h p hp
theorem apl_of {L : List Leaf} {us : List Value} {x : Option Nat} (h : ∀ a ∈ us, Apart a.ownBlock x) (hl : L.map (·.1) = us) : ApL L x := fun p hp => h p.1 (by rw [← hl]; exact List.mem_map_of_mem hp)
theorem lvN_step {os : List (Value × Value)} {ns : List Nd} {j : Nat} {LV : List Leaf} {u v : Value} (h : LV = lvN (os.take j) (ns.take j)) (hj : j < ns.length) (hl : os.length = ns.length) :
    LV ++ [(u, (ns.getD j default).l)] ++ [(v, (ns.getD j default).r)] = lvN ((os.set j (u, v)).take (j + 1)) (ns.take (j + 1)) := by
  subst h
  have h1 : (os.set j (u, v)).take (j + 1) = os.take j ++ [(u, v)] := by
    rw [take_snoc (os.set j (u, v)) default (by simp; omega), List.take_set_of_le (Nat.le_refl _)]
    simp [List.getD, show j < os.length by omega]
  rw [h1, take_snoc ns default hj, lvN_snoc _ _ _ _ (by simp; omega)]
theorem lvN_perm : ∀ {us vs : List Value} {ns : List Nd}, us.length = ns.length → vs.length = ns.length → (lvN (us.zip vs) ns).Perm (lvL us (ns.map Nd.l) ++ lvL vs (ns.map Nd.r))
  | [], [], [], _, _ => List.Perm.refl _
  | u :: us, v :: vs, n :: ns, h1, h2 => by
    have ih := lvN_perm (us := us) (vs := vs) (ns := ns) (by simpa using h1) (by simpa using h2)
    have e1 : lvN ((u :: us).zip (v :: vs)) (n :: ns) = (u, n.l) :: (v, n.r) :: lvN (us.zip vs) ns := rfl
    have e2 : lvL (u :: us) ((n :: ns).map Nd.l) ++ lvL (v :: vs) ((n :: ns).map Nd.r) = (u, n.l) :: (lvL us (ns.map Nd.l) ++ (v, n.r) :: lvL vs (ns.map Nd.r)) := rfl
    rw [e1, e2]
    exact List.Perm.cons _ ((List.Perm.cons _ ih).trans List.perm_middle.symm)
  | [], v :: vs, [], _, h2 => by cases h2
  | u :: us, _, [], h1, _ => by cases h1
  | [], _, n :: ns, h1, _ => by cases h1
  | u :: us, [], n :: ns, _, h2 => by cases h2
/-- A step of the graph's making. -/
theorem lvN_zip {us vs : List Value} {ns : List Nd} {j : Nat} {LV : List Leaf} {u v : Value} (h : LV = lvN (us.zip vs) (ns.take j)) (hj : j < ns.length) (h1 : us.length = j) (h2 : vs.length = j) :
    LV ++ [(u, (ns.getD j default).l)] ++ [(v, (ns.getD j default).r)] = lvN ((us ++ [u]).zip (vs ++ [v])) (ns.take (j + 1)) := by
  subst h
  rw [take_snoc ns default hj, List.zip_append (by omega), List.zip_cons_cons, List.zip_nil_right, lvN_snoc _ _ _ _ (by simp; omega)]

/-! ### what LoopOf answers -/
noncomputable def lpOk (ns : List Nd) : Bool := goodB ns && decide (ns.length ≤ 36)
noncomputable def lpL (ns : List Nd) : List (List Int) := if lpOk ns = true then ns.map Nd.l else []
noncomputable def lpR (ns : List Nd) : List (List Int) := if lpOk ns = true then ns.map Nd.r else []
theorem lp_no {ns : List Nd} (h : goodB ns = false ∨ (36 : Int) < (ns.length : Int)) : lpOk ns = false ∧ lpL ns = [] ∧ lpR ns = [] := by
  have : lpOk ns = false := by
    unfold lpOk
    rcases h with h | h
    · rw [h]; rfl
    · rw [decide_eq_false (by omega)]; simp
  exact ⟨this, by unfold lpL; rw [this]; rfl, by unfold lpR; rw [this]; rfl⟩
theorem lp_yes {ns : List Nd} (h1 : goodB ns = true) (h2 : ¬ (36 : Int) < (ns.length : Int)) : lpOk ns = true ∧ lpL ns = ns.map Nd.l ∧ lpR ns = ns.map Nd.r := by
  have : lpOk ns = true := by unfold lpOk; rw [h1, decide_eq_true (by omega)]; rfl
  exact ⟨this, by unfold lpL; rw [this]; rfl, by unfold lpR; rw [this]; rfl⟩
theorem lp_len (ns : List Nd) (h : ns.length ≤ 1048576) : (lpL ns).length ≤ 1048576 ∧ (lpR ns).length ≤ 1048576 := by
  unfold lpL lpR; split <;> simp <;> omega

/-! ### for the walks -/
section
variable {en er e lo hi lo' hi' : Nat} {G Gx G' : Pin} {w w' : World} {u v : Value} {ns : List Nd} {ls rs : List (List Int)}
theorem mark_grown {u : Value} (h : Ext (inV [u]) G w G' w') : w.grownBy w' u.ownBlock :=
  ⟨h.os, h.tape, h.output, h.size, fun k hk hne => h.block k hk fun ⟨x, hx, hk'⟩ => by
    simp at hx; subst hx; exact hne hk'.symm⟩
theorem deep_back (hP : Pins G w) (hx : Ext noS Gx w G' w') : Ext noS G w G w' := ⟨Pin.le_refl _, hP.below hx.below, fun _ _ _ h => Or.inl h, hx.os, hx.tape, hx.output, hx.size, hx.block⟩
theorem DForm.wide (h : DForm en e G w lo hi v ns) (hl : lo' ≤ lo) (hh : hi ≤ hi') : DForm en e G w lo' hi' v ns := by
  obtain ⟨ps, h1, h2, h3, h4, h5⟩ := h.ex
  exact ⟨⟨ps, h1, h2.weaken hl, fun k hk => Nat.lt_of_lt_of_le (h3 k hk) hh, h4.weaken hl hh, h5⟩⟩
theorem DLoop.wide (h : DLoop er e G w lo hi u v ls rs) (hl : lo' ≤ lo) (hh : hi ≤ hi') : DLoop er e G w lo' hi' u v ls rs := by
  obtain ⟨us, vs, h1, h2, h3, h4, h5, h6, h7, h8, h9, h10⟩ := h.ex
  exact ⟨⟨us, vs, h1, h2, h3.weaken hl, h4.weaken hl, fun k hk => Nat.lt_of_lt_of_le (h5 k hk) hh, fun k hk => Nat.lt_of_lt_of_le (h6 k hk) hh, h7.weaken hl hh, h8, h9, h10⟩⟩
theorem DForm.one (h : DForm en e G w lo hi v ns) : v.oneCell' = true := by
  obtain ⟨ps, h1, h2, h3, h4, h5⟩ := h.ex
  exact h2.one
theorem DLoop.oneU (h : DLoop er e G w lo hi u v ls rs) : u.oneCell' = true := by
  obtain ⟨us, vs, h1, h2, h3, h4, h5⟩ := h.ex
  exact h3.one
theorem DLoop.oneV (h : DLoop er e G w lo hi u v ls rs) : v.oneCell' = true := by
  obtain ⟨us, vs, h1, h2, h3, h4, h5⟩ := h.ex
  exact h4.one
/-- What a mark of a form wants and turns. -/
theorem DForm.loose (h : DForm en e G w lo hi v ns) (hs : Small ns) : ∃ ps, Own eVal2 en G w 0 v ps ∧ LvF e G w lo hi 1048576 (leafV ps) ∧ (∀ u ∈ leafV ps, Apart u.ownBlock v.ownBlock) ∧ ps.length ≤ 1048576 ∧ ∀ k, inV (leafV ps) k → inR lo hi k := by
  obtain ⟨ps, h1, h2, h3, h4, h5⟩ := h.ex
  refine ⟨ps, h2.weaken (Nat.zero_le _), ⟨⟨_, lvN_fst h1, h4, lvN_len fun n hn => ?_⟩⟩, apl_fst h5 (lvN_fst h1), by rw [h1]; exact hs.len, h4.inR fun u hu => by rw [lvN_fst h1]; exact hu⟩
  obtain ⟨i, hi, rfl⟩ := List.getElem_of_mem hn
  have := hs.opts i hi
  simpa [List.getD, hi] using this
theorem DLoop.markL (h : DLoop er e G w lo hi u v ls rs) : ∃ us, Own eVal er G w 0 u us ∧ us.length = ls.length ∧ (∀ a ∈ us, Apart a.ownBlock u.ownBlock) ∧ Lvs e G w lo hi (lvL us ls) ∧ (∀ k, inV us k → inR lo hi k) ∧
    ∀ {w' : World} {ls' : List (List Int)}, ls'.length = ls.length → Lvs e G w' lo hi (lvL us ls') → Ext (inV us) G w G w' → DLoop er e G w' lo hi u v ls' rs := by
  obtain ⟨us, vs, h1, h2, h3, h4, h5, h6, h7, h8, h9, h10⟩ := h.ex
  have hu := lvL_fst h1
  have hau : ∀ a ∈ us, Apart a.ownBlock u.ownBlock := apl_fst (fun p hp => h8 p (List.mem_append_left _ hp)) hu
  have hav : ∀ a ∈ us, Apart a.ownBlock v.ownBlock := apl_fst (fun p hp => h9 p (List.mem_append_left _ hp)) hu
  refine ⟨us, h3.weaken (Nat.zero_le _), h1, hau, h7.left, h7.left.inR fun a ha => by rw [hu]; exact ha, fun hl hL hx => ?_⟩
  have hu' := lvL_fst (h1.trans hl.symm)
  have hc : ∀ a ∈ us, ∀ b ∈ (lvL vs rs).map (·.1), Apart a.ownBlock b.ownBlock := fun a ha => h7.cross a (by rw [hu]; exact ha)
  exact ⟨us, vs, h1.trans hl.symm, h2, h3.extV hx hau, h4.extV hx hav, h5, h6, hL.join (h7.right.extV hx hc) (fun a ha => hc a (by rw [← hu']; exact ha)),
    fun p hp => (List.mem_append.1 hp).elim (apl_of hau hu' p) fun hq => h8 p (List.mem_append_right _ hq), fun p hp => (List.mem_append.1 hp).elim (apl_of hav hu' p) fun hq => h9 p (List.mem_append_right _ hq), h10⟩
theorem DLoop.swap (h : DLoop er e G w lo hi u v ls rs) : DLoop er e G w lo hi v u rs ls := by
  obtain ⟨us, vs, h1, h2, h3, h4, h5, h6, h7, h8, h9, h10⟩ := h.ex
  exact ⟨⟨vs, us, h2, h1, h4, h3, h6, h5, h7.perm List.perm_append_comm, h9.perm List.perm_append_comm, h8.perm List.perm_append_comm, h10.symm⟩⟩
theorem DLoop.markR (h : DLoop er e G w lo hi u v ls rs) : ∃ us, Own eVal er G w 0 v us ∧ us.length = rs.length ∧ (∀ a ∈ us, Apart a.ownBlock v.ownBlock) ∧ Lvs e G w lo hi (lvL us rs) ∧ (∀ k, inV us k → inR lo hi k) ∧
    ∀ {w' : World} {rs' : List (List Int)}, rs'.length = rs.length → Lvs e G w' lo hi (lvL us rs') → Ext (inV us) G w G w' → DLoop er e G w' lo hi u v ls rs' := by
  obtain ⟨us, h1, h2, h3, h4, h5, h6⟩ := h.swap.markL
  exact ⟨us, h1, h2, h3, h4, h5, fun hl hL hx => (h6 hl hL hx).swap⟩
theorem Ext.back {S : Nat → Prop} (h : Ext S G w G' w') (hS : ∀ k, S k → inR lo hi k) : Ext (inR lo hi) G w G w' := ⟨Pin.le_refl _, fun b o u hu => h.pins b o u (h.le _ _ _ hu), fun _ _ _ hu => Or.inl hu, h.os, h.tape, h.output, h.size, fun k hk hs => h.block k hk fun x => hs (hS k x)⟩
/-- A graph of the call's own, promised. -/
theorem DLoop.give (h : DLoop er e G' w' w.heap.size w'.heap.size u v ls rs) (hx : Ext noS G w G' w') : ∃ G'', RSl (eSl eInt) G'' u ls ∧ RSl (eSl eInt) G'' v rs ∧ Ext noS G w G'' w' := by
  obtain ⟨G'', h1, h2, h3, h4, h5⟩ := h.read hx.pins
  refine ⟨G'', h3, h4, Pin.le_trans hx.le h1, h2, fun b o x hb => ?_, hx.os, hx.tape, hx.output, hx.size, hx.block⟩
  rcases h5 b o x hb with a | a
  · exact hx.fresh b o x a
  · exact Or.inr a
theorem lo_any {S : Nat → Prop} (hS : ∀ k, v.ownBlock = some k → S k) : Lo w S v.ownBlock := fun k hk => Or.inr (hS k hk)
theorem inL (h : Small ns) : ∀ x ∈ lpL ns, x.length ≤ 1048576 := fun x hx => by
  unfold lpL at hx
  split at hx
  · obtain ⟨n, hn, rfl⟩ := List.mem_map.1 hx
    obtain ⟨i, hi, rfl⟩ := List.getElem_of_mem hn
    have := (h.opts i hi).1
    simpa [List.getD, hi] using this
  · cases hx
theorem inRr (h : Small ns) : ∀ x ∈ lpR ns, x.length ≤ 1048576 := fun x hx => by
  unfold lpR at hx
  split at hx
  · obtain ⟨n, hn, rfl⟩ := List.mem_map.1 hx
    obtain ⟨i, hi, rfl⟩ := List.getElem_of_mem hn
    have := (h.opts i hi).2
    simpa [List.getD, hi] using this
  · cases hx
theorem lp_len36 (ns : List Nd) : (lpL ns).length ≤ 36 ∧ (lpR ns).length ≤ 36 := by
  unfold lpL lpR
  split
  · rename_i h
    unfold lpOk at h
    simp at h
    simp; omega
  · simp
theorem tot_le {l : List (List Int)} (h : ∀ x ∈ l, x.length ≤ 1048576) : tot l ≤ 1048576 * (l.length : Int) := by
  induction l with
  | nil => exact Int.le_refl _
  | cons x r ih =>
    have h1 := h x List.mem_cons_self
    have h2 := ih fun y hy => h y (List.mem_cons_of_mem _ hy)
    unfold tot
    simp only [List.length_cons]
    omega
end
theorem Ext.promise {S : Nat → Prop} {A G G' : Pin} {w0 w : World} {lo : Nat} (h : Ext S A w0 G w) (hl : Pin.le G G') (hp : Pins G' w) (hf : ∀ b o x, G' b o x → G b o x ∨ lo ≤ b) (hlo : w0.heap.size ≤ lo) : Ext S A w0 G' w :=
  ⟨Pin.le_trans h.le hl, hp, fun b o u hu => by
    rcases hf b o u hu with a | a
    · exact h.fresh b o u a
    · exact Or.inr (Nat.le_trans hlo a), h.os, h.tape, h.output, h.size, h.block⟩
end Go.GL
