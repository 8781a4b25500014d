/- Texts of this claim. -/
import Derived.Test.YtdleojbknkbpiaaGreatDoorFb2
import Derived.Lib.SliceRun
import Derived.Lib.Join
import Derived.Carry
import Derived.MapKept
import Derived.Laws.BytesString
import Derived.Sort.Row
import Derived.Sort.Grow
import Derived.Lib.SlicesCompact
import Derived.Shelf.SlSortCmp.NoneTotal
import Derived.Lib.QuietBelow
import Derived.Shelf.Sort.Plain
import Derived.Ground.Names2Prog
import Derived.Shelf.Slices.CompactI
import Derived.Shelf.Slices.In.SortNone
import Derived.Test.YtdleojbknkbpiaaGreatDoorProg
namespace Go.GL
open Go Go.RowKit
def eVal : Elt Value where
 size := 1
 rep := fun _ cs v => cs = [v] ∧ v.oneCell' = true
 mono := fun _ h => h
 len := fun h => by rw [h.1]; rfl
 one := fun h u hu => by rw [h.1] at hu; simp at hu; subst hu; exact h.2
def eVal2 : Elt (Value × Value) where
 size := 2
 rep := fun _ cs p => cs = [p.1, p.2] ∧ p.1.oneCell' = true ∧ p.2.oneCell' = true
 mono := fun _ h => h
 len := fun h => by rw [h.1]; rfl
 one := fun h u hu => by
  rw [h.1] at hu; simp at hu
  rcases hu with rfl | rfl
  ·exact h.2.1
  ·exact h.2.2
def Flat {α : Type} (E : Elt α) : Prop := ∀ {G G' : Pin} {cs : List Value} {x : α}, E.rep G cs x → E.rep G' cs x
theorem gZ : Flat eInt := fun h => h
theorem Own.anti {α : Type} {E : Elt α} {e base : Nat} {G G' : Pin} {w : World} {v : Value} {xs : List α} (hE : Flat E) (h : Own E e G' w base v xs) (hg : Pin.le G G') : Own E e G w base v xs := by
 obtain ⟨cells, h1, h2⟩ := h.ex
 exact ⟨⟨cells, h1, fun i x hx => hE (h2 i x hx)⟩, fun k hk o u hu => h.free k hk o u (hg _ _ _ hu)⟩
theorem RSl.conv {α β : Type} {E : Elt α} {F : Elt β} {G : Pin} {v : Value} {xs : List α} {ys : List β} (h : RSl E G v xs) (hl : ys.length = xs.length) (hs : F.size = E.size) (hr : ∀ (i : Nat) x y cs, xs[i]? = some x → ys[i]? = some y → E.rep G cs x → F.rep G cs y) : RSl F G v ys := by
 refine ⟨?_, fun i y hy => ?_⟩
 ·obtain ⟨a, c, h1, h2, h3⟩ := h.sl
  exact ⟨a, c, by rw [hl]; exact h1, by rw [hl]; exact h2, h3⟩
 ·have hi : i < xs.length := by have := (List.getElem?_eq_some_iff.1 hy).1; omega
  obtain ⟨a, b, o, n, c, cs, h1, h2, h3, h4⟩ := h.at_ i _ (List.getElem?_eq_getElem hi)
  exact ⟨a, b, o, n, c, cs, h1, by rw [hs]; exact h2, hr i _ y cs (List.getElem?_eq_getElem hi) hy h3, h4⟩
abbrev Leaf := Value × List Int
structure Lvs (e : Nat) (G : Pin) (w : World) (lo hi : Nat) (L : List Leaf) : Prop where
 own : ∀ p ∈ L, Own eInt e G w lo p.1 p.2
 hi : ∀ p ∈ L, ∀ k, p.1.ownBlock = some k → k < hi
 ap : L.Pairwise fun p q => Apart p.1.ownBlock q.1.ownBlock
def ApL (L : List Leaf) (x : Option Nat) : Prop := ∀ p ∈ L, Apart p.1.ownBlock x
section
variable {e lo hi : Nat} {G G' : Pin} {w w' : World} {L L' : List Leaf}
theorem Lvs.nil : Lvs e G w lo hi [] := ⟨fun _ hp => (List.not_mem_nil hp).elim, fun _ hp => (List.not_mem_nil hp).elim, List.Pairwise.nil⟩
theorem ApL.nil {x : Option Nat} : ApL [] x := fun _ hp => (List.not_mem_nil hp).elim
theorem Lvs.ge (h : Lvs e G w lo hi L) : ∀ p ∈ L, ∀ k, p.1.ownBlock = some k → lo ≤ k ∧ k < w.heap.size := fun p hp k hk => (h.own p hp).lt k hk
theorem Lvs.map (h : Lvs e G w lo hi L) (f : ∀ p ∈ L, Own eInt e G w lo p.1 p.2 → Own eInt e G' w' lo p.1 p.2) : Lvs e G' w' lo hi L := ⟨fun p hp => f p hp (h.own p hp), h.hi, h.ap⟩
theorem Lvs.below (h : Lvs e G w lo hi L) (hb : Below w.heap.size w w') : Lvs e G w' lo hi L := h.map fun _ _ ho => ho.below hb
theorem Lvs.ext (h : Lvs e G w lo hi L) (hx : Ext noS G w G' w') : Lvs e G' w' lo hi L := h.map fun _ _ ho => ho.ext hx
variable {xs : List Int}
theorem Lvs.extS {S : Nat → Prop} (h : Lvs e G w lo hi L) (hx : Ext S G w G' w') (hS : ∀ k, lo ≤ k → k < hi → ¬ S k) : Lvs e G' w' lo hi L :=
 h.map fun p hp ho => ho.extS hx fun k hk => hS k (ho.lt k hk).1 (h.hi p hp k hk)
theorem Lvs.kept {row : Option Nat} (h : Lvs e G w lo hi L) (hg : w.grownBy w' row) (ha : ApL L row) : Lvs e G w' lo hi L := h.map fun p hp ho => ho.keptA hg (ha p hp)
theorem Lvs.weaken {lo' hi' : Nat} (h : Lvs e G w lo hi L) (hl : lo' ≤ lo) (hh : hi ≤ hi') : Lvs e G w lo' hi' L :=
 ⟨fun p hp => (h.own p hp).weaken hl, fun p hp k hk => Nat.lt_of_lt_of_le (h.hi p hp k hk) hh, h.ap⟩
theorem Lvs.top (h : Lvs e G w lo hi L) : Lvs e G w lo w.heap.size L := ⟨h.own, fun p hp k hk => ((h.own p hp).lt k hk).2, h.ap⟩
theorem Lvs.add {u : Value} (h : Lvs e G w lo w.heap.size L) (ho : Own eInt e G w lo u xs) (ha : ApL L u.ownBlock) : Lvs e G w lo w.heap.size (L ++ [(u, xs)]) := by
 refine ⟨fun p hp => ?_, fun p hp k hk => ?_, ?_⟩
 ·rcases List.mem_append.1 hp with h1 | h1
  ·exact h.own p h1
  ·simp at h1; subst h1; exact ho
 ·rcases List.mem_append.1 hp with h1 | h1
  ·exact h.hi p h1 k hk
  ·simp at h1; subst h1; exact (ho.lt k hk).2
 ·refine List.pairwise_append.2 ⟨h.ap, by simp, fun a ha' b hb => ?_⟩
  simp at hb; subst hb; exact ha a ha'
theorem ApL.add {u : Value} {x : Option Nat} (h : ApL L x) (hu : Apart u.ownBlock x) : ApL (L ++ [(u, xs)]) x := fun p hp => by
 rcases List.mem_append.1 hp with h1 | h1
 ·exact h p h1
 ·simp at h1; subst h1; exact hu
theorem ApL.fresh {x : Option Nat} (h : Lvs e G w lo hi L) (hx : ∀ k, x = some k → w.heap.size ≤ k) : ApL L x := fun p hp k hk hk' => by
 have h1 := ((h.own p hp).lt k hk).2; have h2 := hx k hk'; omega
theorem ApL.app {u v : Value} (h : Lvs e G w lo hi L) (ha : ApL L u.ownBlock) (hw : v.ownBlock = u.ownBlock ∨ ∃ k, v.ownBlock = some k ∧ w.heap.size ≤ k) : ApL L v.ownBlock := fun p hp =>
 zJ (ha p hp) hw (fun k hk => (h.own p hp).lt k hk)
def GLv (G : Pin) (w : World) (L : List Leaf) : Pin := fun b o u => G b o u ∨ ((∃ p ∈ L, p.1.ownBlock = some b) ∧ w.cell? ⟨b, o, none⟩ = some u)
theorem GLv.le : Pin.le G (GLv G w L) := fun _ _ _ h => cE h
theorem GLv.pins (h : Pins G w) : Pins (GLv G w L) w := fun b o u hu => by
 rcases hu with hu | hu
 ·exact h b o u hu
 ·exact hu.2
theorem Lvs.read (h : Lvs e G w lo hi L) {p : Leaf} (hp : p ∈ L) : RSl eInt (GLv G w L) p.1 p.2 :=
 (h.own p hp).read.mono fun b o u hu => by
  rcases hu with h1 | h1
  ·exact cE h1
  ·exact cF ⟨⟨p, hp, h1.1⟩, h1.2⟩
theorem GLv.new (h : Lvs e G w lo hi L) {b o : Nat} {u : Value} (hu : GLv G w L b o u) : G b o u ∨ (lo ≤ b ∧ b < hi) := by
 rcases hu with h1 | ⟨⟨p, hp, h1⟩, _⟩
 ·exact cE h1
 ·exact cF ⟨((h.own p hp).lt b h1).1, h.hi p hp b h1⟩
end
def lvN (ps : List (Value × Value)) (ns : List Nd) : List Leaf := (ps.zip ns).flatMap fun q => [(q.1.1, q.2.l), (q.1.2, q.2.r)]
structure DForm (en e : Nat) (G : Pin) (w : World) (lo hi : Nat) (v : Value) (ns : List Nd) : Prop where
 ex : ∃ ps, ps.length = ns.length ∧ Own eVal2 en G w lo v ps ∧ (∀ k, v.ownBlock = some k → k < hi) ∧ Lvs e G w lo hi (lvN ps ns) ∧ ApL (lvN ps ns) v.ownBlock
theorem lvN_snoc (ps : List (Value × Value)) (ns : List Nd) (p : Value × Value) (n : Nd) (h : ps.length = ns.length) : lvN (ps ++ [p]) (ns ++ [n]) = lvN ps ns ++ [(p.1, n.l)] ++ [(p.2, n.r)] := by
 unfold lvN
 rw [List.zip_append h, List.flatMap_append, List.append_assoc]; rfl
theorem sC {ps : List (Value × Value)} {ns : List Nd} {i : Nat} {p : Value × Value} {n : Nd} (hp : ps[i]? = some p) (hn : ns[i]? = some n) : (p.1, n.l) ∈ lvN ps ns ∧ (p.2, n.r) ∈ lvN ps ns := by
 have : (p, n) ∈ ps.zip ns := List.mem_of_getElem? (i := i) (by rw [List.getElem?_zip_eq_some]; exact ⟨hp, hn⟩)
 unfold lvN
 exact ⟨List.mem_flatMap.2 ⟨_, this, by simp⟩, List.mem_flatMap.2 ⟨_, this, by simp⟩⟩
theorem Own.up {α : Type} {E : Elt α} {e base lo : Nat} {G : Pin} {w : World} {v : Value} {xs : List α} (h : Own E e G w base v xs) (hl : ∀ k, v.ownBlock = some k → lo ≤ k) : Own E e G w lo v xs := by
 obtain ⟨cells, ⟨hc, hown⟩, hr⟩ := h.ex
 refine ⟨⟨cells, ⟨hc, ?_⟩, hr⟩, h.free⟩
 rcases hown with hn | ⟨g, cap, cur, h1, h2, h3⟩
 ·exact .inl hn
 ·exact .inr ⟨g, cap, cur, h1, hl g (by rw [h1]; rfl), h3⟩
def inR (lo hi : Nat) (k : Nat) : Prop := lo ≤ k ∧ k < hi
section
variable {P : Program} {ρ : Operand → Value} {w : World} {d : Option Nat} {t e ty t' : Nat} {pos : String} {aft : Array Edge} {g : Option (Nat × Bool)} {x y : Operand}
def nilSl : Value → Bool
 | .slice none _ _ => true
 | _ => false
theorem r_eqlNil {α : Type} {E : Elt α} {G : Pin} {v : Value} {xs : List α} (ht : P.underlying t = some (.slice e)) (hv : RSl E G v xs) (hx : ρ x = v) (hy : ρ y = .slice none 0 0) :
  (execOp ρ ⟨d, .binOp .eql t x y t', ty, pos, aft, g⟩).run P w = .ok (.value (.bool (nilSl v))) w := by
 obtain ⟨a, c, rfl, _⟩ := hv.sl
 have h := Go.Lib.run_eql_slice_nil (P := P) w t e a xs.length c 0 0 ht
 simp only [execOp, hx, hy]
 cases a <;> simp [eqGuard, nilSl, h]
theorem nil_of {α : Type} {E : Elt α} {G : Pin} {v : Value} {xs : List α} (hv : RSl E G v xs) (h : nilSl v = true) : xs = [] := by
 match xs, hv with
 | [], _ => rfl
 | x :: r, hv =>
  obtain ⟨a, b, o, n, c, cs, h1, _⟩ := hv.at_ 0 x rfl
  rw [h1] at h; cases h
end
theorem tB {P : Program} {n : Nat} {env : Nat → Value} {w : World} {fn : Func} {R : Ending → World → Prop} {s t b i : Nat} {cs : List Value} {v : Value} (hr : fn.results = #[.cell s t, .tmp i]) (hs : Nat.blt s n = true) (hi : Nat.blt i n = true) (hv : env s = .pointer (some ⟨b, 0, none⟩)) (hiv : env i = v) (ha : (P.underlying t).map aggD = some true) (hz : (P.info? t).map (·.size) = some cs.length)
  (hc : ∀ j u, cs[j]? = some u → w.cell? ⟨b, 0 + j, none⟩ = some u) (h : R (.returned (.tuple #[.agg cs.toArray, v])) w) : bodyPost P fn R .ret (F n env) w := by
 have h2 : s < n := by simpa [Nat.blt_eq] using hs
 have h3 : i < n := by simpa [Nat.blt_eq] using hi
 have hcell : ∀ j u, cs[j]? = some u → w.cell? ((⟨b, 0, none⟩ : Addr).add j) = some u := fun j u hj => by
  have := hc j u hj
  simp only [Addr.add]
  split
  ·simp_all
  ·exact this
 have hlv : (loadVar t ⟨b, 0, none⟩).run P w = .ok (.agg cs.toArray) w := by
  unfold loadVar
  simp only [Sem.run_bind, jH ha, Result.andThen_ok, if_true, xP hz, run_loadCells_list (P := P) w ⟨b, 0, none⟩ cs hcell, Sem.run_pure]
 refine bodyPost_ret (v := .tuple #[.agg cs.toArray, v]) ?_ rfl h
 have he : (F n env).tmps[s]?.getD undef = .pointer (some ⟨b, 0, none⟩) := by simp [F, h2, hv]
 have he2 : (F n env).tmps[i]?.getD undef = v := by simp [F, h3, hiv]
 simp [results, hr, he, he2, asAddr, hlv]
section
variable {en er e lo hi lo' hi' : Nat} {G Gx G' : Pin} {w w' : World} {u v : Value} {ns : List Nd} {ls rs : List (List Int)}
theorem tQ (hP : Pins G w) (hx : Ext noS Gx w G' w') : Ext noS G w G w' := ⟨cI _, hP.below hx.below, fun _ _ _ h => cE h, hx.os, hx.tape, hx.output, hx.size, hx.block⟩
end
theorem Ext.promise {S : Nat → Prop} {A G G' : Pin} {w0 w : World} {lo : Nat} (h : Ext S A w0 G w) (hl : Pin.le G G') (hp : Pins G' w) (hf : ∀ b o x, G' b o x → G b o x ∨ lo ≤ b) (hlo : w0.heap.size ≤ lo) : Ext S A w0 G' w :=
 ⟨cA h.le hl, hp, fun b o u hu => by
  rcases hf b o u hu with a | a
  ·exact h.fresh b o u a
  ·exact cF (cP hlo a), h.os, h.tape, h.output, h.size, h.block⟩
section
variable {P : Program} {ρ : Operand → Value} {w : World} {d : Option Nat} {t e ty : Nat} {pos : String} {aft : Array Edge} {g : Option (Nat × Bool)} {x y : Operand}
variable {m : Nat}
theorem rB {t' : Nat} {p : Bool} (ht : P.underlying t = some .bool) (hx : ρ x = .bool p) (hy : ρ y = .bool p) : (execOp ρ ⟨d, .binOp .neq t x y t', ty, pos, aft, g⟩).run P w = .ok (.value (.bool false)) w := by
 rw [r_neqB ht hx hy]; simp
def pick2 {α : Type} (s : Nat) (xs ys : α) : α := if s = 0 then xs else ys
theorem kI {parts : Array (Nat × Operand)} {n : Nat} {z : Value} (zs cs : List Value) (ps : List (Nat × Value × List Value)) (ht : P.underlying t = some (.array n e)) (hz : (P.info? t).bind (·.zero) = some z) (hzc : z.cells.toList = zs)
  (he : (P.info? e).map (·.size) = some m) (hpt : (parts.toList.map fun (i, x) => (i, ρ x)) = ps.map fun p => (p.1, p.2.1)) (hc : ∀ p ∈ ps, p.2.1.cells = p.2.2.toArray)
  (hf : fillL (fun i => some (i * m, m)) zs (ps.map fun p => (p.1, p.2.2)) = some cs) :
  (execOp ρ ⟨d, .build t parts, ty, pos, aft, g⟩).run P w = .ok (.value (.agg cs.toArray)) w := by
 obtain ⟨it, hit, hzz⟩ := Option.bind_eq_some_iff.1 hz
 obtain ⟨ie, hie, hm⟩ := Option.map_eq_some_iff.1 he
 subst hm
 have hb : P.built t (parts.map fun (i, x) => (i, ρ x)).toList = some cs.toArray := by
  unfold Program.built
  rw [hit, ht]
  simp only [hzz, hie]
  rw [Array.toList_map, hpt]
  have := gC hc hf
  rw [← hzc] at this
  exact this
 have := Go.run_build (P := P) w t (parts.map fun (i, x) => (i, ρ x)) cs.toArray hb
 simp [execOp, this]
theorem r_idxb {b o n k : Nat} {z : Int} (ht : P.underlying t = some (.array n e)) (hs : (P.info? e).map (·.size) = some m) (hx : ρ x = .pointer (some ⟨b, o, none⟩)) (hy : ρ y = .int .i64 z) (h0 : 0 ≤ z) (h1 : z < n) (hk : o + z.toNat * m = k) :
  (execOp ρ ⟨d, .indexAddr t x y, ty, pos, aft, g⟩).run P w = .ok (.value (.pointer (some ⟨b, k, none⟩))) w := by
 subst hk
 have hadd : (⟨b, o, none⟩ : Addr).add (z.toNat * m) = ⟨b, o + z.toNat * m, none⟩ := by
  simp only [Addr.add]
  split <;> simp_all
 simp [execOp, hx, hy, Instr.indexAt, asIntOf, Instr.sureAddr, run_underlying ht, h0, h1, xP hs, hadd]
end
variable {ns : List Nd} {i : Nat}
theorem GoodP.optsOk (hg : GoodP ns) : OptsOk ns := pV hg.opts
theorem gS {l : List Int} {b : Int} (h : goodOpts l b = true) : l.length ≤ 24 := by
 unfold goodOpts at h
 split at h
 ·cases h
 ·omega
theorem GoodP.lenl (hg : GoodP ns) (hi : i < ns.length) : (ns.getD i default).l.length ≤ 24 := gS (hg.opts i hi).1
theorem GoodP.lenr (hg : GoodP ns) (hi : i < ns.length) : (ns.getD i default).r.length ≤ 24 := gS (hg.opts i hi).2
end Go.GL
namespace Go.GL
open Go Go.RowKit
section
variable {en e lo hi : Nat} {G G' : Pin} {w w' : World} {v : Value} {ns : List Nd}
theorem DForm.extS {S : Nat → Prop} (h : DForm en e G w lo hi v ns) (hx : Ext S G w G' w') (hS : ∀ k, lo ≤ k → k < hi → ¬ S k) : DForm en e G' w' lo hi v ns := by
 obtain ⟨ps, h1, h2, h3, h4, h5⟩ := h.ex
 exact ⟨⟨ps, h1, h2.extS hx (fun k hk => hS k (h2.lt k hk).1 (h3 k hk)), h3, h4.extS hx hS, h5⟩⟩
end
def DCh (en e : Nat) (G : Pin) (w : World) (R : Option Nat) : Nat → Nat → List Value → List (List Nd) → Prop
 | lo, hi, [], [] => lo ≤ hi
 | lo, hi, u :: us, f :: fs => ∃ l m, lo ≤ l ∧ l ≤ m ∧ (∀ b, R = some b → m ≤ b ∨ b < l) ∧ DForm en e G w l m u f ∧ DCh en e G w R m hi us fs
 | _, _, _, _ => False
section
variable {en e : Nat} {G G' : Pin} {w w' : World} {R R' : Option Nat}
theorem DCh.le : ∀ {lo hi : Nat} {us : List Value} {fs : List (List Nd)}, DCh en e G w R lo hi us fs → lo ≤ hi
 | _, _, [], [], h => h
 | _, _, _ :: _, _ :: _, ⟨_, _, h1, h2, _, _, h3⟩ => cP (cP h1 h2) h3.le
 | _, _, [], _ :: _, h => h.elim
 | _, _, _ :: _, [], h => h.elim
theorem DCh.map : ∀ {lo hi : Nat} {us : List Value} {fs : List (List Nd)}, DCh en e G w R lo hi us fs → (∀ l m u f, lo ≤ l → m ≤ hi → (∀ b, R = some b → m ≤ b ∨ b < l) → DForm en e G w l m u f → DForm en e G' w' l m u f) → DCh en e G' w' R lo hi us fs
 | _, _, [], [], h, _ => h
 | lo, hi, u :: us, f :: fs, ⟨l, m, h1, h0, hr, h2, h3⟩, hf => ⟨l, m, h1, h0, hr, hf _ _ _ _ h1 h3.le hr h2, h3.map fun l k u f hl hk hd => hf l k u f (by omega) hk hd⟩
 | _, _, [], _ :: _, h, _ => h.elim
 | _, _, _ :: _, [], h, _ => h.elim
end
theorem qS {ns : List Nd} (hg : GoodP ns) : FormOk ns := fP (good_iff.2 hg).fits (good_iff.2 hg).rise
section
variable {en ef e lo hi lo' hi' : Nat} {G G' : Pin} {w w' : World} {v : Value} {ns : List Nd} {us : List Value} {fs : List (List Nd)} {R : Option Nat}
theorem DCh.at : ∀ {lo hi j : Nat} {us : List Value} {fs : List (List Nd)}, DCh en e G w R lo hi us fs → j < fs.length → ∃ l m, lo ≤ l ∧ m ≤ hi ∧ (∀ b, R = some b → m ≤ b ∨ b < l) ∧ DForm en e G w l m (us.getD j default) (fs.getD j []) ∧
  ∀ {w' : World} {f' : List Nd}, Ext (inR l m) G w G w' → DForm en e G w' l m (us.getD j default) f' → DCh en e G w' R lo hi us (fs.set j f')
 | lo, hi, 0, u :: us, f :: fs, ⟨l, m, h1, h0, hr, h2, h3⟩, _ => ⟨l, m, h1, h3.le, hr, h2, fun hx hd => ⟨l, m, h1, h0, hr, hd, h3.map fun _ _ _ _ hl _ _ hq => hq.extS hx fun k n _ a => by have := a.2; omega⟩⟩
 | lo, hi, j + 1, u :: us, f :: fs, ⟨l0, m0, h1, h0, hr, h2, h3⟩, hj => by
  obtain ⟨l, k, o, c, d, g, i⟩ := h3.at (j := j) (by simpa using hj)
  exact ⟨l, k, by omega, c, d, by simpa using g, fun hx hd => ⟨l0, m0, h1, h0, hr, h2.extS hx fun q _ p a => by have := a.1; omega, i hx (by simpa using hd)⟩⟩
 | _, _, _, [], [], _, hj => (by simp at hj)
 | _, _, _, [], _ :: _, h, _ => h.elim
 | _, _, _, _ :: _, [], h, _ => h.elim
end
variable {j : Nat}
theorem cur_set {α : Type} {A B : List α} {x : α} (d : α) (hl : A.length = B.length) (h : j < B.length) (hx : A.getD j d = x) : (A.take j ++ B.drop j).set j x = A.take (j + 1) ++ B.drop (j + 1) := by
 subst hx
 rw [List.set_append_right _ _ (by simp; omega), yW B d h, jF A d (by omega), show j - (List.take j A).length = 0 by simp; omega, List.set_cons_zero, List.append_assoc]; rfl
theorem cur_end {α : Type} {A B : List α} (hl : A.length = B.length) (h : B.length ≤ j) : A.take j ++ B.drop j = A := by
 rw [List.drop_eq_nil_of_le h, List.append_nil, List.take_of_length_le (by omega)]
end Go.GL
namespace Go.GL
variable {k : Nat}
theorem vS {l : List Int} : ∀ {is : List Bool}, is.getD k false = true → (setAll is l).getD k false = true := by
 induction l with
 | nil => intro is h; exact h
 | cons x r ih =>
  intro is h
  refine ih (is := is.set x.toNat true) ?_
  rw [List.getD, List.getElem?_set]
  split
  ·split
   ·rfl
   ·rename_i h1 h2; subst h1; simp [List.getD, Nat.le_of_not_lt h2] at h
  ·exact h
theorem rV {l : List Int} {k : Int} : ∀ {is : List Bool}, k ∈ l → k.toNat < is.length → (setAll is l).getD k.toNat false = true := by
 induction l with
 | nil => intro is h; cases h
 | cons x r ih =>
  intro is h hk
  cases h with
  | head => exact vS (is := is.set k.toNat true) (by simp [List.getD, hk])
  | tail _ h => exact ih (is := is.set x.toNat true) h (by simpa using hk)
theorem gJ {l : List Int} {z : Nat} : ∀ {is : List Bool}, (∀ k ∈ l, k.toNat ≠ z) → (setAll is l).getD z false = is.getD z false := by
 induction l with
 | nil => intro is _; rfl
 | cons x r ih =>
  intro is h
  have h1 := ih (is := is.set x.toNat true) fun k hk => h k (List.mem_cons_of_mem _ hk)
  have h2 := h x List.mem_cons_self
  refine h1.trans ?_
  simp [List.getD, List.getElem?_set_ne h2]
theorem ustep_mono {ns : List Nd} {is : List Bool} {i : Nat} (h : is.getD k false = true) : (ustep ns is i).getD k false = true := by
 unfold ustep; split
 ·exact vS (vS h)
 ·exact h
theorem fD {ns : List Nd} : ∀ {q : Nat} {is : List Bool} {k : Nat}, is.getD k false = true → (ugo ns q is).getD k false = true
 | 0, _, _, h => h
 | q + 1, is, _, h => fD (q := q) (is := ustep ns is q) (ustep_mono h)
section
variable {ns : List Nd} (ho : OptsOk ns)
include ho
theorem rS {is : List Bool} {i z : Nat} (hi : i < ns.length) (hz : i ≤ z) : (ustep ns is i).getD z false = is.getD z false := by
 have o := xI ho hi
 unfold ustep; split
 ·rw [gJ fun k hk => by have := o.2 k hk; omega, gJ fun k hk => by have := o.1 k hk; omega]
 ·rfl
theorem eJ : ∀ {q : Nat} {is : List Bool} {z : Nat}, q ≤ ns.length → q ≤ z + 1 → (ugo ns q is).getD z false = is.getD z false
 | 0, _, _, _, _ => rfl
 | q + 1, is, z, h, hz => (eJ (q := q) (is := ustep ns is q) (by omega) (by omega)).trans (rS ho (by omega) (by omega))
theorem rT : ∀ {q : Nat} {is : List Bool}, q ≤ ns.length → q ≤ is.length → ∀ z, z < q → (ugo ns q is).getD z false = true →
  (∀ o ∈ (ns.getD z default).l, (ugo ns q is).getD o.toNat false = true) ∧ (∀ o ∈ (ns.getD z default).r, (ugo ns q is).getD o.toNat false = true)
 | 0, _, _, _, z, hz, _ => absurd hz (cJ z)
 | q + 1, is, h, hl, z, hz, hu => by
  have hul : (ustep ns is q).length = is.length := by
   unfold ustep; split
   ·rw [jA, jA]
   ·rfl
  by_cases he : z = q
  ·subst he
   have hu2 : is.getD z false = true := by
    rw [← rS ho (i := z) (z := z) (is := is) (by omega) (cG _), ← eJ ho (q := z) (is := ustep ns is z) (by omega) (by omega)]
    exact hu
   have o := xI ho (k := z) (by omega)
   have e : ustep ns is z = setAll (setAll is (ns.getD z default).l) (ns.getD z default).r := fL hu2
   refine ⟨fun x hx => fD (q := z) (is := ustep ns is z) ?_, fun x hx => fD (q := z) (is := ustep ns is z) ?_⟩
   ·rw [e]; exact vS (rV hx (by have := o.1 x hx; omega))
   ·rw [e]; exact rV hx (by rw [jA]; have := o.2 x hx; omega)
  ·exact rT (q := q) (is := ustep ns is q) (by omega) (by omega) z (by omega) hu
end
theorem fT : ∀ {a b : List Int}, a.Pairwise (· < ·) → b.Pairwise (· < ·) → (∀ z, z ∈ a ↔ z ∈ b) → a = b
 | [], [], _, _, _ => rfl
 | [], y :: b, _, _, h => by have := (h y).2 List.mem_cons_self; cases this
 | x :: a, [], _, _, h => by have := (h x).1 List.mem_cons_self; cases this
 | x :: a, y :: b, ha, hb, h => by
  have ha' := List.pairwise_cons.1 ha; have hb' := List.pairwise_cons.1 hb
  have e : x = y := by
   have h1 := (h x).1 List.mem_cons_self; have h2 := (h y).2 List.mem_cons_self
   cases h1 with
   | head => rfl
   | tail _ h1 =>
    cases h2 with
    | head => rfl
    | tail _ h2 => have := ha'.1 y h2; have := hb'.1 x h1; omega
  subst e
  congr 1
  refine fT ha'.2 hb'.2 fun z => ⟨fun hz => ?_, fun hz => ?_⟩
  ·have := (h z).1 (List.mem_cons_of_mem _ hz)
   cases this with
   | head => have := ha'.1 _ hz; omega
   | tail _ h1 => exact h1
  ·have := (h z).2 (List.mem_cons_of_mem _ hz)
   cases this with
   | head => have := hb'.1 _ hz; omega
   | tail _ h1 => exact h1
end Go.GL
namespace Go.GL
def loG (g i : Nat) : Prop := g.testBit (2 * i) = true
def roG (g i : Nat) : Prop := g.testBit (2 * i + 1) = true
variable {g i a b : Nat}
theorem bit_lt {k : Nat} (h : g.testBit k = true) : k < g := Nat.lt_of_lt_of_le Nat.lt_two_pow_self (Nat.ge_two_pow_of_testBit h)
theorem loG.lt (h : loG g i) : i < g := by have := bit_lt h; omega
theorem roG.lt (h : roG g i) : i < g := by have := bit_lt h; omega
theorem gext (hl : ∀ i, loG a i ↔ loG b i) (hr : ∀ i, roG a i ↔ roG b i) : a = b := by
 apply Nat.eq_of_testBit_eq
 intro k
 rcases Nat.mod_two_eq_zero_or_one k with h | h
 ·have e : k = 2 * (k / 2) := by omega
  have := hl (k / 2)
  unfold loG at this
  rw [← e] at this
  exact Bool.eq_iff_iff.2 this
 ·have e : k = 2 * (k / 2) + 1 := by omega
  have := hr (k / 2)
  unfold roG at this
  rw [← e] at this
  exact Bool.eq_iff_iff.2 this
def lefts (g : Nat) : List Nat := (List.range g).filter fun i => g.testBit (2 * i)
def rights (g : Nat) : List Nat := (List.range g).filter fun i => g.testBit (2 * i + 1)
theorem memG_l : i ∈ lefts g ↔ loG g i := by
 unfold lefts
 rw [List.mem_filter, List.mem_range]
 exact ⟨fun h => h.2, fun h => ⟨loG.lt h, h⟩⟩
theorem memG_r : i ∈ rights g ↔ roG g i := by
 unfold rights
 rw [List.mem_filter, List.mem_range]
 exact ⟨fun h => h.2, fun h => ⟨roG.lt h, h⟩⟩
def bitsG : List Nat → Nat
 | [] => 0
 | k :: l => 2 ^ k ||| bitsG l
theorem eE {k : Nat} : ∀ {l : List Nat}, (bitsG l).testBit k = true ↔ k ∈ l
 | [] => by simp [bitsG]
 | x :: l => by
  unfold bitsG
  rw [Nat.testBit_or, Bool.or_eq_true, eE (l := l), Nat.testBit_two_pow]
  simp only [decide_eq_true_eq, List.mem_cons]
  constructor
  ·rintro (h | h)
   ·exact cE h.symm
   ·exact cF h
  ·rintro (h | h)
   ·exact cE h.symm
   ·exact cF h
def mkG (l r : List Nat) : Nat := bitsG (l.map (2 * ·) ++ r.map (2 * · + 1))
theorem lo_mk {l r : List Nat} : loG (mkG l r) i ↔ i ∈ l := by
 unfold loG mkG
 rw [eE, List.mem_append, List.mem_map, List.mem_map]
 constructor
 ·rintro (⟨a, ha, e⟩ | ⟨a, ha, e⟩)
  ·have : a = i := by omega
   rwa [← this]
  ·omega
 ·exact fun h => cE ⟨i, h, rfl⟩
theorem ro_mk {l r : List Nat} : roG (mkG l r) i ↔ i ∈ r := by
 unfold roG mkG
 rw [eE, List.mem_append, List.mem_map, List.mem_map]
 constructor
 ·rintro (⟨a, ha, e⟩ | ⟨a, ha, e⟩)
  ·omega
  ·have : a = i := by omega
   rwa [← this]
 ·exact fun h => cF ⟨i, h, rfl⟩
theorem mF {l r l' r' : List Nat} (hl : ∀ i, i ∈ l ↔ i ∈ l') (hr : ∀ i, i ∈ r ↔ i ∈ r') : mkG l r = mkG l' r' :=
 gext (fun i => by rw [lo_mk, lo_mk]; exact hl i) (fun i => by rw [ro_mk, ro_mk]; exact hr i)
def geG (a b : Nat) : Prop := (∀ r, (_h : roG a r) → ¬ geG b r) ∧ (∀ l, (_h : loG b l) → ¬ geG l a)
termination_by a + b
decreasing_by
 ·have := _h.lt; omega
 ·have := _h.lt; omega
theorem ge_iff : geG a b ↔ (∀ r, roG a r → ¬ geG b r) ∧ (∀ l, loG b l → ¬ geG l a) := by
 rw [geG]
theorem ge_not (h : ¬ geG a b) : (∃ r, roG a r ∧ geG b r) ∨ ∃ l, loG b l ∧ geG l a := by
 rw [ge_iff] at h
 by_cases h1 : ∃ r, roG a r ∧ geG b r
 ·exact cE h1
 ·right
  apply Classical.byContradiction
  intro h2
  exact h ⟨fun r hr hg => h1 ⟨r, hr, hg⟩, fun l hl hg => h2 ⟨l, hl, hg⟩⟩
theorem ge_refl (a : Nat) : geG a a := by
 induction a using Nat.strongRecOn with
 | _ a ih =>
  rw [ge_iff]
  refine ⟨fun r hr hg => ?_, fun l hl hg => ?_⟩
  ·exact (ge_iff.1 hg).1 r hr (ih r hr.lt)
  ·exact (ge_iff.1 hg).2 l hl (ih l hl.lt)
def eqG (a b : Nat) : Prop := geG a b ∧ geG b a
def negG (g : Nat) : Nat := mkG ((rights g).attach.map fun ⟨i, _h⟩ => negG i) ((lefts g).attach.map fun ⟨i, _h⟩ => negG i)
termination_by g
decreasing_by
 ·exact (memG_r.1 _h).lt
 ·exact (memG_l.1 _h).lt
def addG (a b : Nat) : Nat :=
 mkG (((lefts a).attach.map fun ⟨i, _h⟩ => addG i b) ++ (lefts b).attach.map fun ⟨i, _h⟩ => addG a i)
  (((rights a).attach.map fun ⟨i, _h⟩ => addG i b) ++ (rights b).attach.map fun ⟨i, _h⟩ => addG a i)
termination_by a + b
decreasing_by
 ·have := (memG_l.1 _h).lt; omega
 ·have := (memG_l.1 _h).lt; omega
 ·have := (memG_r.1 _h).lt; omega
 ·have := (memG_r.1 _h).lt; omega
def NoDom (g : Nat) : Prop := (∀ a b, loG g a → loG g b → geG a b → a = b) ∧ (∀ a b, roG g a → roG g b → geG a b → a = b)
def NoRev (g : Nat) : Prop := (∀ l r, loG g l → roG l r → ¬ geG g r) ∧ (∀ r l, roG g r → loG r l → ¬ geG l g)
def CanonG (g : Nat) : Prop := NoDom g ∧ NoRev g ∧ (∀ l, (_h : loG g l) → CanonG l) ∧ (∀ r, (_h : roG g r) → CanonG r)
termination_by g
decreasing_by
 ·exact _h.lt
 ·exact _h.lt
end Go.GL
namespace Go.GL
def stepD (acc : List Nat) (n : Nd) : List Nat := acc ++ [mkG (n.l.map fun z => acc.getD z.toNat 0) (n.r.map fun z => acc.getD z.toNat 0)]
def dens (ns : List Nd) : List Nat := ns.foldl stepD []
def den (ns : List Nd) (k : Nat) : Nat := (dens ns).getD k 0
theorem mP : ∀ (ns : List Nd) (acc : List Nat), (ns.foldl stepD acc).length = acc.length + ns.length
 | [], acc => by simp
 | n :: ns, acc => by rw [List.foldl_cons, mP ns]; simp [stepD]; omega
theorem fold_pre : ∀ (ns : List Nd) (acc : List Nat) (k : Nat), k < acc.length → (ns.foldl stepD acc).getD k 0 = acc.getD k 0
 | [], acc, k, h => rfl
 | n :: ns, acc, k, h => by
  rw [List.foldl_cons, fold_pre ns _ k (by simp [stepD]; omega)]
  exact yT h
variable {ns fs : List Nd} {k x : Nat} {bs : List Int}
theorem sR {ms : List Nd} (h : k < ns.length) : den (ns ++ ms) k = den ns k := by
 unfold den dens
 rw [List.foldl_append]
 exact fold_pre _ _ _ (by rw [mP]; simpa using h)
theorem den_take {m : Nat} (h : k < m) (hm : m ≤ ns.length) : den (ns.take m) k = den ns k := by
 have := sR (ns := ns.take m) (ms := ns.drop m) (k := k) (by simp; omega)
 rw [List.take_append_drop] at this
 exact this.symm
theorem den_at (hk : k < ns.length) (hl : ∀ z ∈ (ns.getD k default).l, 0 ≤ z ∧ z < k) (hr : ∀ z ∈ (ns.getD k default).r, 0 ≤ z ∧ z < k) :
  den ns k = mkG ((ns.getD k default).l.map fun z => den ns z.toNat) ((ns.getD k default).r.map fun z => den ns z.toNat) := by
 rw [← den_take (m := k + 1) (by omega) (by omega), jF ns default hk]
 unfold den dens
 rw [List.foldl_append]
 have hlen : ((ns.take k).foldl stepD []).length = k := by rw [mP]; simp; omega
 have e0 : ∀ (A : List Nat) (n : Nd), List.foldl stepD A [n] = A ++ [mkG (n.l.map fun z => A.getD z.toNat 0) (n.r.map fun z => A.getD z.toNat 0)] := fun _ _ => rfl
 rw [e0, xE hlen.symm]
 have e : ∀ z : Int, 0 ≤ z ∧ z < k → (List.foldl stepD [] (ns.take k)).getD z.toNat 0 = (List.foldl stepD [] ns).getD z.toNat 0 := fun z hz => den_take (ns := ns) (k := z.toNat) (m := k) (by omega) (by omega)
 rw [List.map_congr_left (g := fun z => (List.foldl stepD [] ns).getD z.toNat 0) fun z hz => e z (hl z hz)]
 rw [List.map_congr_left (l := (ns.getD k default).r) (g := fun z => (List.foldl stepD [] ns).getD z.toNat 0) fun z hz => e z (hr z hz)]
theorem jO (ho : OptsOk ns) (hk : k < ns.length) :
  den ns k = mkG ((ns.getD k default).l.map fun z => den ns z.toNat) ((ns.getD k default).r.map fun z => den ns z.toNat) := den_at hk (xI ho hk).1 (xI ho hk).2
theorem qF (ho : OptsOk ns) (hk : k < ns.length) : loG (den ns k) x ↔ ∃ z ∈ (ns.getD k default).l, x = den ns z.toNat := by
 rw [jO ho hk, lo_mk, List.mem_map]
 exact ⟨fun ⟨z, h1, h2⟩ => ⟨z, h1, h2.symm⟩, fun ⟨z, h1, h2⟩ => ⟨z, h1, h2.symm⟩⟩
theorem qE (ho : OptsOk ns) (hk : k < ns.length) : roG (den ns k) x ↔ ∃ z ∈ (ns.getD k default).r, x = den ns z.toNat := by
 rw [jO ho hk, ro_mk, List.mem_map]
 exact ⟨fun ⟨z, h1, h2⟩ => ⟨z, h1, h2.symm⟩, fun ⟨z, h1, h2⟩ => ⟨z, h1, h2.symm⟩⟩
structure Ar (ns : List Nd) (bs : List Int) : Prop where
 ok : BookOk ns bs
 rise : ∀ i, i < ns.length → (ns.getD i default).l.Pairwise (· < ·) ∧ (ns.getD i default).r.Pairwise (· < ·)
 diff : Diff ns
 born : BirthsOf ns bs
theorem Ar.opts (h : Ar ns bs) : OptsOk ns := h.ok.optsOk
theorem Ar.empty : Ar [] [] := ⟨qO, fun i hi => absurd hi (cJ i), fun _ j _ hj => absurd hj (cJ j), rfl, fun k hk => absurd hk (cJ k)⟩
theorem fQ {ns : List Nd} (ho : OptsOk ns) (hr : ∀ i, i < ns.length → (ns.getD i default).l.Pairwise (· < ·) ∧ (ns.getD i default).r.Pairwise (· < ·)) (hd : Diff ns) :
  ∀ (n i j : Nat), i + j ≤ n → i < ns.length → j < ns.length → den ns i = den ns j → i = j
 | 0, i, j, hn, _, _, _ => by omega
 | n + 1, i, j, hn, hi, hj, he => by
  have key : ∀ a b, a + b ≤ n + 1 → a < ns.length → b < ns.length → den ns a = den ns b → (∀ z ∈ (ns.getD a default).l, z ∈ (ns.getD b default).l) ∧ (∀ z ∈ (ns.getD a default).r, z ∈ (ns.getD b default).r) := by
   intro a b hab ha hb e
   have oa := xI ho ha
   have ob := xI ho hb
   constructor
   ·intro z hz
    have h1 : loG (den ns a) (den ns z.toNat) := (qF ho ha).2 ⟨z, hz, rfl⟩
    rw [e] at h1
    obtain ⟨y, hy, e2⟩ := (qF ho hb).1 h1
    have z1 := oa.1 z hz
    have y1 := ob.1 y hy
    have := fQ ho hr hd n z.toNat y.toNat (by omega) (by omega) (by omega) e2
    have : z = y := by omega
    rwa [this]
   ·intro z hz
    have h1 : roG (den ns a) (den ns z.toNat) := (qE ho ha).2 ⟨z, hz, rfl⟩
    rw [e] at h1
    obtain ⟨y, hy, e2⟩ := (qE ho hb).1 h1
    have z1 := oa.2 z hz
    have y1 := ob.2 y hy
    have := fQ ho hr hd n z.toNat y.toNat (by omega) (by omega) (by omega) e2
    have : z = y := by omega
    rwa [this]
  have k1 := key i j hn hi hj he
  have k2 := key j i (by omega) hj hi he.symm
  have el := fT (hr i hi).1 (hr j hj).1 fun z => ⟨k1.1 z, k2.1 z⟩
  have er := fT (hr i hi).2 (hr j hj).2 fun z => ⟨k1.2 z, k2.2 z⟩
  have e := mE el er
  rcases Nat.lt_trichotomy i j with h | h | h
  ·exact absurd e (hd i j h hj)
  ·exact h
  ·exact absurd e.symm (hd j i h hi)
theorem Ar.inj (h : Ar ns bs) {i j : Nat} (hi : i < ns.length) (hj : j < ns.length) (he : den ns i = den ns j) : i = j := fQ h.opts h.rise h.diff _ i j (cG _) hi hj he
theorem nN {n : Int} : ∀ {l : List Int}, l.Pairwise (· < ·) → (putL l n).Pairwise (· < ·)
 | [], _ => by simp [putL]
 | x :: r, h => by
  have h' := List.pairwise_cons.1 h
  unfold putL
  split
  ·rename_i hx
   refine List.pairwise_cons.2 ⟨fun k hk => ?_, nN h'.2⟩
   rcases mem_putL.1 hk with rfl | hk
   ·exact hx
   ·exact h'.1 k hk
  ·split
   ·exact h
   ·rename_i h1 h2
    refine List.pairwise_cons.2 ⟨fun k hk => ?_, h⟩
    rcases List.mem_cons.1 hk with rfl | hk
    ·omega
    ·have := h'.1 k hk; omega
theorem vH (l : List Int) : (sortL l).Pairwise (· < ·) := by
 have key : ∀ (l a : List Int), a.Pairwise (· < ·) → (l.foldl putL a).Pairwise (· < ·) := by
  intro l
  induction l with
  | nil => intro a h; exact h
  | cons x r ih => intro a h; exact ih _ (nN h)
 exact key l [] List.Pairwise.nil
theorem tU {bs : List Int} {m : Int} : ∀ {l : List Int} {b : Int}, bornOf bs l b ≤ m ↔ b ≤ m ∧ ∀ k ∈ l, bs.getD k.toNat 0 + 1 ≤ m
 | [], b => by simp [bornOf]
 | x :: r, b => by
  have e : bornOf bs (x :: r) b = bornOf bs r (max b (bs.getD x.toNat 0 + 1)) := rfl
  rw [e, tU (l := r)]
  simp only [List.mem_cons, forall_eq_or_imp]
  constructor
  ·rintro ⟨h1, h2⟩; exact ⟨by omega, by omega, h2⟩
  ·rintro ⟨h1, h2, h3⟩; exact ⟨by omega, h3⟩
theorem putBorn_le {l r : List Int} {m : Int} : putBorn bs l r ≤ m ↔ 0 ≤ m ∧ (∀ k ∈ l, bs.getD k.toNat 0 + 1 ≤ m) ∧ ∀ k ∈ r, bs.getD k.toNat 0 + 1 ≤ m := by
 unfold putBorn
 rw [tU, tU, and_assoc]
theorem putBorn_sort {l r : List Int} : putBorn bs (sortL l) (sortL r) = putBorn bs l r := by
 apply Int.le_antisymm
 ·rw [putBorn_le]
  have := putBorn_le (bs := bs) (l := l) (r := r).1 (Int.le_refl _)
  exact ⟨this.1, fun k hk => this.2.1 k (mem_sortL.1 hk), fun k hk => this.2.2 k (mem_sortL.1 hk)⟩
 ·rw [putBorn_le]
  have := putBorn_le (bs := bs) (l := sortL l) (r := sortL r).1 (Int.le_refl _)
  exact ⟨this.1, fun k hk => this.2.1 k (mem_sortL.2 hk), fun k hk => this.2.2 k (mem_sortL.2 hk)⟩
theorem Ar.put {xs ys : List Int} (h : Ar ns bs) (hl : ns.length + 1 ≤ 1048576) (hls : xs.length ≤ 1048576 ∧ ys.length ≤ 1048576) (h1 : ∀ i, i < xs.length → 0 ≤ xs.getD i 0 ∧ xs.getD i 0 < ns.length) (h2 : ∀ i, i < ys.length → 0 ≤ ys.getD i 0 ∧ ys.getD i 0 < ns.length) :
  Ar (putN ns bs xs ys) (putB ns bs xs ys) ∧ den (putN ns bs xs ys) (putK ns bs xs ys).toNat = mkG (xs.map fun z => den ns z.toNat) (ys.map fun z => den ns z.toNat) ∧ ∀ k, k < ns.length → den (putN ns bs xs ys) k = den ns k := by
 have hb := h.ok.put hl hls h1 h2
 have hm1 := xN (P := fun k => 0 ≤ k ∧ k < (ns.length : Int)) h1
 have hm2 := xN (P := fun k => 0 ≤ k ∧ k < (ns.length : Int)) h2
 have hsort : ∀ (f : Int → Nat), mkG ((sortL xs).map f) ((sortL ys).map f) = mkG (xs.map f) (ys.map f) := fun f => mF
  (fun i => by simp only [List.mem_map, mem_sortL]) (fun i => by simp only [List.mem_map, mem_sortL])
 unfold putN putB putK at hb ⊢
 cases hf : findK ns bs (putNd xs ys) (putBorn bs xs ys) with
 | some k =>
  rw [hf] at hb
  simp only at hb ⊢
  have hmem := List.mem_of_find?_eq_some hf
  have hdec := List.find?_some hf
  have hk : k < ns.length := by simpa using hmem
  have hd : bs.getD k 0 = putBorn bs xs ys ∧ (ns.getD k default).l = sortL xs ∧ (ns.getD k default).r = sortL ys := of_decide_eq_true hdec
  refine ⟨h, ?_, fun k _ => by trivial⟩
  rw [Int.toNat_natCast, jO h.opts hk, hd.2.1, hd.2.2]
  exact hsort _
 | none =>
  rw [hf] at hb
  simp only at hb ⊢
  have hlen := h.ok.len
  have hnew : ∀ i, i < ns.length → ns.getD i default ≠ putNd xs ys := fun i hi e => by
   have hn := List.find?_eq_none.1 hf i (List.mem_range.2 hi)
   apply hn
   refine decide_eq_true ⟨?_, by rw [e], by rw [e]⟩
   rw [h.born.2 i hi, e]
   exact putBorn_sort
  have hat : ∀ i, i < ns.length → (ns ++ [putNd xs ys]).getD i default = ns.getD i default := fun i hi => yT hi
  have hself : (ns ++ [putNd xs ys]).getD ns.length default = putNd xs ys := xE rfl
  have hlast : ∀ i, i < (ns ++ [putNd xs ys]).length → i < ns.length ∨ i = ns.length := fun i hi => by simp at hi; omega
  have hbat : ∀ i, i < ns.length → (bs ++ [putBorn bs xs ys]).getD i 0 = bs.getD i 0 := fun i hi => yT (by omega)
  refine ⟨⟨hb.1, fun i hi => ?_, fun i j hij hj => ?_, by simp [hlen], fun k hk => ?_⟩, ?_, fun k hk => sR hk⟩
  ·rcases hlast i hi with hi' | rfl
   ·rw [hat i hi']; exact h.rise i hi'
   ·rw [hself]; exact ⟨vH _, vH _⟩
  ·rcases hlast j hj with hj' | rfl
   ·rw [hat i (by omega), hat j hj']; exact h.diff i j hij hj'
   ·rw [hat i hij, hself]; exact hnew i hij
  ·rcases hlast k hk with hk' | rfl
   ·have ho := xI h.opts hk'
    rw [hat k hk', hbat k hk', h.born.2 k hk']
    exact jS (fun z hz => (hbat z.toNat (by have := ho.1 z hz; omega)).symm) (fun z hz => (hbat z.toNat (by have := ho.2 z hz; omega)).symm)
   ·rw [hself, xE hlen.symm]
    refine putBorn_sort.symm.trans (jS (fun z hz => (hbat z.toNat ?_).symm) (fun z hz => (hbat z.toNat ?_).symm))
    ·have := hm1 z (mem_sortL.1 hz); omega
    ·have := hm2 z (mem_sortL.1 hz); omega
  ·rw [Int.toNat_natCast, den_at (by simp) (by rw [hself]; exact fun z hz => hm1 z (mem_sortL.1 hz)) (by rw [hself]; exact fun z hz => hm2 z (mem_sortL.1 hz)), hself]
   have e : ∀ l : List Int, (∀ z ∈ l, 0 ≤ z ∧ z < (ns.length : Int)) → (sortL l).map (fun z => den (ns ++ [putNd xs ys]) z.toNat) = (sortL l).map fun z => den ns z.toNat := fun l hm =>
    List.map_congr_left fun z hz => sR (by have := hm z (mem_sortL.1 hz); omega)
   have e1 : (putNd xs ys).l = sortL xs := rfl
   have e2 : (putNd xs ys).r = sortL ys := rfl
   rw [e1, e2, e xs hm1, e ys hm2]
   exact hsort _
structure AddD (ns : List Nd) (fs : List Nd) (k : Nat) (s : List Int × List Nd × List Int) : Prop where
 ar : Ar s.2.1 s.2.2
 is : ∀ i, i < k → den s.2.1 (s.1.getD i 0).toNat = den fs i
 old : ∀ i, i < ns.length → den s.2.1 i = den ns i
theorem addM_den (h : Ar ns bs) (hf : FormOk fs) (hl : ns.length + fs.length ≤ 1048576) : ∀ k, k ≤ fs.length → AddD ns fs k (addM ns bs (fs.take k)) := by
 intro k
 induction k with
 | zero => intro _; exact ⟨h, fun i hi => absurd hi (cJ i), fun i _ => rfl⟩
 | succ k ih =>
  intro hk
  have ih := ih (by omega)
  have ha := addM_ok h.ok hf hl k (by omega)
  rw [jK (by omega)]
  generalize addM ns bs (fs.take k) = s at ih ha
  obtain ⟨asx, ns2, bs2⟩ := s
  have a1 := ha.at1 hf (show k < fs.length by omega)
  have hhi := ha.hi
  simp only at hhi
  have hp := ih.ar.put (xs := atL asx (fs.getD k default).l) (ys := atL asx (fs.getD k default).r) (by simp only; omega) (by have := hf.lens k (by omega); rw [xC, xC]; omega) (vG ha.places a1.1) (vG ha.places a1.2)
  have hlo := ha.lo
  have hal := ha.len
  simp only at hp ih hlo hal
  refine ⟨hp.1, fun i hi => ?_, fun i hi => ?_⟩
  ·show den (putN ns2 bs2 _ _) ((asx ++ [_]).getD i 0).toNat = den fs i
   by_cases he : i < k
   ·rw [yT (by omega), hp.2.2 _ (by have := ha.places i (by simp only; omega); simp only at this; omega)]
    exact ih.is i he
   ·have e : i = k := by omega
    subst e
    rw [xE hal.symm, hp.2.1, jO hf.opts (by omega)]
    have oo := xI hf.opts (show i < fs.length by omega)
    have em : ∀ l : List Int, (∀ z ∈ l, 0 ≤ z ∧ z < (i : Int)) → (atL asx l).map (fun z => den ns2 z.toNat) = l.map fun z => den fs z.toNat := fun l hm => by
     unfold atL
     rw [List.map_map]
     exact List.map_congr_left fun z hz => ih.is z.toNat (by have := hm z hz; omega)
    rw [em _ oo.1, em _ oo.2]
  ·show den (putN ns2 bs2 _ _) i = den ns i
   rw [hp.2.2 i (by omega)]
   exact ih.old i hi
theorem Ar.add (h : Ar ns bs) (hf : FormOk fs) (hl : ns.length + fs.length ≤ 1048576) : AddD ns fs fs.length (addM ns bs fs) := by
 have := addM_den h hf hl fs.length (cG _)
 rwa [List.take_length] at this
def gOf (fs : List Nd) : Nat := den fs (fs.length - 1)
theorem Ar.root (h : Ar ns bs) (hf : FormOk fs) (h1 : 1 ≤ fs.length) (hl : ns.length + fs.length ≤ 1048576) : den (addM ns bs fs).2.1 (rootM ns bs fs).toNat = gOf fs := by
 unfold rootM gOf
 have ha := jD h.ok hf hl
 rw [ha.len]
 exact (h.add hf hl).is _ (by omega)
end Go.GL
namespace Go.GL
open Go Go.RowKit
def inO (x : Option Nat) (k : Nat) : Prop := x = some k
variable {x y : Int} {ns asx bs : List Nd} {ks k1 k2 : List Int} {m m' k i j : Nat}
theorem notO {x y : Option Nat} (h : Apart x y) : ∀ k, x = some k → ¬ inO y k := fun k hx hy => h k hx hy
theorem yZ {c : Nat} {y : Option Nat} (h : Apart (some c) y) : ¬ inO y c := fun hy => h c rfl hy
theorem xA {w : World} {x : Option Nat} : Lo w (inO x) x := fun _ hk => cF hk
noncomputable def geB (ns : List Nd) (x y : Int) : Bool := decP (geG (den ns x.toNat) (den ns y.toNat))
def KOk (ns : List Nd) (ks : List Int) (m : Nat) : Prop := ∀ i j : Nat, i < ns.length → j < ns.length → i + j < m → ks.getD (i * ns.length + j) 0 = 0 ∨ ks.getD (i * ns.length + j) 0 = if geB ns i j = true then 1 else 2
def KSame (ns : List Nd) (ks ks' : List Int) (m : Nat) : Prop := ∀ i j : Nat, i < ns.length → j < ns.length → m ≤ i + j → ks'.getD (i * ns.length + j) 0 = ks.getD (i * ns.length + j) 0
structure KRes (ns : List Nd) (ks ks' : List Int) (m : Nat) : Prop where
 len : ks'.length = ks.length
 ok : KOk ns ks' m
 same : KSame ns ks ks' m
theorem KOk.mono (h : KOk ns ks m) (hm : m' ≤ m) : KOk ns ks m' := fun i j hi hj hs => h i j hi hj (by omega)
theorem KOk.zero : KOk ns (List.replicate k 0) m := fun i j _ _ _ => cE (by simp [List.getD, List.getElem?_replicate]; split <;> rfl)
theorem KRes.refl (h : KOk ns ks m) : KRes ns ks ks m := ⟨rfl, h, fun _ _ _ _ _ => rfl⟩
theorem KRes.wide (h : KRes ns ks k1 m) (k : KRes ns k1 k2 m') (hm : m' ≤ m) : KRes ns ks k2 m := by
 refine ⟨k.len.trans h.len, fun i j hi hj hs => ?_, fun i j hi hj hs => ?_⟩
 ·by_cases hlt : i + j < m'
  ·exact k.ok i j hi hj hlt
  ·rw [k.same i j hi hj (by omega)]; exact h.ok i j hi hj hs
 ·rw [k.same i j hi hj (by omega), h.same i j hi hj hs]
theorem idx_lt {n : Nat} (hi : i < n) (hj : j < n) : i * n + j < n * n := by
 have h : (i + 1) * n ≤ n * n := Nat.mul_le_mul_right n hi
 rw [Nat.add_mul] at h; omega
theorem sJ {n l : Nat} (hj : j < n) (hl : l < n) (h : i * n + j = k * n + l) : i = k ∧ j = l := by
 have hn : 0 < n := by omega
 have h1 : (n * i + j) / n = i := by rw [Nat.mul_add_div hn, Nat.div_eq_of_lt hj]; rfl
 have h2 : (n * k + l) / n = k := by rw [Nat.mul_add_div hn, Nat.div_eq_of_lt hl]; rfl
 rw [Nat.mul_comm, Nat.mul_comm k] at h
 rw [h] at h1
 have : i = k := h1.symm.trans h2
 subst this
 exact ⟨rfl, by omega⟩
theorem sI (hx : 0 ≤ x ∧ x < ns.length) (hy : 0 ≤ y ∧ y < ns.length) : (x * (ns.length : Int) + y).toNat = x.toNat * ns.length + y.toNat := by
 have e : x * (ns.length : Int) + y = ((x.toNat * ns.length + y.toNat : Nat) : Int) := by
  rw [Int.natCast_add, Int.natCast_mul]
  rw [Int.toNat_of_nonneg hx.1, Int.toNat_of_nonneg hy.1]
 rw [e, Int.toNat_natCast]
theorem idx_bd (hx : 0 ≤ x ∧ x < ns.length) (hy : 0 ≤ y ∧ y < ns.length) (hn : ns.length ≤ 1048576) :
  (0 ≤ x * (ns.length : Int) ∧ x * (ns.length : Int) ≤ 1099511627776) ∧ x * (ns.length : Int) + y < (ns.length * ns.length : Nat) := by
 have h1 := idx_lt (n := ns.length) (i := x.toNat) (j := y.toNat) (by omega) (by omega)
 have e : x * (ns.length : Int) = ((x.toNat * ns.length : Nat) : Int) := by rw [Int.natCast_mul, Int.toNat_of_nonneg hx.1]
 have h2 : x.toNat * ns.length ≤ 1048576 * 1048576 := Nat.mul_le_mul (by omega) hn
 refine ⟨⟨by omega, by omega⟩, by omega⟩
theorem vE {l : List Int} (h : j ≠ i) : (l.set i x).getD j 0 = l.getD j 0 := by simp [List.getD, Ne.symm h]
theorem KRes.prov {v : Int} (hx : 0 ≤ x ∧ x < ns.length) (hy : 0 ≤ y ∧ y < ns.length) (h : KOk ns ks (x.toNat + y.toNat + 1)) :
  KOk ns (ks.set (x * (ns.length : Int) + y).toNat v) (x.toNat + y.toNat) ∧ ∀ i j : Nat, i < ns.length → j < ns.length → x.toNat + y.toNat < i + j → (ks.set (x * (ns.length : Int) + y).toNat v).getD (i * ns.length + j) 0 = ks.getD (i * ns.length + j) 0 := by
 rw [sI hx hy]
 refine ⟨fun i j hi hj hs => ?_, fun i j hi hj hs => ?_⟩
 ·rw [vE fun e => by have := sJ hj (by omega) e; omega]
  exact h i j hi hj (by omega)
 ·rw [vE fun e => by have := sJ hj (by omega) e; omega]
theorem KRes.told (hx : 0 ≤ x ∧ x < ns.length) (hy : 0 ≤ y ∧ y < ns.length) (hl : ks.length = ns.length * ns.length) (h : KOk ns ks (x.toNat + y.toNat + 1)) (k : KRes ns (ks.set (x * (ns.length : Int) + y).toNat 2) k1 (x.toNat + y.toNat))
  (hk : k2 = if geB ns x y = true then k1.set (x * (ns.length : Int) + y).toNat 1 else k1) :
  KRes ns ks k2 (x.toNat + y.toNat + 1) ∧ decide (k2.getD (x * (ns.length : Int) + y).toNat 0 = 1) = geB ns x y := by
 have hp := KRes.prov (v := 2) hx hy h
 rw [sI hx hy] at k hk hp ⊢
 have hlt := idx_lt (n := ns.length) (i := x.toNat) (j := y.toNat) (by omega) (by omega)
 have hl1 : k1.length = ns.length * ns.length := by rw [k.len, cR, hl]
 have hself : k1.getD (x.toNat * ns.length + y.toNat) 0 = 2 := by
  rw [k.same x.toNat y.toNat (by omega) (by omega) (cG _)]
  simp [List.getD, hl, hlt]
 have hgn : geB ns (x.toNat : Int) (y.toNat : Int) = geB ns x y := by rw [Int.toNat_of_nonneg hx.1, Int.toNat_of_nonneg hy.1]
 have hother : ∀ q, q ≠ x.toNat * ns.length + y.toNat → k2.getD q 0 = k1.getD q 0 := fun q hq => by
  rw [hk]; split
  ·exact vE hq
  ·rfl
 have hat : k2.getD (x.toNat * ns.length + y.toNat) 0 = if geB ns x y = true then 1 else 2 := by
  rw [hk]; split
  ·simp [List.getD, hl1, hlt]
  ·exact hself
 refine ⟨⟨?_, fun i j hi hj hs => ?_, fun i j hi hj hs => ?_⟩, ?_⟩
 ·rw [hk]; split
  ·rw [cR, hl1, hl]
  ·rw [hl1, hl]
 ·by_cases he : i * ns.length + j = x.toNat * ns.length + y.toNat
  ·obtain ⟨rfl, rfl⟩ := sJ hj (by omega) he
   right; rw [hat, hgn]
  ·rw [hother _ he]
   by_cases hlt2 : i + j < x.toNat + y.toNat
   ·exact k.ok i j hi hj hlt2
   ·rw [k.same i j hi hj (by omega), vE he]; exact h i j hi hj hs
 ·rw [hother _ fun e => by have := sJ hj (by omega) e; omega, k.same i j hi hj (by omega), hp.2 i j hi hj (by omega)]
 ·rw [hat]
  split
  ·rename_i hg; rw [hg]; rfl
  ·rename_i hg; rw [Bool.not_eq_true] at hg; rw [hg]; rfl
theorem KOk.known (hx : 0 ≤ x ∧ x < ns.length) (hy : 0 ≤ y ∧ y < ns.length) (h : KOk ns ks (x.toNat + y.toNat + 1)) (h0 : ¬ ks.getD (x * (ns.length : Int) + y).toNat 0 = 0) :
  decide (ks.getD (x * (ns.length : Int) + y).toNat 0 = 1) = geB ns x y := by
 rw [sI hx hy] at h0 ⊢
 have hgn : geB ns (x.toNat : Int) (y.toNat : Int) = geB ns x y := by rw [Int.toNat_of_nonneg hx.1, Int.toNat_of_nonneg hy.1]
 rcases h x.toNat y.toNat (by omega) (by omega) (by omega) with h1 | h1
 ·exact absurd h1 h0
 ·rw [h1, hgn]
  split
  ·rename_i hg; rw [hg]; rfl
  ·rename_i hg; rw [Bool.not_eq_true] at hg; rw [hg]; rfl
theorem gY (ho : OptsOk ns) (hx : 0 ≤ x ∧ x < ns.length) (hi : i < (ns.getD x.toNat default).r.length) (h : geB ns y ((ns.getD x.toNat default).r.getD i 0) = true) : geB ns x y = false := by
 refine decP_false.2 fun g => (ge_iff.1 g).1 _ ((qE ho (by omega)).2 ⟨_, xG (d := (0 : Int)) hi, rfl⟩) (decP_true.1 h)
theorem rE (ho : OptsOk ns) (hy : 0 ≤ y ∧ y < ns.length) (hi : i < (ns.getD y.toNat default).l.length) (h : geB ns ((ns.getD y.toNat default).l.getD i 0) x = true) : geB ns x y = false := by
 refine decP_false.2 fun g => (ge_iff.1 g).2 _ ((qF ho (by omega)).2 ⟨_, xG (d := (0 : Int)) hi, rfl⟩) (decP_true.1 h)
theorem geB_yes (ho : OptsOk ns) (hx : 0 ≤ x ∧ x < ns.length) (hy : 0 ≤ y ∧ y < ns.length) (h1 : ∀ i, i < (ns.getD x.toNat default).r.length → geB ns y ((ns.getD x.toNat default).r.getD i 0) = false) (h2 : ∀ i, i < (ns.getD y.toNat default).l.length → geB ns ((ns.getD y.toNat default).l.getD i 0) x = false) : geB ns x y = true := by
 refine decP_true.2 (ge_iff.2 ⟨fun r hr => ?_, fun l hl => ?_⟩)
 ·obtain ⟨z, hz, rfl⟩ := (qE ho (by omega)).1 hr
  obtain ⟨i, hi, rfl⟩ := List.getElem_of_mem hz
  have e : (ns.getD x.toNat default).r.getD i 0 = (ns.getD x.toNat default).r[i] := by rw [List.getD, List.getElem?_eq_getElem hi]; rfl
  have := h1 i hi
  rw [e] at this
  exact decP_false.1 this
 ·obtain ⟨z, hz, rfl⟩ := (qF ho (by omega)).1 hl
  obtain ⟨i, hi, rfl⟩ := List.getElem_of_mem hz
  have e : (ns.getD y.toNat default).l.getD i 0 = (ns.getD y.toNat default).l[i] := by rw [List.getD, List.getElem?_eq_getElem hi]; rfl
  have := h2 i hi
  rw [e] at this
  exact decP_false.1 this
theorem sq_bd {n : Nat} (h : n ≤ 1048576) : 0 ≤ (n : Int) * (n : Int) ∧ (n : Int) * (n : Int) ≤ 1099511627776 := by
 have h1 : n * n ≤ 1048576 * 1048576 := Nat.mul_le_mul h h
 rw [← Int.natCast_mul]; omega
theorem sq_nat (n : Nat) : ((n : Int) * (n : Int)).toNat = n * n := by rw [← Int.natCast_mul]; rfl
theorem ge_roots (ha : FormOk asx ∧ 1 ≤ asx.length) (hb : FormOk bs ∧ 1 ≤ bs.length) (hl : asx.length + bs.length ≤ 1048576) (x y : Int) (hx : x = rootM [] [] asx) (hy : y = rootM (addM [] [] asx).2.1 (addM [] [] asx).2.2 bs) :
  geB (addM (addM [] [] asx).2.1 (addM [] [] asx).2.2 bs).2.1 x y = decP (geG (gOf asx) (gOf bs)) ∧ geB (addM (addM [] [] asx).2.1 (addM [] [] asx).2.2 bs).2.1 y x = decP (geG (gOf bs) (gOf asx)) := by
 have h0 := jD qO ha.1 (by simp; omega)
 have hlen := h0.hi
 simp only [List.length_nil, cQ] at hlen
 have d0 := Ar.empty.add ha.1 (by simp; omega)
 have d1 := d0.ar.add hb.1 (by omega)
 have r0 := Ar.empty.root ha.1 ha.2 (by simp; omega)
 have r1 := d0.ar.root hb.1 hb.2 (by omega)
 have l0 := gL h0 ha.2
 subst hx hy
 have e0 : den (addM (addM [] [] asx).2.1 (addM [] [] asx).2.2 bs).2.1 (rootM [] [] asx).toNat = gOf asx := (d1.old _ (by omega)).trans r0
 unfold geB
 rw [e0, r1]
 exact ⟨rfl, rfl⟩
noncomputable def alB (asx bs : List Nd) : Bool := goodB asx && goodB bs && decP (geG (gOf asx) (gOf bs))
theorem pair_bad (h : goodB asx = false ∨ goodB bs = false) : (goodB asx && goodB bs) = false := by rcases h with h | h <;> simp [h]
theorem pair_good (ha : GoodP asx) (hb : GoodP bs) : (goodB asx && goodB bs) = true := by rw [goodB_true.2 ha, goodB_true.2 hb]; rfl
theorem alB_bad (h : goodB asx = false ∨ goodB bs = false) : alB asx bs = false ∧ (goodB asx && goodB bs) = false := by
 have e := pair_bad h; unfold alB; rw [e]; exact ⟨rfl, rfl⟩
theorem alB_good (ha : GoodP asx) (hb : GoodP bs) : alB asx bs = decP (geG (gOf asx) (gOf bs)) ∧ (goodB asx && goodB bs) = true := by
 have e := pair_good ha hb; unfold alB; rw [e]; exact ⟨rfl, rfl⟩
structure Od (e1 e2 : Nat) (G : Pin) (w : World) (o b : Nat) (bu bv kv : Value) (ns : List Nd) (bs ks : List Int) : Prop where
 bk : Bk e1 e2 G w b bu bv ns bs
 ox : Bx G w o [.pointer (some ⟨b, 0, none⟩), kv]
 ok : Own eInt e2 G w 0 kv ks
 aok : Apart (some o) kv.ownBlock
 abk : Apart (some b) kv.ownBlock
 auk : Apart bu.ownBlock kv.ownBlock
 avk : Apart bv.ownBlock kv.ownBlock
end Go.GL
namespace Go.GL
open Go Go.RowKit
section
variable {κ ν : Type} [DecidableEq κ]
def look (l : List (κ × ν)) (k : κ) : Option ν := (l.find? fun p => decide (p.1 = k)).map (·.2)
def putE : List (κ × ν) → κ → ν → List (κ × ν)
 | [], k, v => [(k, v)]
 | p :: r, k, v => if k = p.1 then (k, v) :: r else p :: putE r k v
def findE : List (κ × ν) → κ → Nat → Option (Nat × ν)
 | [], _, _ => none
 | p :: r, k, i => if k = p.1 then some (i, p.2) else findE r k (i + 1)
theorem gB (k : κ) : ∀ (l : List (κ × ν)) (i : Nat), (findE l k i).map (·.2) = look l k
 | [], _ => rfl
 | p :: r, i => by
  unfold findE look
  by_cases h : k = p.1
  ·rw [if_pos h, List.find?_cons_of_pos (by simp [h])]; rfl
  ·rw [if_neg h, List.find?_cons_of_neg (by simp [Ne.symm h])]; exact gB k r (i + 1)
theorem kO (p : κ × ν) (r : List (κ × ν)) (k : κ) : look (p :: r) k = if k = p.1 then some p.2 else look r k := by
 unfold look
 by_cases h : k = p.1
 ·rw [List.find?_cons_of_pos (by simp [h]), if_pos h]; rfl
 ·rw [List.find?_cons_of_neg (by simp [Ne.symm h]), if_neg h]
theorem fI (k k' : κ) (v : ν) : ∀ (l : List (κ × ν)), look (putE l k v) k' = if k' = k then some v else look l k'
 | [] => by
  unfold putE
  rw [kO]
 | p :: r => by
  unfold putE
  by_cases h : k = p.1
  ·rw [if_pos h, kO, kO]
   by_cases h2 : k' = k
   ·rw [if_pos h2, if_pos h2]
   ·rw [if_neg h2, if_neg h2, if_neg (by rw [← h]; exact h2)]
  ·rw [if_neg h, kO, kO, fI k k' v r]
   by_cases h2 : k' = p.1
   ·rw [if_pos h2, if_pos h2, if_neg (by rw [h2]; exact Ne.symm h)]
   ·rw [if_neg h2, if_neg h2]
theorem nP {k : κ} {v : ν} : ∀ {l : List (κ × ν)} {i : Nat}, findE l k i = none → putE l k v = l ++ [(k, v)]
 | [], _, _ => rfl
 | p :: r, i, h => by
  unfold findE at h
  split at h
  ·cases h
  ·rename_i hk
   unfold putE
   rw [if_neg hk, nP h]; rfl
theorem nO {k : κ} {v : ν} : ∀ {l : List (κ × ν)} {i j : Nat} {u : ν}, findE l k i = some (j, u) → i ≤ j ∧ (∃ p, l[j - i]? = some p ∧ p.1 = k) ∧ putE l k v = l.set (j - i) (k, v)
 | [], _, _, _, h => by cases h
 | p :: r, i, j, u, h => by
  unfold findE at h
  split at h
  ·rename_i hk
   simp only [Option.some.injEq, Prod.mk.injEq] at h
   obtain ⟨rfl, rfl⟩ := h
   refine ⟨cG _, ⟨p, by simp, hk.symm⟩, ?_⟩
   unfold putE
   rw [if_pos hk, Nat.sub_self]; rfl
  ·rename_i hk
   obtain ⟨h1, ⟨q, h2, h3⟩, h4⟩ := nO (v := v) h
   have e : j - i = (j - (i + 1)) + 1 := by omega
   refine ⟨by omega, ⟨q, by rw [e, List.getElem?_cons_succ]; exact h2, h3⟩, ?_⟩
   unfold putE
   rw [if_neg hk, h4, e]; rfl
theorem eV {μ : Type} {f : ν → μ} (k : κ) (v : ν) : ∀ (l : List (κ × ν)), putE (l.map fun p => (p.1, f p.2)) k (f v) = (putE l k v).map fun p => (p.1, f p.2)
 | [] => rfl
 | p :: r => by
  rw [List.map_cons]
  unfold putE
  by_cases h : k = p.1
  ·rw [if_pos h, if_pos h]; rfl
  ·rw [if_neg h, if_neg h, eV k v r]; rfl
end
structure KeyK {κ : Type} [DecidableEq κ] (P : Program) (kt : TypeId) (enc : κ → Value) : Prop where
 check : ∀ (b : Bool) (k : κ) (w : World), (Instr.checkKey b 10000 kt (enc k)).run P w = .ok () w
 find : ∀ (k : κ) (es : List MapEntry) (l : List (κ × Value)) (w : World), es.map (fun e => (e.key, e.val)) = l.map (fun p => (enc p.1, p.2)) → (Instr.findKey kt (enc k) es).run P w = .ok (findE l k 0) w
 same : ∀ (k : κ), Instr.sameBits 10000 (enc k) (enc k) = true
theorem ba_beq (a b : ByteArray) : (a == b) = decide (a = b) := by
 cases a with
 | mk x =>
  cases b with
  | mk y =>
   have e : ((⟨x⟩ : ByteArray) == ⟨y⟩) = (x == y) := rfl
   rw [e]
   by_cases h : x = y
   ·subst h; simp
   ·rw [decide_eq_false (by simpa using h)]
    simpa using h
section
variable {P : Program}
theorem check_int {kt : TypeId} (h : P.underlying kt = some (.int .i64)) (b : Bool) (n : Nat) (k : Int) (w : World) : (Instr.checkKey b (n + 1) kt (.int .i64 k)).run P w = .ok () w := by
 rw [Instr.checkKey]
 simp only [Sem.run_bind, run_underlying h, Result.andThen_ok]
 rfl
theorem check_str {kt : TypeId} (h : P.underlying kt = some .string) (b : Bool) (n : Nat) (k : ByteArray) (w : World) : (Instr.checkKey b (n + 1) kt (.string k)).run P w = .ok () w := by
 rw [Instr.checkKey]
 simp only [Sem.run_bind, run_underlying h, Result.andThen_ok]
 rfl
variable {e : TypeId}
theorem tN {w : World} {r : Nat} {es : Array MapEntry} {c : Nat} (h : w.heap[r]? = some (.map es c)) : (getObj r).run P w = .ok (.map es c) w := by simp [getObj, Sem.run, h]
theorem key_str {kt : TypeId} (h : P.underlying kt = some .string) : KeyK P kt (fun k : ByteArray => Value.string k) where
 check := fun b k w => check_str h b 9999 k w
 find := fun k es l w hl => by
  have key : ∀ (es : List MapEntry) (l : List (ByteArray × Value)) (i : Nat), es.map (fun e => (e.key, e.val)) = l.map (fun p => (Value.string p.1, p.2)) → Instr.findNow .string (.string k) es i = some (findE l k i) := by
   intro es
   induction es with
   | nil => intro l i hl; cases l with | nil => rfl | cons p r => cases hl
   | cons e r ih =>
    intro l i hl
    cases l with
    | nil => cases hl
    | cons p q =>
     simp only [List.map_cons, List.cons.injEq, Prod.mk.injEq] at hl
     obtain ⟨⟨h1, h2⟩, h3⟩ := hl
     unfold Instr.findNow findE
     rw [h1]
     simp only [Instr.sameNow, ba_beq]
     by_cases hk : k = p.1
     ·subst hk; simp [h2]
     ·rw [decide_eq_false hk, if_neg hk]
      exact ih q (i + 1) h3
  simp [Instr.findKey, run_underlying h, key es l 0 hl]
 same := fun k => by show Instr.sameBits (9999 + 1) _ _ = true; simp [Instr.sameBits, ba_beq]
theorem check_pair {kt : TypeId} (h : P.underlying kt = some (.array 2 e)) (he : P.underlying e = some (.int .i64)) (hs : (P.info? e).map (·.size) = some 1) (b : Bool) (n : Nat) (k : Int × Int) (w : World) :
  (Instr.checkKey b (n + 1 + 1) kt (.agg #[.int .i64 k.1, .int .i64 k.2])).run P w = .ok () w := by
 have ha : (P.underlying e).map aggD = some false := by rw [he]; rfl
 have hpart : ∀ (u v : Int) (i : Nat) (z : Int), (#[Value.int .i64 u, .int .i64 v] : Array Value)[i]? = some (.int .i64 z) → (part e #[.int .i64 u, .int .i64 v] i).run P w = .ok (.int .i64 z) w := fun u v i z hk => by
  unfold part
  simp only [Sem.run_bind, jH ha, Result.andThen_ok]
  simp [hk]
 have hin : ∀ z : Int, (Instr.checkKey b (n + 1) e (.int .i64 z)).run P w = .ok () w := fun z => check_int he b n z w
 rw [Instr.checkKey]
 simp only [Sem.run_bind, run_underlying h, Result.andThen_ok]
 simp [Std.Legacy.Range.forIn_eq_forIn_range', Std.Legacy.Range.size, List.range', xP hs, hpart k.1 k.2 0 k.1 rfl, hpart k.1 k.2 1 k.2 rfl, hin]
def encP2 (k : Int × Int) : Value := .agg #[.int .i64 k.1, .int .i64 k.2]
theorem gQ {kt : TypeId} (h : P.underlying kt = some (.array 2 e)) (he : P.underlying e = some (.int .i64)) (hs : (P.info? e).map (·.size) = some 1) : KeyK P kt encP2 where
 check := fun b k w => check_pair h he hs b 9998 k w
 find := fun k es l w hl => by
  have hask : ∀ (es : List MapEntry) (l : List ((Int × Int) × Value)) (i : Nat), es.map (fun e => (e.key, e.val)) = l.map (fun p => (encP2 p.1, p.2)) → (Instr.findAsking kt (encP2 k) es i).run P w = .ok (findE l k i) w := by
   intro es
   induction es with
   | nil => intro l i hl; cases l with | nil => rfl | cons p r => cases hl
   | cons x r ih =>
    intro l i hl
    cases l with
    | nil => cases hl
    | cons p q =>
     simp only [List.map_cons, List.cons.injEq, Prod.mk.injEq] at hl
     obtain ⟨⟨h1, h2⟩, h3⟩ := hl
     have heq : (Op.equal kt (encP2 k) (encP2 p.1)).run P w = .ok (decide (k = p.1)) w := kH (w := w) 9998 h he hs
     unfold Instr.findAsking findE
     rw [h1]
     simp only [Sem.run_bind, heq, Result.andThen_ok]
     by_cases hk : k = p.1
     ·simp [hk, h2]
     ·simp only [hk, decide_false, if_false, Bool.false_eq_true]
      exact ih q (i + 1) h3
  unfold Instr.findKey
  simp only [Sem.run_bind, run_underlying h, Result.andThen_ok]
  match es, l, hl with
  | [], [], _ => rfl
  | x :: r, p :: q, hl =>
   have hx : x.key = encP2 p.1 := by simp only [List.map_cons, List.cons.injEq, Prod.mk.injEq] at hl; exact hl.1.1
   have : Instr.findNow (.array 2 e) (encP2 k) (x :: r) 0 = none := by
    unfold Instr.findNow
    rw [hx]; rfl
   rw [this]
   exact hask (x :: r) (p :: q) 0 hl
  | [], p :: q, hl => cases hl
  | x :: r, [], hl => cases hl
 same := fun k => by show Instr.sameBits (9998 + 1 + 1) _ _ = true; simp [encP2, Instr.sameBits]
end
structure Mp {κ ν : Type} (enc : κ → Value) (val : ν → Value) (w : World) (m : Nat) (l : List (κ × ν)) : Prop where
 heap : ∃ es clock, w.heap[m]? = some (.map es clock) ∧ es.toList.map (fun e => (e.key, e.val)) = l.map fun p => (enc p.1, val p.2)
section
variable {κ ν : Type} {enc : κ → Value} {val : ν → Value} {w w' : World} {m : Nat} {l : List (κ × ν)}
theorem Mp.lt (h : Mp enc val w m l) : m < w.heap.size := by
 obtain ⟨es, c, h1, _⟩ := h.heap
 exact (Array.getElem?_eq_some_iff.1 h1).1
theorem Mp.keep (h : Mp enc val w m l) (hb : w'.heap[m]? = w.heap[m]?) : Mp enc val w' m l := by
 obtain ⟨es, c, h1, h2⟩ := h.heap
 exact ⟨es, c, hb.trans h1, h2⟩
theorem Mp.below (h : Mp enc val w m l) (hb : Below w.heap.size w w') : Mp enc val w' m l := h.keep (hb.block m h.lt)
theorem Mp.kept {row : Option Nat} (h : Mp enc val w m l) (hg : w.grownBy w' row) (hne : Apart (some m) row) : Mp enc val w' m l :=
 h.keep (hg.block m h.lt fun e => hne m rfl e.symm)
theorem Mp.free {G : Pin} (h : Mp enc val w m l) (hP : Pins G w) : ∀ o u, ¬ G m o u := fun o u hg => by
 obtain ⟨es, c, h1, _⟩ := h.heap
 have := hP m o u hg
 simp [World.cell?, h1] at this
end
theorem yY {α : Type} {E : Elt α} {e : Nat} {G : Pin} {w : World} {base : Nat} {v : Value} {xs : List α} {κ ν : Type} {enc : κ → Value} {val : ν → Value} {m : Nat} {l : List (κ × ν)} (h : Mp enc val w m l) (ho : Own E e G w base v xs) : Apart (some m) v.ownBlock := fun k hk hv => by
 cases hk
 obtain ⟨es, c, h1, _⟩ := h.heap
 obtain ⟨cells, ⟨hl, hown⟩, hr⟩ := ho.ex
 rcases hown with ⟨rfl, _⟩ | ⟨g, cap, cur, rfl, _, hg, _⟩
 ·cases hv
 ·have : g = m := by simpa [Value.ownBlock] using hv
  subst this
  rw [h1] at hg; cases hg
theorem xL {G : Pin} {w : World} {b : Nat} {cs : List Value} {κ ν : Type} {enc : κ → Value} {val : ν → Value} {m : Nat} {l : List (κ × ν)} (h : Mp enc val w m l) (hb : Bx G w b cs) : Apart (some m) (some b) := fun k hk hv => by
 cases hk; cases hv
 obtain ⟨es, c, h1, _⟩ := h.heap
 obtain ⟨T, hT⟩ := hb.heap
 rw [h1] at hT; cases hT
section
variable {P : Program} {ρ : Operand → Value} {w : World} {K : Value → World → Prop} {d : Option Nat} {t kt et ty : Nat} {pos : String} {aft : Array Edge} {g : Option (Nat × Bool)} {x y z : Operand} {G : Pin}
 {κ ν : Type} [DecidableEq κ] {enc : κ → Value} {val : ν → Value} {m : Nat} {l : List (κ × ν)}
omit [DecidableEq κ] in
theorem kL (enc : κ → Value) (val : ν → Value) (hP : Pins G w) (h : ∀ m w', m = w.heap.size → Mp enc val w' m [] → Pins G w' → Below w.heap.size w w' → K (.map (some m)) w') : EO P ρ ⟨d, .makeMap t none, ty, pos, aft, g⟩ w K := by
 have hb : Below w.heap.size w (w.alloc (.map #[] 0)) := (Below.refl _ _).alloc (cG _) _
 refine EO.run (v := .map (some w.heap.size)) (w' := w.alloc (.map #[] 0)) ?_ (h _ _ rfl ⟨#[], 0, ?_, rfl⟩ (hP.below hb) hb)
 ·simp [execOp, run_makeMap]
 ·exact heap_alloc_new w _
theorem eQ (hk : KeyK P kt enc) (ht : P.underlying t = some (.map kt et)) {zv : Value} (hz : (P.info? et).bind (·.zero) = some zv) (hm : Mp enc val w m l) {k : κ} (hx : ρ x = .map (some m)) (hy : ρ y = enc k) :
  (execOp ρ ⟨d, .lookup t x y true, ty, pos, aft, g⟩).run P w = .ok (.value (.tuple #[((look l k).map val).getD zv, .bool (look l k).isSome])) w := by
 obtain ⟨es, c, h1, h2⟩ := hm.heap
 obtain ⟨it, hit, hzz⟩ := Option.bind_eq_some_iff.1 hz
 have hzv : (zeroValue et).run P w = .ok zv w := by simp [zeroValue, typeInfo, hit, hzz]
 have h2' : es.toList.map (fun e => (e.key, e.val)) = (l.map fun p => (p.1, val p.2)).map fun p => (enc p.1, p.2) := by rw [h2, List.map_map]; rfl
 have hf := hk.find k es.toList _ w h2'
 have hl : look (l.map fun p => (p.1, val p.2)) k = (look l k).map val := by
  unfold look
  rw [List.find?_map, Option.map_map, Option.map_map]; rfl
 have hfl := gB k (l.map fun p => (p.1, val p.2)) 0
 rw [hl] at hfl
 have hrun : (Instr.lookup t (.map (some m)) (enc k) true).run P w = .ok (.tuple #[((look l k).map val).getD zv, .bool (look l k).isSome]) w := by
  unfold Instr.lookup
  simp only [Sem.run_bind, run_underlying ht, Result.andThen_ok, tN h1, Sem.run_pure, hk.check, hf]
  cases hq : findE (l.map fun p => (p.1, val p.2)) k 0 with
  | none =>
   rw [hq] at hfl
   have hn : look l k = none := by
    cases hh : look l k with
    | none => rfl
    | some v => rw [hh] at hfl; cases hfl
   simp [hzv, hn]
  | some r =>
   rw [hq] at hfl
   cases hh : look l k with
   | none => rw [hh] at hfl; cases hfl
   | some v =>
    rw [hh] at hfl
    simp only [Option.map_some, Option.some.injEq] at hfl
    simp [hfl]
 simp [execOp, hx, hy, hrun]
theorem mW {l : List (κ × Int)} (hk : KeyK P kt enc) (ht : P.underlying t = some (.map kt et)) (hz : (P.info? et).bind (·.zero) = some (.int .i64 0)) (hm : Mp enc (fun v : Int => Value.int .i64 v) w m l) {k : κ} (hx : ρ x = .map (some m)) (hy : ρ y = enc k) :
  (execOp ρ ⟨d, .lookup t x y true, ty, pos, aft, g⟩).run P w = .ok (.value (.tuple #[.int .i64 ((look l k).getD 0), .bool (look l k).isSome])) w := by
 rw [eQ hk ht hz hm hx hy]
 cases look l k <;> rfl
theorem rW {l : List (κ × Bool)} (hk : KeyK P kt enc) (ht : P.underlying t = some (.map kt et)) (hz : (P.info? et).bind (·.zero) = some (.bool false)) (hm : Mp enc (fun v : Bool => Value.bool v) w m l) {k : κ} (hx : ρ x = .map (some m)) (hy : ρ y = enc k) :
  (execOp ρ ⟨d, .lookup t x y true, ty, pos, aft, g⟩).run P w = .ok (.value (.tuple #[.bool ((look l k).getD false), .bool (look l k).isSome])) w := by
 rw [eQ hk ht hz hm hx hy]
 cases look l k <;> rfl
theorem vX (hk : KeyK P kt enc) (ht : P.underlying t = some (.map kt et)) {k : κ} {v : ν} (hx : ρ x = .map (some m)) (hy : ρ y = enc k) (hz : ρ z = val v) (hP : Pins G w) (hm : Mp enc val w m l)
  (h : ∀ w', Mp enc val w' m (putE l k v) → Pins G w' → w.grownBy w' (some m) → w'.heap.size = w.heap.size → K undef w') : EO P ρ ⟨d, .mapUpdate t x y z, ty, pos, aft, g⟩ w K := by
 obtain ⟨es, c, h1, h2⟩ := hm.heap
 have h2' : es.toList.map (fun e => (e.key, e.val)) = (l.map fun p => (p.1, val p.2)).map fun p => (enc p.1, p.2) := by rw [h2, List.map_map]; rfl
 have hf := hk.find k es.toList _ w h2'
 have hl : look (l.map fun p => (p.1, val p.2)) k = (look l k).map val := by
  unfold look
  rw [List.find?_map, Option.map_map, Option.map_map]; rfl
 have hfl := gB k (l.map fun p => (p.1, val p.2)) 0
 rw [hl] at hfl
 have hset : ∀ o : Obj, (setObj m o).run P w = .ok () { w with heap := w.heap.setIfInBounds m o } := fun o => by simp [setObj, Sem.run, h1]
 have hgrow : ∀ o : Obj, w.grownBy { w with heap := w.heap.setIfInBounds m o } (some m) := fun o =>
  ⟨rfl, rfl, rfl, by simp, fun j _ hj => by
   simp only [Array.getElem?_setIfInBounds]
   rw [if_neg (fun e => hj (by rw [e]))]⟩
 have hlt := hm.lt
 have hat : ∀ o : Obj, ({ w with heap := w.heap.setIfInBounds m o } : World).heap[m]? = some o := fun o => by
  simp [hlt]
 have hpins : ∀ o : Obj, Pins G { w with heap := w.heap.setIfInBounds m o } := fun o => hP.grown (hgrow o) (fun j hj o' u' => by cases hj; exact hm.free hP o' u')
 have fin : ∀ o : Obj, (Instr.mapUpdate t (.map (some m)) (enc k) (val v)).run P w = .ok () { w with heap := w.heap.setIfInBounds m o } → Mp enc val { w with heap := w.heap.setIfInBounds m o } m (putE l k v) → EO P ρ ⟨d, .mapUpdate t x y z, ty, pos, aft, g⟩ w K := fun o hr hmp =>
  EO.skip (w' := { w with heap := w.heap.setIfInBounds m o }) (by simp [execOp, hx, hy, hz, hr]) (h _ hmp (hpins o) (hgrow o) (by simp))
 have hpm := eV (f := val) k v l
 cases hq : findE (l.map fun p => (p.1, val p.2)) k 0 with
 | none =>
  rw [hq] at hf
  refine fin (.map (es.push { key := enc k, val := val v, born := c }) (c + 1)) ?_ ⟨_, _, hat _, ?_⟩
  ·unfold Instr.mapUpdate
   simp only [Sem.run_bind, run_underlying ht, Result.andThen_ok, tN h1, hk.check, hf, hset]
  ·rw [nP hq] at hpm
   have : (putE l k v).map (fun p => (enc p.1, val p.2)) = ((putE l k v).map fun p => (p.1, val p.2)).map fun p => (enc p.1, p.2) := by rw [List.map_map]; rfl
   rw [this, ← hpm, List.map_append, ← h2']
   simp
 | some r =>
  obtain ⟨i, u⟩ := r
  rw [hq] at hf
  obtain ⟨_, ⟨p, hp, hpk⟩, hset2⟩ := nO (v := val v) hq
  rw [Nat.sub_zero] at hp hset2
  have hei : (es.toList.map (fun e => (e.key, e.val)))[i]? = some (enc k, p.2) := by
   rw [h2', List.getElem?_map, hp]
   simp [hpk]
  obtain ⟨e, he, hek⟩ : ∃ e, es[i]? = some e ∧ e.key = enc k := by
   rw [List.getElem?_map] at hei
   cases hh : es.toList[i]? with
   | none => rw [hh] at hei; cases hei
   | some e =>
    rw [hh] at hei
    simp only [Option.map_some, Option.some.injEq, Prod.mk.injEq] at hei
    exact ⟨e, by rw [← Array.getElem?_toList]; exact hh, hei.1⟩
  have hstay : (Instr.keyThatStays (enc k) (enc k)).run P w = .ok (enc k) w := by
   unfold Instr.keyThatStays
   rw [if_pos (hk.same k)]; rfl
  refine fin (.map (es.modify i fun e => { e with key := enc k, val := val v }) c) ?_ ⟨_, _, hat _, ?_⟩
  ·unfold Instr.mapUpdate
   simp only [Sem.run_bind, run_underlying ht, Result.andThen_ok, tN h1, hk.check, hf, he, Option.map_some, Option.getD_some, hek, hstay, hset]
  ·have : (putE l k v).map (fun p => (enc p.1, val p.2)) = ((putE l k v).map fun p => (p.1, val p.2)).map fun p => (enc p.1, p.2) := by rw [List.map_map]; rfl
   rw [this, ← hpm, hset2, List.map_set, ← h2']
   rw [Array.toList_modify]
   apply List.ext_getElem?
   intro n
   simp only [List.getElem?_map, List.getElem?_set, List.getElem?_modify, List.length_map]
   by_cases hn : i = n
   ·subst hn
    have hlt2 : i < es.toList.length := by
     have := (Array.getElem?_eq_some_iff.1 he).1
     simpa using this
    have hlt3 : i < es.size := by simpa using hlt2
    simp [hlt3]
   ·simp [hn]
end
section
variable {P : Program} {ρ : Operand → Value} {w : World} {d : Option Nat} {t ty t' : Nat} {pos : String} {aft : Array Edge} {g : Option (Nat × Bool)} {x y c : Operand}
 {v u : Value} {i j : Int} {k : IntKind} {G : Pin} {K : Value → World → Prop}
theorem tY {n : Int} (h : 0 ≤ n ∧ n ≤ 18446744073709551615) : IntKind.u64.wrap n = n := by
 unfold IntKind.wrap
 simp only [IntKind.bits, IntKind.signed]
 have : n % (2 : Int) ^ 64 = n := Int.emod_eq_of_lt h.1 (by omega)
 simp only [this, Bool.false_and]
 rfl
theorem wrapI {n : Int} (h : -9223372036854775808 ≤ n ∧ n ≤ 9223372036854775807) : IntKind.i64.wrap n = n := by
 simp [IntWalk.i64_in n h]
theorem r_subX (hx : ρ x = .int .u64 i) (hy : ρ y = .int .u64 j) (h : 0 ≤ i - j ∧ i - j ≤ 18446744073709551615) : (execOp ρ ⟨d, .binOp .sub t x y t', ty, pos, aft, g⟩).run P w = .ok (.value (.int .u64 (i - j))) w := by
 simp [execOp, hx, hy, binOp, eqGuard, Op.intArith, tY h]
theorem r_mulX (hx : ρ x = .int .u64 i) (hy : ρ y = .int .u64 j) (h : 0 ≤ i * j ∧ i * j ≤ 18446744073709551615) : (execOp ρ ⟨d, .binOp .mul t x y t', ty, pos, aft, g⟩).run P w = .ok (.value (.int .u64 (i * j))) w := by
 simp [execOp, hx, hy, binOp, eqGuard, Op.intArith, tY h]
theorem r_quoX (hx : ρ x = .int .u64 i) (hy : ρ y = .int .u64 j) (h0 : 0 ≤ i) (h1 : 0 < j) (h2 : i ≤ 18446744073709551615) : (execOp ρ ⟨d, .binOp .quo t x y t', ty, pos, aft, g⟩).run P w = .ok (.value (.int .u64 (i / j))) w := by
 have hj : j ≠ 0 := by omega
 have he : i.tdiv j = i / j := Int.tdiv_eq_ediv_of_nonneg h0
 have hle : i / j ≤ i := Int.ediv_le_self j h0
 have hge : 0 ≤ i / j := Int.ediv_nonneg h0 (by omega)
 simp [execOp, hx, hy, binOp, eqGuard, Op.intDiv, hj, he, tY (n := i / j) ⟨by omega, by omega⟩]
theorem pR (hx : ρ x = .int .u64 i) (hy : ρ y = .int .u64 j) : (execOp ρ ⟨d, .binOp .add t x y t', ty, pos, aft, g⟩).run P w = .ok (.value (.int .u64 (IntKind.u64.wrap (i + j)))) w := by
 simp [execOp, hx, hy, binOp, eqGuard, Op.intArith]
theorem r_mulU (hx : ρ x = .int .u64 i) (hy : ρ y = .int .u64 j) : (execOp ρ ⟨d, .binOp .mul t x y t', ty, pos, aft, g⟩).run P w = .ok (.value (.int .u64 (IntKind.u64.wrap (i * j)))) w := by
 simp [execOp, hx, hy, binOp, eqGuard, Op.intArith]
theorem r_shrU (hx : ρ x = .int .u64 i) (hy : ρ y = .int .u64 j) (h0 : 0 ≤ j) : (execOp ρ ⟨d, .binOp .shr t x y t', ty, pos, aft, g⟩).run P w = .ok (.value (.int .u64 (i.fdiv (2 ^ (min j.toNat 64))))) w := by
 simp [execOp, hx, hy, binOp, eqGuard, Op.shift, show ¬ j < 0 by omega, IntKind.bits]
def andW (k : IntKind) (i j : Int) : Int := k.wrap (BitVec.ofInt k.bits i &&& BitVec.ofInt k.bits j).toNat
theorem r_and (hx : ρ x = .int k i) (hy : ρ y = .int k j) : (execOp ρ ⟨d, .binOp .and t x y t', ty, pos, aft, g⟩).run P w = .ok (.value (.int k (andW k i j))) w := by
 simp [execOp, hx, hy, binOp, eqGuard, Op.intBits, andW]
theorem low8_lt (i : Int) : 0 ≤ andW .u64 i 255 ∧ andW .u64 i 255 ≤ 255 := by
 have h : (BitVec.ofInt 64 i &&& BitVec.ofInt 64 255).toNat ≤ 255 := by
  rw [BitVec.toNat_and]
  exact cP Nat.and_le_right (by decide)
 have e : andW .u64 i 255 = ((BitVec.ofInt 64 i &&& BitVec.ofInt 64 255).toNat : Int) := tY ⟨by omega, by show ((BitVec.ofInt 64 i &&& BitVec.ofInt 64 255).toNat : Int) ≤ _; omega⟩
 rw [e]; omega
variable {b e : Nat}
theorem fY {t2 : Nat} {k2 : IntKind} {td : TypeDesc} (hs : P.underlying t = some td) (hd : P.underlying t2 = some (.int k2)) (hx : ρ x = .int k i) (hw : k2.wrap i = j) : (execOp ρ ⟨d, .convert t t2 x, ty, pos, aft, g⟩).run P w = .ok (.value (.int k2 j)) w := by
 subst hw
 simp [execOp, hx, convert, run_underlying hs, run_underlying hd, Conv.intToInt]
def arrV (l : List UInt8) : List Value := l.map fun x => .int .u8 x.toNat
theorem arrV_len (l : List UInt8) : (arrV l).length = l.length := by simp [arrV]
theorem o_stpk {k : Nat} {l : List UInt8} {x0 : UInt8} (hs : (P.info? t).map (·.size) = some 1) (hx : ρ x = .pointer (some ⟨b, k, none⟩)) (hy : ρ y = .int .u8 (x0.toNat : Int)) (hk : k < l.length)
  (hP : Pins G w) (hb : Bx G w b (arrV l)) (h : ∀ w', Bx G w' b (arrV (l.set k x0)) → Pins G w' → w.grownBy w' (some b) → w'.heap.size = w.heap.size → K undef w') : EO P ρ ⟨d, .store t x y, ty, pos, aft, g⟩ w K :=
 o_stp (us := [.int .u8 (x0.toNat : Int)]) (cs := arrV l) (cs' := arrV (l.set k x0)) hs hx hy rfl (fun v hv => by simp at hv; subst hv; rfl) hP hb (by rw [arrV_len]; exact hk) (by
  unfold arrV
  rw [List.map_set, List.set_eq_take_append_cons_drop, if_pos (by simpa using hk), List.append_assoc]
  rfl) h
theorem name_arr {n : Nat} {l : List UInt8} {z : Int} (hb : BxP G b (arrV l)) (hn : l.length = n) (hz : 0 ≤ z ∧ z < n) (hm : n ≤ 1000000) : ∃ v, RSl eByte G v (l.drop z.toNat) ∧
  ∀ {P : Program} {w : World} {d : Option Nat} {t ty e : Nat} {pos : String} {aft : Array Edge} {g : Option (Nat × Bool)} {x y : Operand} {ρ : Operand → Value} (_ : P.underlying t = some (.array n e)) (_ : (P.info? e).map (·.size) = some 1) (_ : ρ x = .pointer (some ⟨b, 0, none⟩)) (_ : ρ y = .int .i64 z),
   (execOp ρ ⟨d, .slice t x (some y) none none, ty, pos, aft, g⟩).run P w = .ok (.value v) w := by
 have hne : ¬ n = z.toNat := by omega
 refine ⟨.slice (some ⟨b, z.toNat, none⟩) (n - z.toNat) (n - z.toNat), ⟨⟨_, _, by rw [List.length_drop, hn], by rw [List.length_drop, hn]; exact cG _, by unfold maxLen; omega⟩, fun i q hi => ?_⟩, ?_⟩
 ·rw [List.getElem?_drop] at hi
  refine ⟨⟨b, z.toNat, none⟩, b, z.toNat + i, _, _, [.int .u8 (q.toNat : Int)], rfl, fun k => ?_, rfl, fun j u hj => ?_⟩
  ·show Addr.add ⟨b, z.toNat, none⟩ (i * 1 + k) = _
   by_cases h0 : i * 1 + k = 0
   ·have h1 : i = 0 := by omega
    have h2 : k = 0 := by omega
    subst h1 h2; rfl
   ·simp only [Addr.add, if_neg h0, Addr.mk.injEq, true_and, and_true]; omega
  ·have hj0 : j = 0 := by
    have := (List.getElem?_eq_some_iff.1 hj).1
    simpa using this
   subst hj0
   simp at hj
   subst hj
   exact hb _ _ (by unfold arrV; rw [Nat.add_zero, List.getElem?_map, hi]; rfl)
 ·intro P w d t ty e pos aft g x y ρ ht hs hx hy
  obtain ⟨inf, hinf, hsz⟩ := Option.map_eq_some_iff.1 hs
  have hzn : (z.toNat : Int) ≤ n := by omega
  simp only [execOp, hx, hy, Option.map, Instr.sliceAt, Sem.run_bind, run_underlying ht, Result.andThen_ok, Instr.sureAddr, Sem.run_pure]
  simp [Instr.sliceBounds, run_sliceBound, hz.1, show z ≤ (n : Int) by omega, sizeOf, typeInfo, hinf, hsz, hne, Addr.add]
  omega
theorem o_make0 {α : Type} {E : Elt α} {bytes : Nat} {z : Value} {n : Int} (ht : P.underlying t = some (.slice e)) (hi : (P.info? e).map (fun i => (i.size, i.bytes, i.zero)) = some (E.size, bytes, some z))
  (hx : ρ x = .int .i64 0) (hy : ρ y = .int .i64 n) (hP : Pins G w) (h0 : 0 ≤ n) (hb : (bytes : Int) * n ≤ 281474976710656) (hm : n ≤ 9223372036854775807)
  (h : ∀ v w', Own E e G w' w.heap.size v ([] : List α) → Pins G w' → Below w.heap.size w w' → v.ownBlock = some w.heap.size → K v w') : EO P ρ ⟨d, .makeSlice t x y, ty, pos, aft, g⟩ w K := by
 obtain ⟨inf, hinf, hsz⟩ := Option.map_eq_some_iff.1 hi
 simp only [Prod.mk.injEq] at hsz
 obtain ⟨hsz, hby, hz1⟩ := hsz
 have hr := _root_.Go.run_make (P := P) w t e inf z ht hinf hz1 .i64 .i64 0 n (Int.le_refl _) h0 (by rw [hby]; exact hb) hm
 have hbl : Below w.heap.size w (w.alloc (.cells (madeCells z.cells (n.toNat * inf.size)) e)) := (Below.refl _ _).alloc (cG _) _
 have hfree : ∀ k, Value.ownBlock (.slice (some ⟨w.heap.size, 0, none⟩) 0 n.toNat) = some k → ∀ o u, ¬ G k o u := by
  intro k hk o u hG
  simp [Value.ownBlock] at hk
  have := vM (hP _ _ _ hG); omega
 refine EO.run (v := .slice (some ⟨w.heap.size, 0, none⟩) 0 n.toNat) ?_ (h _ _ ⟨⟨[], ⟨by simp, cF ⟨w.heap.size, n.toNat, madeCells z.cells (n.toNat * inf.size), rfl, cG _, heap_alloc_new w _, cH _, by unfold maxLen; omega, by rw [size_madeCells, hsz], by simp⟩⟩, fun i q hq => by simp at hq⟩, hfree⟩ (hP.below hbl) hbl rfl)
 simp only [execOp, hx, hy, Sem.run_bind, hr, Result.andThen_ok]
 rfl
def b2s (l : List UInt8) : ByteArray := ⟨l.toArray⟩
theorem eF {a b : List UInt8} (h : b2s a = b2s b) : a = b := by
 have := cgA (fun x => x.data.toList) h
 simpa [b2s] using this
theorem nY : ∀ (l : List UInt8) (s : ByteArray), (l.map fun x => (x.toNat : Int)).foldl (fun r n => r.push (UInt8.ofNat n.toNat)) s = ⟨(s.data.toList ++ l).toArray⟩
 | [], s => by cases s; simp
 | x :: l, s => by
  rw [List.map_cons, List.foldl_cons, nY l]
  simp [ByteArray.push]
theorem r_b2s {xs : List UInt8} (ht : P.underlying t = some (.slice e)) (he : P.underlying e = some (.int .u8)) (hs : P.underlying t' = some .string) (hx : ρ x = v) (hv : RSl eByte G v xs) (hP : Pins G w) :
  (execOp ρ ⟨d, .convert t t' x, ty, pos, aft, g⟩).run P w = .ok (.value (.string (b2s xs))) w := by
 obtain ⟨a, cp, rfl, _, _⟩ := hv.sl
 have key : (Conv.bytesToString (.slice a xs.length cp)).run P w = .ok (.string (b2s xs)) w := by
  cases a with
  | none =>
   have h0 : xs = [] := by
    cases xs with
    | nil => rfl
    | cons q r =>
     obtain ⟨a', _, _, _, _, _, h1, _⟩ := hv.at_ 0 q rfl
     cases h1
   subst h0; rfl
  | some a =>
   have hcell : ∀ j q, (xs.map fun x => Value.int .u8 (x.toNat : Int))[j]? = some q → w.cell? (a.add j) = some q := fun j q hj => by
    rw [List.getElem?_map] at hj
    obtain ⟨y, hy, rfl⟩ := Option.map_eq_some_iff.1 hj
    obtain ⟨a', b, o, n, c', cs, h1, h2, h3, h4⟩ := hv.at_ j y hy
    simp only [Value.slice.injEq, Option.some.injEq] at h1
    obtain ⟨rfl, _, _⟩ := h1
    have h5 := h2 0
    simp only [eByte, Nat.mul_one, Nat.add_zero] at h5 h3
    rw [h5]
    exact hP _ _ _ (by have := h4 0 _ (by rw [h3]; rfl); simpa using this)
   have hl := run_loadCells_list (P := P) w a (xs.map fun x => Value.int .u8 (x.toNat : Int)) hcell
   rw [List.length_map] at hl
   have e0 : (xs.map fun x => Value.int .u8 (x.toNat : Int)) = (xs.map fun x => (x.toNat : Int)).map (Value.int .u8) := by rw [List.map_map]; rfl
   rw [e0] at hl
   rw [run_bytesToString w a xs.length cp _ hl, nY]
   simp [b2s]
 simp only [execOp, hx, convert, Sem.run_bind, run_underlying ht, run_underlying hs, Result.andThen_ok, run_underlying he, key]
 rfl
def digC (n : Nat) : UInt8 := if n < 10 then UInt8.ofNat (48 + n) else UInt8.ofNat (87 + n)
def digs36 : ByteArray := ⟨#[48, 49, 50, 51, 52, 53, 54, 55, 56, 57, 97, 98, 99, 100, 101, 102, 103, 104, 105, 106, 107, 108, 109, 110, 111, 112, 113, 114, 115, 116, 117, 118, 119, 120, 121, 122]⟩
theorem digs_at : ∀ n : Fin 36, digs36[n.val]? = some (digC n.val) := by decide
theorem r_digit (ht : P.underlying t = some .string) (hx : ρ x = .string digs36) (hy : ρ y = .int k i) (h : 0 ≤ i ∧ i < 36) : (execOp ρ ⟨d, .index t x y, ty, pos, aft, g⟩).run P w = .ok (.value (.int .u8 ((digC i.toNat).toNat : Int))) w := by
 have e := digs_at ⟨i.toNat, by omega⟩
 simp only at e
 simp [execOp, hx, hy, Instr.index, asIntOf, run_underlying ht, h.1, e]
end
theorem digC_inj : ∀ a b : Fin 36, digC a.val = digC b.val → a = b := by decide
theorem digC_sep : ∀ a : Fin 36, digC a.val ≠ 44 ∧ digC a.val ≠ 124 := by decide
def dig36 (n : Nat) : List UInt8 := if _h : n < 36 then [digC n] else dig36 (n / 36) ++ [digC (n % 36)]
termination_by n
decreasing_by omega
theorem kY {n : Nat} (h : n < 36) : dig36 n = [digC n] := by rw [dig36, dif_pos h]
theorem fJ {n : Nat} (h : ¬ n < 36) : dig36 n = dig36 (n / 36) ++ [digC (n % 36)] := by rw [dig36, dif_neg h]
theorem sQ (n : Nat) : 0 < (dig36 n).length := by
 by_cases h : n < 36
 ·rw [kY h]; simp
 ·rw [fJ h]; simp
theorem dig_len : ∀ (k n : Nat), n < 36 ^ (k + 1) → (dig36 n).length ≤ k + 1
 | 0, n, h => by rw [kY (by simpa using h)]; simp
 | k + 1, n, h => by
  by_cases hn : n < 36
  ·rw [kY hn]; simp
  ·rw [fJ hn]
   have := dig_len k (n / 36) (by rw [Nat.pow_succ] at h; omega)
   simp; omega
theorem dig13 {n : Nat} (h : n < 9223372036854775808) : (dig36 n).length ≤ 13 := by
 have h36 : (36 : Nat) ^ 13 = 170581728179578208256 := by decide
 exact dig_len 12 n (by omega)
theorem sP (n : Nat) : ∀ x ∈ dig36 n, x ≠ 44 ∧ x ≠ 124 := by
 induction n using Nat.strongRecOn with
 | _ n ih =>
  intro x hx
  by_cases h : n < 36
  ·rw [kY h] at hx; simp at hx; subst hx; exact digC_sep ⟨n, h⟩
  ·rw [fJ h] at hx
   rcases List.mem_append.1 hx with hx | hx
   ·exact ih _ (by omega) x hx
   ·simp at hx; subst hx; exact digC_sep ⟨n % 36, by omega⟩
theorem dig_inj : ∀ (a b : Nat), dig36 a = dig36 b → a = b := by
 intro a
 induction a using Nat.strongRecOn with
 | _ a ih =>
  intro b h
  by_cases ha : a < 36 <;> by_cases hb : b < 36
  ·rw [kY ha, kY hb] at h
   have := digC_inj ⟨a, ha⟩ ⟨b, hb⟩ (by simpa using h)
   simpa using this
  ·rw [kY ha, fJ hb] at h
   have h1 := cgA List.length h
   have := sQ (b / 36)
   rw [List.length_append] at h1
   simp only [List.length_cons, List.length_nil] at h1; omega
  ·rw [fJ ha, kY hb] at h
   have h1 := cgA List.length h
   have := sQ (a / 36)
   rw [List.length_append] at h1
   simp only [List.length_cons, List.length_nil] at h1; omega
  ·rw [fJ ha, fJ hb] at h
   obtain ⟨h1, h2⟩ := List.append_inj' h rfl
   have e1 := ih (a / 36) (by omega) _ h1
   have e2 := digC_inj ⟨a % 36, by omega⟩ ⟨b % 36, by omega⟩ (by simpa using h2)
   simp at e2; omega
variable {u0 : Nat} {uz iz : Int} {L : List UInt8}
theorem dig_step (hd : dig36 u0 = dig36 uz.toNat ++ L.drop iz.toNat) (hL : L.length = 65) (hu : 36 ≤ uz) (hi : 1 ≤ iz ∧ iz ≤ 65) :
  dig36 u0 = dig36 (uz / 36).toNat ++ (L.set (iz - 1).toNat (digC (uz - (uz / 36 * 36)).toNat)).drop (iz - 1).toNat := by
 have e1 : (uz / 36).toNat = uz.toNat / 36 := by omega
 have e2 : (uz - (uz / 36 * 36)).toNat = uz.toNat % 36 := by omega
 have e3 : iz.toNat = (iz - 1).toNat + 1 := by omega
 rw [hd, fJ (by omega), e1, e2, e3, List.append_assoc]
 congr 1
 rw [List.drop_set, if_neg (by omega), Nat.sub_self, List.drop_eq_getElem_cons (by omega : (iz - 1).toNat < L.length)]
 rfl
theorem dig_last (hd : dig36 u0 = dig36 uz.toNat ++ L.drop iz.toNat) (hL : L.length = 65) (hu : ¬ 36 ≤ uz) (hi : 1 ≤ iz ∧ iz ≤ 65) :
  (L.set (iz - 1).toNat (digC uz.toNat)).drop (iz - 1).toNat = dig36 u0 := by
 have e3 : iz.toNat = (iz - 1).toNat + 1 := by omega
 rw [hd, kY (by omega), e3]
 rw [List.drop_set, if_neg (by omega), Nat.sub_self, List.drop_eq_getElem_cons (by omega : (iz - 1).toNat < L.length)]
 rfl
theorem dig_place (hd : dig36 u0 = dig36 uz.toNat ++ L.drop iz.toNat) (hL : L.length = 65) (h0 : u0 < 9223372036854775808) : 53 ≤ iz := by
  have h1 := cgA List.length hd
  have h2 := sQ uz.toNat
  have h3 := dig_len 12 u0 (by have : (36 : Nat) ^ 13 = 170581728179578208256 := by decide
                               omega)
  rw [List.length_append, List.length_drop] at h1
  omega
theorem not_pow36 : decide (andW .i64 36 (36 - 1) = (0 : Int)) = false := by decide
def keyL (l : List Int) : List UInt8 := l.flatMap fun z => dig36 z.toNat ++ [44]
def keyN (l r : List Int) : List UInt8 := keyL l ++ [124] ++ keyL r
theorem key_next {l : List Int} {j : Nat} (h : j < l.length) : keyL (l.take (j + 1)) = keyL (l.take j) ++ dig36 (l.getD j 0).toNat ++ [44] := by
 rw [jF l 0 h]; simp [keyL]
theorem cut_at {s : UInt8} : ∀ {a b x y : List UInt8}, (∀ z ∈ a, z ≠ s) → (∀ z ∈ b, z ≠ s) → a ++ s :: x = b ++ s :: y → a = b ∧ x = y
 | [], [], _, _, _, _, h => by simpa using h
 | [], q :: b, _, _, _, hb, h => by simp at h; exact absurd h.1.symm (hb q List.mem_cons_self)
 | p :: a, [], _, _, ha, _, h => by simp at h; exact absurd h.1 (ha p List.mem_cons_self)
 | p :: a, q :: b, x, y, ha, hb, h => by
  simp only [List.cons_append, List.cons.injEq] at h
  obtain ⟨h1, h2⟩ := cut_at (a := a) (b := b) (fun z hz => ha z (List.mem_cons_of_mem _ hz)) (fun z hz => hb z (List.mem_cons_of_mem _ hz)) h.2
  exact ⟨by rw [h.1, h1], h2⟩
theorem tL (z : Int) (l : List Int) (x : List UInt8) : keyL (z :: l) ++ x = dig36 z.toNat ++ 44 :: (keyL l ++ x) := by simp [keyL]
theorem keyL_sep (l : List Int) : ∀ x ∈ keyL l, x ≠ 124 := fun x hx => by
 obtain ⟨z, _, hz⟩ := List.mem_flatMap.1 hx
 rcases List.mem_append.1 hz with hz | hz
 ·exact (sP _ x hz).2
 ·simp at hz; subst hz; decide
theorem mI : ∀ {a b : List Int}, (∀ z ∈ a, 0 ≤ z) → (∀ z ∈ b, 0 ≤ z) → keyL a = keyL b → a = b
 | [], [], _, _, _ => rfl
 | [], z :: b, _, _, h => by
  have := cgA List.length h
  simp [keyL] at this
 | z :: a, [], _, _, h => by
  have := cgA List.length h
  simp [keyL] at this
 | z :: a, y :: b, ha, hb, h => by
  have e1 := tL z a []
  have e2 := tL y b []
  rw [List.append_nil, List.append_nil] at e1 e2
  rw [e1, e2] at h
  obtain ⟨h1, h2⟩ := cut_at (fun q hq => (sP _ q hq).1) (fun q hq => (sP _ q hq).1) h
  have := dig_inj _ _ h1
  have z0 := ha z List.mem_cons_self; have y0 := hb y List.mem_cons_self
  rw [mI (fun q hq => ha q (List.mem_cons_of_mem _ hq)) (fun q hq => hb q (List.mem_cons_of_mem _ hq)) h2, show z = y by omega]
theorem mH {a b c e : List Int} (ha : ∀ z ∈ a, 0 ≤ z) (hb : ∀ z ∈ b, 0 ≤ z) (hc : ∀ z ∈ c, 0 ≤ z) (he : ∀ z ∈ e, 0 ≤ z) (h : keyN a b = keyN c e) : a = c ∧ b = e := by
 unfold keyN at h
 rw [List.append_assoc, List.append_assoc] at h
 obtain ⟨h1, h2⟩ := cut_at (keyL_sep a) (keyL_sep c) h
 exact ⟨mI ha hc h1, mI hb he h2⟩
theorem key_len {l : List Int} (h : ∀ z ∈ l, 0 ≤ z ∧ z < 9223372036854775808) : (keyL l).length ≤ 14 * l.length := by
  induction l with
  | nil => simp [keyL]
  | cons z l ih =>
    have e := tL z l []
    rw [List.append_nil] at e
    have h1 := h z List.mem_cons_self
    have := dig_len 12 z.toNat (by have : (36 : Nat) ^ 13 = 170581728179578208256 := by decide
                                   omega)
    have := ih fun y hy => h y (List.mem_cons_of_mem _ hy)
    rw [e]; simp; omega
theorem rQ {w : World} {x y z : Option Nat} (h : Lo w (inO y) x) (ha : Apart z y) (hl : ∀ k, z = some k → k < w.heap.size) : Apart z x := fun k hz hx => by
 rcases h k hx with h1 | h1
 ·have := hl k hz; omega
 ·exact ha k hz h1
theorem sD {w0 w : World} {S : Nat → Prop} {x y : Option Nat} (h : Lo w (inO y) x) (hy : Lo w0 S y) (hs : w0.heap.size ≤ w.heap.size) : Lo w0 S x := fun k hk => by
 rcases h k hk with h1 | h1
 ·exact cE (by omega)
 ·exact hy k h1
end Go.GL
namespace Go.GL
open Go Go.RowKit Go.Sort
variable {e base g cap : Nat} {G : Pin} {zs : List Int} {w' : World} {x : Int}
theorem nR {n : Nat} {w : World} (h : Own eInt e G w base (.slice (some ⟨g, 0, none⟩) n cap) zs) : n = zs.length ∧ g < w.heap.size ∧ zs.length ≤ cap ∧ Holds (Value.int .i64) w g 0 zs.toArray := by
 obtain ⟨cells, ⟨hl, hown⟩, hr⟩ := h.ex
 rcases hown with ⟨he, _⟩ | ⟨g', cap', cur, he, hb, hg, hnc, hcm, hcs, htake⟩
 ·cases he
 ·simp only [Value.slice.injEq, Option.some.injEq, Addr.mk.injEq] at he
  obtain ⟨⟨rfl, _⟩, rfl, rfl⟩ := he
  refine ⟨rfl, (Array.getElem?_eq_some_iff.1 hg).1, hnc, fun j hj => ?_⟩
  have hj' : j < zs.length := by simpa using hj
  have hz : zs[j]? = some zs[j] := List.getElem?_eq_getElem hj'
  have h1 := hr j _ hz
  have h2 : (List.drop (j * eInt.size) cells).take eInt.size = [.int .i64 zs[j]] := h1
  have h3 : cells[j]? = some (.int .i64 zs[j]) := by
   have := cgA (fun l => l[0]?) h2
   simp only [List.getElem?_take, List.getElem?_drop] at this
   simpa [eInt] using this
  rw [← htake, List.getElem?_take] at h3
  split at h3
  ·have h4 : cur[j]? = some (.int .i64 zs[j]) := by simpa using h3
   refine ⟨?_, ?_⟩
   ·rw [cell_of_row w g _ cur e (0, 0) hg, cQ, h4]
    simp [hj']
   ·simp [World.frozen?, hg]
  ·cases h3
theorem own_put {n : Nat} {w : World} {ys : List Int} {d : Array Int} {os : Array Obj} {m : Nat} (h : Own eInt e G w base (.slice (some ⟨g, 0, none⟩) n cap) zs) (hP : Pins G w)
  (hw : w' = grow (putRow (Value.int .i64) (Go.Sort.ahead w m) g 0 d) os) (hd : d.size = zs.length) (hy : d.toList.take ys.length = ys) : Own eInt e G w' base (.slice (some ⟨g, 0, none⟩) ys.length cap) ys ∧ Pins G w' ∧ w.grownBy w' (some g) := by
 obtain ⟨cells, ⟨hl, hown⟩, hr⟩ := h.ex
 have hfree := h.free
 rcases hown with ⟨he, _⟩ | ⟨g', cap', cur, he, hb, hg, hnc, hcm, hcs, htake⟩
 ·cases he
 ·simp only [Value.slice.injEq, Option.some.injEq, Addr.mk.injEq] at he
  obtain ⟨⟨rfl, _⟩, rfl, rfl⟩ := he
  have hlt : g < w.heap.size := (Array.getElem?_eq_some_iff.1 hg).1
  have hle : ys.length ≤ d.size := by
   have := cgA List.length hy
   simp only [List.length_take, Array.length_toList] at this; omega
  have hh : w'.heap = w.heap.modify g (onCells (putCells (Value.int .i64) 0 d)) ++ os := by subst hw; rfl
  have hat : w'.heap[g]? = some (.cells (putCells (Value.int .i64) 0 d cur) e (0, 0)) := by
   rw [hh, Array.getElem?_append_left (by simpa using hlt), Array.getElem?_modify, if_pos rfl, hg]; rfl
  have hgr : w.grownBy w' (some g) := ⟨by subst hw; rfl, by subst hw; rfl, by subst hw; rfl, by rw [hh]; simp, fun k hk hne => by
   rw [hh, Array.getElem?_append_left (by simpa using hk), Array.getElem?_modify, if_neg (fun e => hne (by rw [e]))]⟩
  refine ⟨⟨⟨ys.map (Value.int .i64), ⟨by simp [eInt], cF ⟨g, cap, _, rfl, hb, hat, by omega, hcm, by rw [putCells, Array.size_mapIdx, hcs], ?_⟩⟩, fun i x hx => ?_⟩, hfree⟩, hP.grown hgr (fun k hk => by cases hk; exact hfree g rfl), hgr⟩
  ·apply List.ext_getElem?
   intro j
   simp only [eInt, Nat.mul_one, List.getElem?_take, Array.getElem?_toList, putCells, Array.getElem?_mapIdx, List.getElem?_map]
   by_cases hj : j < ys.length
   ·have hjc : j < cur.size := by rw [hcs]; simp only [eInt]; omega
    rw [if_pos hj, Array.getElem?_eq_getElem hjc, Option.map_some, if_pos (by omega), List.getElem?_eq_getElem hj]
    simp only [Option.map_some, Nat.sub_zero, Option.some.injEq, Value.int.injEq, true_and]
    have h5 : ys[j]? = d[j]? := by
     have := cgA (fun l => l[j]?) hy
     simp only [List.getElem?_take, if_pos hj, Array.getElem?_toList] at this
     exact this.symm
    rw [List.getElem?_eq_getElem hj, Array.getElem?_eq_getElem (show j < d.size by omega)] at h5
    rw [getElem!_pos d j (by omega)]
    simpa using h5.symm
   ·rw [if_neg hj, List.getElem?_eq_none (by omega)]; rfl
  ·show (List.drop (i * 1) (ys.map (Value.int .i64))).take 1 = [.int .i64 x]
   have hi := (List.getElem?_eq_some_iff.1 hx).1
   rw [Nat.mul_one, List.drop_eq_getElem_cons (by simpa using hi)]
   simp only [List.getElem_map, List.take_succ_cons, List.take_zero, List.cons.injEq, and_true, Value.int.injEq, true_and]
   rw [List.getElem?_eq_getElem hi] at hx
   simpa using hx
theorem Ext.one {w : World} {x : Option Nat} (hP : Pins G w') (hg : w.grownBy w' x) : Ext (inO x) G w G w' :=
 ⟨cI _, hP, fun _ _ _ h => cE h, hg.os, hg.tape, hg.output, hg.size, fun k hk hs => hg.block k hk fun e => hs e.symm⟩
def sortM (zs : List Int) : List Int := zs.mergeSort fun x y => decide (x ≤ y)
theorem sortM_pw (zs : List Int) : (sortM zs).Pairwise (· ≤ ·) := by
 have := List.pairwise_mergeSort (le := fun x y : Int => decide (x ≤ y)) (fun a b c h1 h2 => by simp at *; omega) (fun a b => by simp; omega) zs
 exact this.imp fun h => by simpa using h
theorem mem_sortM : x ∈ sortM zs ↔ x ∈ zs := List.mem_mergeSort
theorem kT (zs : List Int) : (sortM zs).length = zs.length := List.length_mergeSort _
theorem compact_mem : x ∈ Lib.compact zs ↔ x ∈ zs := by
 unfold Lib.compact Lib.compactUpTo
 rw [List.mem_map]
 constructor
 ·rintro ⟨j, hj, rfl⟩
  have := List.mem_range.1 (List.mem_filter.1 hj).1
  simp [this]
 ·intro hx
  have key : ∀ j, j < zs.length → zs.getD j 0 = x → ∃ i, i ∈ (List.range zs.length).filter (Lib.keeps zs.toArray) ∧ zs.toArray[i]! = x := by
   intro j
   induction j with
   | zero => intro h1 h2; exact ⟨0, List.mem_filter.2 ⟨List.mem_range.2 h1, by simp [Lib.keeps]⟩, by simpa [List.getD, h1] using h2⟩
   | succ j ih =>
    intro h1 h2
    by_cases he : zs.getD j 0 = x
    ·exact ih (by omega) he
    ·refine ⟨j + 1, List.mem_filter.2 ⟨List.mem_range.2 h1, ?_⟩, by simpa [List.getD, h1] using h2⟩
     unfold Lib.keeps
     refine decide_eq_true (cF ?_)
     have e1 : zs.toArray[j + 1]! = x := by simpa [List.getD, h1] using h2
     have e2 : zs.toArray[j + 1 - 1]! = zs.getD j 0 := by simp [List.getD, show j < zs.length by omega]
     rw [e1, e2]; exact fun e => he e.symm
  obtain ⟨j, hj, e⟩ := List.getElem_of_mem hx
  exact key j hj (by simp [List.getD, hj, e])
theorem compact_pw (h : zs.Pairwise (· ≤ ·)) : (Lib.compact zs).Pairwise (· < ·) := by
 unfold Lib.compact Lib.compactUpTo
 rw [List.pairwise_map]
 have hs : ∀ i j, i ≤ j → j < zs.length → zs.toArray[i]! ≤ zs.toArray[j]! := fun i j hij hj => by
  have e1 : zs.toArray[i]! = zs[i]'(by omega) := by simp [show i < zs.length by omega]
  have e2 : zs.toArray[j]! = zs[j] := by simp [hj]
  rw [e1, e2]
  by_cases he : i = j
  ·subst he; exact Int.le_refl _
  ·exact List.pairwise_iff_getElem.1 h i j (by omega) hj (by omega)
 refine (List.Pairwise.filter _ List.pairwise_lt_range).imp_of_mem ?_
 intro a b ha hb hab
 have hb1 := List.mem_filter.1 hb
 have hbl := List.mem_range.1 hb1.1
 have hk := of_decide_eq_true hb1.2
 rcases hk with hk | hk
 ·omega
 ·have h1 := hs a (b - 1) (by omega) (by omega)
  have h2 := hs (b - 1) b (by omega) hbl
  omega
theorem distinct_eq (zs : List Int) : Lib.compact (sortM zs) = sortL zs :=
 fT (compact_pw (sortM_pw zs)) (vH zs) fun z => by rw [compact_mem, mem_sortM, mem_sortL]
theorem compact_len (zs : List Int) : (Lib.compact zs).length ≤ zs.length := by
 unfold Lib.compact Lib.compactUpTo
 rw [List.length_map]
 exact cP (List.length_filter_le _ _) (by simp)
theorem nS {w : World} {v : Value} (h : Own eInt e G w base v zs) : (v = .slice none 0 0 ∧ zs = []) ∨ ∃ g cap, v = .slice (some ⟨g, 0, none⟩) zs.length cap := by
 obtain ⟨cells, ⟨hl, hown⟩, hr⟩ := h.ex
 rcases hown with ⟨rfl, h0⟩ | ⟨g, cap, cur, rfl, _⟩
 ·exact cE ⟨rfl, List.eq_nil_of_length_eq_zero h0⟩
 ·exact cF ⟨g, cap, rfl⟩
end Go.GL
namespace Go.GL
structure SG (ns : List Nd) : Prop where
 lo : 1 ≤ ns.length
 wf : Wf ns
 srt : SortedB ns (births ns)
 last : ∀ k : Nat, k + 1 < ns.length → ∃ j, k < j ∧ j < ns.length ∧ ((k : Int) ∈ (ns.getD j default).l ∨ (k : Int) ∈ (ns.getD j default).r)
variable {hi : Int} {ns : List Nd} {m z : Nat} {bs : List Int}
theorem rise_pw {l : List Int} (h : l.Pairwise (· < ·)) (hb : ∀ z ∈ l, 0 ≤ z ∧ z ≤ hi) : Rise l 0 hi := fun i hi' => by
 refine ⟨hb _ (xG hi'), fun h0 => ?_⟩
 have := List.pairwise_iff_getElem.1 h (i - 1) i (by omega) hi' (by omega)
 simpa [List.getD, hi', show i - 1 < l.length by omega] using this
theorem pw_rise {l : List Int} {lo : Int} (h : Rise l lo hi) : l.Pairwise (· < ·) := by
 rw [List.pairwise_iff_getElem]
 intro i j hi hj hij
 have key : ∀ j, i < j → j < l.length → l.getD i 0 < l.getD j 0 := by
  intro j
  induction j with
  | zero => intro h0; omega
  | succ j ih =>
   intro h1 h2
   have a := (h (j + 1) h2).2 (by omega)
   simp only [Nat.add_sub_cancel] at a
   by_cases he : i = j
   ·subst he; exact a
   ·have := ih (by omega) (by omega); omega
 have := key j hij hj
 simpa [List.getD, hi, hj] using this
theorem SG.opts (h : SG ns) : OptsOk ns := h.wf.ok.opts
theorem SG.pw (h : SG ns) : ∀ i, i < ns.length → (ns.getD i default).l.Pairwise (· < ·) ∧ (ns.getD i default).r.Pairwise (· < ·) := fun i hi => ⟨pw_rise (h.wf.rise i hi).1, pw_rise (h.wf.rise i hi).2⟩
theorem SG.diff (h : SG ns) : Diff ns := fun i j hij hj he => by
 have hb := qJ h.opts
 rcases h.srt i j hij hj with h1 | ⟨_, h1⟩
 ·rw [hb.2 i (by omega), hb.2 j hj, he] at h1; omega
 ·rw [ahead_zero.2 he] at h1; omega
theorem SG.inj (h : SG ns) {i j : Nat} (hi : i < ns.length) (hj : j < ns.length) (he : den ns i = den ns j) : i = j := fQ h.opts h.pw h.diff _ i j (cG _) hi hj he
theorem fF {k : Nat} : ∀ {l : List Int} {is : List Bool}, (setAll is l).getD k false = true → is.getD k false = true ∨ ∃ z ∈ l, z.toNat = k
 | [], _, h => cE h
 | x :: l, is, h => by
  rcases fF (l := l) (is := is.set x.toNat true) h with h1 | ⟨z, hz, e⟩
  ·by_cases he : x.toNat = k
   ·exact cF ⟨x, List.mem_cons_self, he⟩
   ·rw [qB he] at h1; exact cE h1
  ·exact cF ⟨z, List.mem_cons_of_mem _ hz, e⟩
theorem eL {ns : List Nd} {k : Nat} : ∀ {q : Nat} {is : List Bool}, (ugo ns q is).getD k false = true → is.getD k false = true ∨ ∃ j, j < q ∧ (ugo ns q is).getD j false = true ∧ ∃ z, (z ∈ (ns.getD j default).l ∨ z ∈ (ns.getD j default).r) ∧ z.toNat = k
 | 0, _, h => cE h
 | q + 1, is, h => by
  rcases eL (q := q) (is := ustep ns is q) h with h1 | ⟨j, hj, h2, h3⟩
  ·by_cases hq : is.getD q false = true
   ·rw [fL hq] at h1
    have hm : (ugo ns (q + 1) is).getD q false = true := fD hq
    rcases fF h1 with h1 | ⟨z, hz, e⟩
    ·rcases fF h1 with h1 | ⟨z, hz, e⟩
     ·exact cE h1
     ·exact cF ⟨q, by omega, hm, z, cE hz, e⟩
    ·exact cF ⟨q, by omega, hm, z, cF hz, e⟩
   ·rw [rR (by simpa using hq)] at h1; exact cE h1
  ·exact cF ⟨j, by omega, h2, h3⟩
theorem rY {k : Nat} (h : (reachM ns m).getD k false = true) : k = m ∨ ∃ j, j ≤ m ∧ (reachM ns m).getD j false = true ∧ ∃ z, (z ∈ (ns.getD j default).l ∨ z ∈ (ns.getD j default).r) ∧ z.toNat = k := by
 unfold reachM at h ⊢
 rcases eL h with h1 | ⟨j, hj, h2⟩
 ·left
  by_cases he : m = k
  ·exact he.symm
  ·rw [qB he] at h1
   simp [List.getD, List.getElem?_replicate] at h1
   split at h1 <;> simp at h1
 ·exact cF ⟨j, by omega, h2⟩
theorem reach_self : (reachM ns m).getD m false = true := by
 unfold reachM
 exact fD (by simp [List.getD])
theorem pQ (ho : OptsOk ns) (hm : m < ns.length) (hz : z ≤ m) (hu : (reachM ns m).getD z false = true) :
  (∀ o ∈ (ns.getD z default).l, (reachM ns m).getD o.toNat false = true) ∧ (∀ o ∈ (ns.getD z default).r, (reachM ns m).getD o.toNat false = true) :=
 rT ho (by omega) (by simp) z (by omega) hu
theorem lower_of (ho : OptsOk ns) (hb : BirthsOf ns bs) : Lower ns bs := fun z hz => by
 have hb := hb.2 z hz
 have o := xI ho hz
 have h1 := kZ (bs := bs) (l := (ns.getD z default).r) (b := bornOf bs (ns.getD z default).l 0)
 have h2 := kZ (bs := bs) (l := (ns.getD z default).l) (b := 0)
 unfold putBorn at hb
 exact ⟨fun x hx => by have := o.1 x hx; have := h2.2 x hx; omega, fun x hx => by have := o.2 x hx; have := h1.2 x hx; omega⟩
theorem eA (hb : BirthsOf ns bs) (hz : z < ns.length) : 0 ≤ bs.getD z 0 := by
 rw [hb.2 z hz]
 exact (putBorn_le.1 (Int.le_refl _)).1
theorem tV {bs bs' A : List Int} : ∀ {l : List Int} {b : Int}, (∀ o ∈ l, bs'.getD (A.getD o.toNat 0).toNat 0 = bs.getD o.toNat 0) → bornOf bs' (atL A l) b = bornOf bs l b
 | [], _, _ => rfl
 | x :: l, b, h => by
  show bornOf bs' (atL A l) (max b (bs'.getD (A.getD x.toNat 0).toNat 0 + 1)) = bornOf bs l (max b (bs.getD x.toNat 0 + 1))
  rw [h x List.mem_cons_self]
  exact tV fun o ho => h o (List.mem_cons_of_mem _ ho)
theorem mem_atL {A l : List Int} {x : Int} : x ∈ atL A l ↔ ∃ o ∈ l, A.getD o.toNat 0 = x := by simp [atL]
theorem sM (h : Ar ns bs) (hm : m < ns.length) : SG (formM ns bs m) ∧ gOf (formM ns bs m) = den ns m ∧ (formM ns bs m).length ≤ m + 1 := by
  have ho := h.opts
  have hlw := lower_of ho h.born
  have hlen : (formM ns bs m).length ≤ m + 1 := by
    unfold formM
    rw [mN]
    exact cP List.countP_le_length (by simp)
  have hlim := h.ok.lim
  obtain ⟨fa, go⟩ := go_ok (need := reachM ns m) hlw (show m + 1 ≤ ns.length by omega) ((bs.getD m 0).toNat + 1)
  have hbm := eA h.born hm
  unfold formM at hlen ⊢
  generalize formGo ns bs (reachM ns m) (m + 1) ((bs.getD m 0).toNat + 1) = s at go hlen
  obtain ⟨A, out⟩ := s
  have hmap : out = fa.map (ndz ns A) := go.map
  have hpos : ∀ p, p < fa.length → A.getD (fa.getD p 0).toNat 0 = p := go.pos
  have hN : out.length = fa.length := by rw [hmap]; simp
  simp only at hlen ⊢
  have hget : ∀ p, p < fa.length → out.getD p default = ndz ns A (fa.getD p 0) := fun p hp => by rw [hmap]; simp [List.getD, hp]
  have hmem : ∀ p, p < fa.length → 0 ≤ fa.getD p 0 ∧ fa.getD p 0 ≤ m ∧ (reachM ns m).getD (fa.getD p 0).toNat false = true ∧ bs.getD (fa.getD p 0).toNat 0 ≤ bs.getD m 0 := fun p hp => by
    have a := go.mem _ (xG (d := (0 : Int)) hp)
    exact ⟨a.1, by omega, go.nd _ (xG hp), by omega⟩
  have hfind : ∀ z : Nat, z ≤ m → (reachM ns m).getD z false = true → bs.getD z 0 ≤ bs.getD m 0 → ∃ p, p < fa.length ∧ fa.getD p 0 = z ∧ A.getD z 0 = p := fun z hz a b => by
    obtain ⟨p, hp, e⟩ := List.getElem_of_mem (go.all z (by omega) a (eA h.born (by omega)) (by omega))
    have c : fa.getD p 0 = z := by simp [List.getD, hp, e]
    have := hpos p hp
    rw [c] at this
    exact ⟨p, hp, c, by simpa using this⟩
  have hord : ∀ p p', p < p' → p' < fa.length → bs.getD (fa.getD p 0).toNat 0 < bs.getD (fa.getD p' 0).toNat 0 ∨ (bs.getD (fa.getD p 0).toNat 0 = bs.getD (fa.getD p' 0).toNat 0 ∧ aheadI (ndz ns A (fa.getD p 0)) (ndz ns A (fa.getD p' 0)) ≤ 0) := fun p p' hpp hp' => by
    have := List.pairwise_iff_getElem.1 go.order p p' (by omega) hp' hpp
    simpa [List.getD, hp', show p < fa.length by omega] using this
  have hopt : ∀ p, p < fa.length → (∀ o ∈ (ns.getD (fa.getD p 0).toNat default).l, 0 ≤ o ∧ ∃ p', p' < p ∧ fa.getD p' 0 = o ∧ A.getD o.toNat 0 = p') ∧ (∀ o ∈ (ns.getD (fa.getD p 0).toNat default).r, 0 ≤ o ∧ ∃ p', p' < p ∧ fa.getD p' 0 = o ∧ A.getD o.toNat 0 = p') := fun p hp => by
    have u := hmem p hp
    have g := hlw (fa.getD p 0).toNat (by omega)
    have hc := pQ ho hm (z := (fa.getD p 0).toNat) (by omega) u.2.2.1
    have key : ∀ o : Int, 0 ≤ o → o < (fa.getD p 0).toNat → bs.getD o.toNat 0 < bs.getD (fa.getD p 0).toNat 0 → (reachM ns m).getD o.toNat false = true → ∃ p', p' < p ∧ fa.getD p' 0 = o ∧ A.getD o.toNat 0 = p' := fun o h0 a b t => by
      obtain ⟨p', hp', f, c⟩ := hfind o.toNat (by omega) t (by omega)
      have e1' : fa.getD p' 0 = o := by omega
      refine ⟨p', ?_, e1', c⟩
      by_cases hlt : p' < p
      · exact hlt
      · by_cases he : p' = p
        · subst he; omega
        · rcases hord p p' (by omega) hp' with v | ⟨v, _⟩ <;> rw [e1'] at v <;> omega
    exact ⟨fun o hox => by have := g.1 o hox; exact ⟨this.1, key o this.1 this.2.1 this.2.2 (hc.1 o hox)⟩, fun o hox => by have := g.2 o hox; exact ⟨this.1, key o this.1 this.2.1 this.2.2 (hc.2 o hox)⟩⟩
  have hlists : ∀ p, p < fa.length → (out.getD p default).l = sortL (atL A (ns.getD (fa.getD p 0).toNat default).l) ∧ (out.getD p default).r = sortL (atL A (ns.getD (fa.getD p 0).toNat default).r) := fun p hp => by
    rw [hget p hp]; exact ⟨rfl, rfl⟩
  have hbnd : ∀ p, p < fa.length → (∀ z ∈ (out.getD p default).l, 0 ≤ z ∧ z < (p : Int)) ∧ (∀ z ∈ (out.getD p default).r, 0 ≤ z ∧ z < (p : Int)) := fun p hp => by
    have a := hopt p hp
    rw [(hlists p hp).1, (hlists p hp).2]
    constructor
    · intro z hz
      obtain ⟨o, hox, e⟩ := mem_atL.1 (mem_sortL.1 hz)
      obtain ⟨_, p', b, _, c⟩ := a.1 o hox
      omega
    · intro z hz
      obtain ⟨o, hox, e⟩ := mem_atL.1 (mem_sortL.1 hz)
      obtain ⟨_, p', b, _, c⟩ := a.2 o hox
      omega
  have hoo : OptsOk out := fun i n hn => by
    obtain ⟨hi, rfl⟩ := List.getElem?_eq_some_iff.1 hn
    have := hbnd i (by omega)
    have e : out.getD i default = out[i] := by simp [List.getD, hi]
    rw [e] at this; exact this
  have hlens : ∀ i, i < out.length → (out.getD i default).l.length ≤ 1048576 ∧ (out.getD i default).r.length ≤ 1048576 := fun i hi => by
    have u := hmem i (by omega)
    have g := h.ok.lens (fa.getD i 0).toNat (by omega)
    rw [(hlists i (by omega)).1, (hlists i (by omega)).2]
    exact ⟨cP jG (by rw [xC]; exact g.1), cP jG (by rw [xC]; exact g.2)⟩
  have wf : Wf out := ⟨⟨by omega, hoo, hlens⟩, fun i hi => by
    have a := hbnd i (by omega)
    refine ⟨rise_pw ?_ fun z hz => by have := a.1 z hz; omega, rise_pw ?_ fun z hz => by have := a.2 z hz; omega⟩
    · rw [(hlists i (by omega)).1]; exact vH _
    · rw [(hlists i (by omega)).2]; exact vH _⟩
  have hden : ∀ p, p < fa.length → den out p = den ns (fa.getD p 0).toNat := by
    intro p
    induction p using Nat.strongRecOn with
    | _ p ih =>
      intro hp
      have a := hopt p hp
      have u := hmem p hp
      rw [den_at (by omega) (hbnd p hp).1 (hbnd p hp).2, jO ho (show (fa.getD p 0).toNat < ns.length by omega), (hlists p hp).1, (hlists p hp).2]
      have key : ∀ l : List Int, (∀ o ∈ l, 0 ≤ o ∧ ∃ p', p' < p ∧ fa.getD p' 0 = o ∧ A.getD o.toNat 0 = p') → ∀ i, i ∈ (sortL (atL A l)).map (fun z => den out z.toNat) ↔ i ∈ l.map fun z => den ns z.toNat := fun l hl i => by
        rw [List.mem_map, List.mem_map]
        constructor
        · rintro ⟨z, hz, rfl⟩
          obtain ⟨o, hox, e⟩ := mem_atL.1 (mem_sortL.1 hz)
          obtain ⟨_, p', b, f, c⟩ := hl o hox
          refine ⟨o, hox, ?_⟩
          have : z.toNat = p' := by omega
          rw [this, ih p' b (by omega), f]
        · rintro ⟨o, hox, rfl⟩
          obtain ⟨_, p', b, f, c⟩ := hl o hox
          refine ⟨(p' : Int), mem_sortL.2 (mem_atL.2 ⟨o, hox, c⟩), ?_⟩
          rw [Int.toNat_natCast, ih p' b (by omega), f]
      exact mF (key _ a.1) (key _ a.2)
  have hborn : ∀ p, p < fa.length → (births out).getD p 0 = bs.getD (fa.getD p 0).toNat 0 := by
    intro p
    induction p using Nat.strongRecOn with
    | _ p ih =>
      intro hp
      have a := hopt p hp
      have u := hmem p hp
      rw [(qJ hoo).2 p (by omega), (hlists p hp).1, (hlists p hp).2, putBorn_sort, h.born.2 _ (show (fa.getD p 0).toNat < ns.length by omega)]
      have key : ∀ o : Int, (∃ p', p' < p ∧ fa.getD p' 0 = o ∧ A.getD o.toNat 0 = p') → (births out).getD (A.getD o.toNat 0).toNat 0 = bs.getD o.toNat 0 := fun o ⟨p', b, f, c⟩ => by
        rw [c, Int.toNat_natCast, ih p' b (by omega), f]
      unfold putBorn
      rw [tV fun o hox => key o (a.2 o hox).2, tV fun o hox => key o (a.1 o hox).2]
  have srt : SortedB out (births out) := fun i j hij hj => by
    rw [hborn i (by omega), hborn j (by omega), hget i (by omega), hget j (by omega)]
    rcases hord i j hij (by omega) with a | ⟨a, b⟩
    · exact cE a
    · refine cF ⟨a, ?_⟩
      have hne : aheadI (ndz ns A (fa.getD i 0)) (ndz ns A (fa.getD j 0)) ≠ 0 := fun e => by
        have f := ahead_zero.1 e
        rw [← hget i (by omega), ← hget j (by omega)] at f
        have d1 : den out i = den out j := by
          rw [jO hoo (show i < out.length by omega), jO hoo (show j < out.length by omega), f]
        rw [hden i (by omega), hden j (by omega)] at d1
        have m1 := hmem i (by omega); have m2 := hmem j (by omega)
        have w := h.inj (by omega) (by omega) d1
        have x := hpos i (by omega); have p2 := hpos j (by omega)
        rw [w] at x; omega
      omega
  obtain ⟨pm, hpm, em, _⟩ := hfind m (cG _) reach_self (Int.le_refl _)
  have hroot : ∀ p, p < fa.length → fa.getD p 0 ≠ m → ∃ p', p < p' ∧ p' < fa.length ∧ ((p : Int) ∈ (out.getD p' default).l ∨ (p : Int) ∈ (out.getD p' default).r) := fun p hp hne => by
    have m1 := hmem p hp
    rcases rY m1.2.2.1 with a | ⟨j, hj, hr, z, hz, ez⟩
    · omega
    · have ah : 0 ≤ z := by
        have := xI ho (show j < ns.length by omega)
        rcases hz with hz | hz
        · exact (this.1 z hz).1
        · exact (this.2 z hz).1
      have ez' : z = fa.getD p 0 := by omega
      subst ez'
      have hle : bs.getD j 0 ≤ bs.getD m 0 := by
        have : ∀ n j : Nat, m - j ≤ n → j ≤ m → (reachM ns m).getD j false = true → bs.getD j 0 ≤ bs.getD m 0 := by
          intro n
          induction n with
          | zero => intro j a b _; have : j = m := by omega
                    rw [this]; exact Int.le_refl _
          | succ n ih =>
            intro j a b t
            rcases rY t with v | ⟨i, hi, hri, y, hy, ey⟩
            · rw [v]; exact Int.le_refl _
            · have hl := hlw i (by omega)
              have hyb : 0 ≤ y ∧ y < i ∧ bs.getD y.toNat 0 < bs.getD i 0 := by rcases hy with hy | hy; exact hl.1 y hy; exact hl.2 y hy
              have := ih i (by omega) hi hri
              rw [ey] at hyb; omega
        exact this m j (by omega) hj hr
      obtain ⟨p', hp', f, c⟩ := hfind j hj hr hle
      have a := hopt p' hp'
      rw [f] at a
      simp only [Int.toNat_natCast] at a
      have ad := hpos p hp
      refine ⟨p', ?_, hp', ?_⟩
      · rcases hz with hz | hz
        · obtain ⟨_, q, b, w, e4⟩ := a.1 _ hz; omega
        · obtain ⟨_, q, b, w, e4⟩ := a.2 _ hz; omega
      · rw [(hlists p' hp').1, (hlists p' hp').2, f]
        simp only [Int.toNat_natCast]
        rcases hz with hz | hz
        · exact cE (mem_sortL.2 (mem_atL.2 ⟨_, hz, ad⟩))
        · exact cF (mem_sortL.2 (mem_atL.2 ⟨_, hz, ad⟩))
  have hlast : fa.getD (fa.length - 1) 0 = m := by
    apply Classical.byContradiction
    intro hne
    obtain ⟨p', a, b, _⟩ := hroot (fa.length - 1) (by omega) hne
    omega
  refine ⟨⟨by omega, wf, srt, fun k hk => ?_⟩, ?_, hlen⟩
  · have hne : fa.getD k 0 ≠ m := fun e => by
      have x := hpos k (by omega); have p2 := hpos (fa.length - 1) (by omega)
      rw [e] at x; rw [hlast] at p2; omega
    obtain ⟨p', a, b, t⟩ := hroot k (by omega) hne
    exact ⟨p', a, by omega, t⟩
  · unfold gOf
    rw [hN, hden _ (by omega), hlast, Int.toNat_natCast]
end Go.GL
namespace Go.GL
open Go Go.RowKit
structure PM where
 f : Nat
 o : Nat
 c : Nat
 s : Nat
 n : Nat
structure PSt where
 ns : List Nd
 bs : List Int
 fl : List (ByteArray × Int)
 om : List ((Int × Int) × Bool)
 cm : List (Int × Int)
 sm : List ((Int × Int) × Int)
 gm : List (Int × Int)
def inP (p : Nat) (L R B : Value) (mm : PM) (k : Nat) : Prop := k = p ∨ L.ownBlock = some k ∨ R.ownBlock = some k ∨ B.ownBlock = some k ∨ k = mm.f ∨ k = mm.o ∨ k = mm.c ∨ k = mm.s ∨ k = mm.n
def NP (p : Nat) (L R B : Value) (mm : PM) (x : Option Nat) : Prop := ∀ k, x = some k → ¬ inP p L R B mm k
structure PDiff (mm : PM) : Prop where
 fo : mm.f ≠ mm.o
 fc : mm.f ≠ mm.c
 fs : mm.f ≠ mm.s
 fn : mm.f ≠ mm.n
 oc : mm.o ≠ mm.c
 os : mm.o ≠ mm.s
 on : mm.o ≠ mm.n
 cs : mm.c ≠ mm.s
 cn : mm.c ≠ mm.n
 sn : mm.s ≠ mm.n
structure Pk (er ei : Nat) (G : Pin) (w : World) (p : Nat) (L R B : Value) (mm : PM) (q : PSt) : Prop where
 bx : Bx G w p [L, R, B, .map (some mm.f), .map (some mm.o), .map (some mm.c), .map (some mm.s), .map (some mm.n)]
 ol : Own (eSl eInt) er G w 0 L (q.ns.map Nd.l)
 rr : Own (eSl eInt) er G w 0 R (q.ns.map Nd.r)
 ob : Own eInt ei G w 0 B q.bs
 ff : Mp (fun k : ByteArray => Value.string k) (fun v : Int => Value.int .i64 v) w mm.f q.fl
 fo : Mp encP2 (fun v : Bool => Value.bool v) w mm.o q.om
 fc : Mp (fun k : Int => Value.int .i64 k) (fun v : Int => Value.int .i64 v) w mm.c q.cm
 fs : Mp encP2 (fun v : Int => Value.int .i64 v) w mm.s q.sm
 fn : Mp (fun k : Int => Value.int .i64 k) (fun v : Int => Value.int .i64 v) w mm.n q.gm
 apl : Apart (some p) L.ownBlock
 apr : Apart (some p) R.ownBlock
 apb : Apart (some p) B.ownBlock
 alr : Apart L.ownBlock R.ownBlock
 alb : Apart L.ownBlock B.ownBlock
 arb : Apart R.ownBlock B.ownBlock
 df : PDiff mm
section
variable {er ei : Nat} {G G' : Pin} {w w' : World} {p : Nat} {L R B L' R' B' : Value} {mm : PM} {q : PSt}
variable {x y : Option Nat}
theorem Mp.extS {κ ν : Type} {enc : κ → Value} {val : ν → Value} {m : Nat} {l : List (κ × ν)} {S : Nat → Prop} (h : Mp enc val w m l) (hx : Ext S G w G' w') (hS : ¬ S m) : Mp enc val w' m l := h.keep (hx.block m h.lt hS)
theorem Pk.lt (h : Pk er ei G w p L R B mm q) : ∀ k, inP p L R B mm k → k < w.heap.size := fun k hk => by
 rcases hk with rfl | hk | hk | hk | rfl | rfl | rfl | rfl | rfl
 ·exact h.bx.lt
 ·exact (h.ol.lt k hk).2
 ·exact (h.rr.lt k hk).2
 ·exact (h.ob.lt k hk).2
 ·exact h.ff.lt
 ·exact h.fo.lt
 ·exact h.fc.lt
 ·exact h.fs.lt
 ·exact h.fn.lt
theorem Pk.extS {S : Nat → Prop} (h : Pk er ei G w p L R B mm q) (hx : Ext S G w G' w') (hS : ∀ k, inP p L R B mm k → ¬ S k) : Pk er ei G' w' p L R B mm q where
 bx := h.bx.extS hx (hS _ (cE rfl))
 ol := h.ol.extS hx fun k hk => hS k (cF (cE hk))
 rr := h.rr.extS hx fun k hk => hS k (cF (cF (cE hk)))
 ob := h.ob.extS hx fun k hk => hS k (cF (cF (cF (cE hk))))
 ff := h.ff.extS hx (hS _ (cF (cF (cF (cF (cE rfl))))))
 fo := h.fo.extS hx (hS _ (cF (cF (cF (cF (cF (cE rfl)))))))
 fc := h.fc.extS hx (hS _ (cF (cF (cF (cF (cF (cF (cE rfl))))))))
 fs := h.fs.extS hx (hS _ (cF (cF (cF (cF (cF (cF (cF (cE rfl)))))))))
 fn := h.fn.extS hx (hS _ (cF (cF (cF (cF (cF (cF (cF (cF rfl)))))))))
 apl := h.apl
 apr := h.apr
 apb := h.apb
 alr := h.alr
 alb := h.alb
 arb := h.arb
 df := h.df
theorem Pk.ext (h : Pk er ei G w p L R B mm q) (hx : Ext noS G w G' w') : Pk er ei G' w' p L R B mm q := h.extS hx fun _ _ => id
theorem Pk.below (h : Pk er ei G w p L R B mm q) (hb : Below w.heap.size w w') (hP : Pins G w') : Pk er ei G w' p L R B mm q :=
 h.ext ⟨cI _, hP, fun _ _ _ h => cE h, hb.os, hb.tape, hb.output, hb.size, fun k hk _ => hb.block k hk⟩
theorem Pk.kept (h : Pk er ei G w p L R B mm q) (hg : w.grownBy w' x) (hP : Pins G w') (hn : NP p L R B mm x) : Pk er ei G w' p L R B mm q :=
 h.extS (Ext.one hP hg) fun k hk hx => hn k hx hk
theorem Pk.more {b : Nat} (h : Pk er ei G w p L R B mm q) (hl : Pin.le G G') (hf : ∀ k o u, G' k o u → G k o u ∨ k = b) (hn : NP p L R B mm (some b)) : Pk er ei G' w p L R B mm q where
 bx := h.bx.moreA hf fun k a c => hn k c (by cases a; exact cE rfl)
 ol := h.ol.moreA hl hf fun k a c => hn k c (cF (cE a))
 rr := h.rr.moreA hl hf fun k a c => hn k c (cF (cF (cE a)))
 ob := h.ob.moreA hl hf fun k a c => hn k c (cF (cF (cF (cE a))))
 ff := h.ff
 fo := h.fo
 fc := h.fc
 fs := h.fs
 fn := h.fn
 apl := h.apl
 apr := h.apr
 apb := h.apb
 alr := h.alr
 alb := h.alb
 arb := h.arb
 df := h.df
theorem Pk.moreO {v : Value} (h : Pk er ei G w p L R B mm q) (hl : Pin.le G G') (hf : ∀ k o u, G' k o u → G k o u ∨ v.ownBlock = some k) (hn : NP p L R B mm v.ownBlock) : Pk er ei G' w p L R B mm q where
 bx := h.bx.moreO hf fun k a c => hn k c (by cases a; exact cE rfl)
 ol := h.ol.moreO hl hf fun k a c => hn k c (cF (cE a))
 rr := h.rr.moreO hl hf fun k a c => hn k c (cF (cF (cE a)))
 ob := h.ob.moreO hl hf fun k a c => hn k c (cF (cF (cF (cE a))))
 ff := h.ff
 fo := h.fo
 fc := h.fc
 fs := h.fs
 fn := h.fn
 apl := h.apl
 apr := h.apr
 apb := h.apb
 alr := h.alr
 alb := h.alb
 arb := h.arb
 df := h.df
theorem Pk.new (h : Pk er ei G w p L R B mm q) (hx : ∀ k, x = some k → w.heap.size ≤ k) : NP p L R B mm x := fun k hk hi => by
 have h1 := h.lt k hi; have h2 := hx k hk; omega
theorem pW (hn : NP p L R B mm x) (h : Pk er ei G w p L R B mm q) (hw : y = x ∨ ∃ k, y = some k ∧ w.heap.size ≤ k) : NP p L R B mm y := by
 rcases hw with rfl | ⟨k, rfl, hk⟩
 ·exact hn
 ·exact h.new fun j hj => by cases hj; exact hk
theorem np_turn (hn : NP p L R B mm x) (h : Pk er ei G w p L R B mm q) (hl : Lo w (inO x) y) : NP p L R B mm y := fun k hk hi => by
 rcases hl k hk with h1 | h1
 ·have := h.lt k hi; omega
 ·exact hn k h1 hi
structure PLo (w : World) (p : Nat) (L R B : Value) (mm : PM) (L' R' B' : Value) : Prop where
 l : Lo w (inP p L R B mm) L'.ownBlock
 r : Lo w (inP p L R B mm) R'.ownBlock
 b : Lo w (inP p L R B mm) B'.ownBlock
theorem PLo.in (h : PLo w p L R B mm L' R' B') : ∀ k, inP p L' R' B' mm k → w.heap.size ≤ k ∨ inP p L R B mm k := fun k hk => by
 rcases hk with rfl | hk | hk | hk | hk
 ·exact cF (cE rfl)
 ·exact h.l k hk
 ·exact h.r k hk
 ·exact h.b k hk
 ·exact cF (cF (cF (cF (cF hk))))
theorem NP.call (h : NP p L R B mm x) (hlo : PLo w p L R B mm L' R' B') (hl : ∀ k, x = some k → k < w.heap.size) : NP p L' R' B' mm x := fun k hk hi => by
 rcases hlo.in k hi with h1 | h1
 ·have := hl k hk; omega
 ·exact h k hk h1
def PIn (w0 : World) (S : Nat → Prop) (p : Nat) (L R B : Value) (mm : PM) : Prop := ∀ k, inP p L R B mm k → w0.heap.size ≤ k ∨ S k
theorem PIn.self {w0 : World} : PIn w0 (inP p L R B mm) p L R B mm := fun _ h => cF h
theorem PIn.call {w0 : World} {S : Nat → Prop} (h : PIn w0 S p L R B mm) (hlo : PLo w p L R B mm L' R' B') (hs : w0.heap.size ≤ w.heap.size) : PIn w0 S p L' R' B' mm := fun k hk => by
 rcases hlo.in k hk with h1 | h1
 ·exact cE (by omega)
 ·exact h k h1
theorem PIn.lo {w0 : World} {p0 : Nat} {L0 R0 B0 : Value} (h : PIn w0 (inP p0 L0 R0 B0 mm) p L R B mm) (hp : p = p0) : PLo w0 p0 L0 R0 B0 mm L R B := by
 subst hp
 exact ⟨fun k hk => h k (cF (cE hk)), fun k hk => h k (cF (cF (cE hk))), fun k hk => h k (cF (cF (cF (cE hk))))⟩
theorem PIn.o {w0 : World} {S : Nat → Prop} (h : PIn w0 S p L R B mm) : Lo w0 S (some mm.o) := fun k hk => by
 cases hk; exact h _ (cF (cF (cF (cF (cF (cE rfl))))))
theorem NP.ho (h : NP p L R B mm x) : Apart x (some mm.o) := fun k a c => h k a (by cases c; exact cF (cF (cF (cF (cF (cE rfl))))))
theorem NP.hc (h : NP p L R B mm x) : Apart x (some mm.c) := fun k a c => h k a (by cases c; exact cF (cF (cF (cF (cF (cF (cE rfl)))))))
theorem NP.hn (h : NP p L R B mm x) : Apart x (some mm.n) := fun k a c => h k a (by cases c; exact cF (cF (cF (cF (cF (cF (cF (cF rfl))))))))
theorem NP.hp (h : NP p L R B mm x) : Apart x (some p) := fun k a c => h k a (by cases c; exact cE rfl)
theorem NP.hl (h : NP p L R B mm x) : Apart x L.ownBlock := fun k a c => h k a (cF (cE c))
theorem NP.hr (h : NP p L R B mm x) : Apart x R.ownBlock := fun k a c => h k a (cF (cF (cE c)))
theorem NP.hb (h : NP p L R B mm x) : Apart x B.ownBlock := fun k a c => h k a (cF (cF (cF (cE c))))
theorem Pk.setO (h : Pk er ei G w p L R B mm q) (hx : Ext (inO (some mm.o)) G w G' w') {om : List ((Int × Int) × Bool)} (hm : Mp encP2 (fun v : Bool => Value.bool v) w' mm.o om) : Pk er ei G' w' p L R B mm { q with om := om } where
 bx := h.bx.extS hx (yZ fun k a c => (xL h.fo h.bx) k c a)
 ol := h.ol.extS hx (notO (yY h.fo h.ol).symm)
 rr := h.rr.extS hx (notO (yY h.fo h.rr).symm)
 ob := h.ob.extS hx (notO (yY h.fo h.ob).symm)
 ff := h.ff.extS hx (fun e => h.df.fo (Option.some.inj e).symm)
 fo := hm
 fc := h.fc.extS hx (fun e => h.df.oc (Option.some.inj e))
 fs := h.fs.extS hx (fun e => h.df.os (Option.some.inj e))
 fn := h.fn.extS hx (fun e => h.df.on (Option.some.inj e))
 apl := h.apl
 apr := h.apr
 apb := h.apb
 alr := h.alr
 alb := h.alb
 arb := h.arb
 df := h.df
end
def pd (q : PSt) (z : Int) : Nat := den q.ns z.toNat
def PlaceOk (q : PSt) (z : Int) : Prop := 0 ≤ z ∧ z < q.ns.length
structure FindOk (ns : List Nd) (fl : List (ByteArray × Int)) : Prop where
 has : ∀ i : Nat, i < ns.length → look fl (b2s (keyN (ns.getD i default).l (ns.getD i default).r)) = some (i : Int)
 is : ∀ (l r : List Int) (z : Int), (∀ x ∈ l, 0 ≤ x) → (∀ x ∈ r, 0 ≤ x) → look fl (b2s (keyN l r)) = some z → ∃ i : Nat, i < ns.length ∧ z = i ∧ ns.getD i default = ⟨l, r⟩
structure PoolOk (q : PSt) : Prop where
 ar : Ar q.ns q.bs
 find : FindOk q.ns q.fl
 ord : ∀ a b v, look q.om (a, b) = some v → PlaceOk q a ∧ PlaceOk q b ∧ v = decP (geG (pd q a) (pd q b))
 can : ∀ a z, look q.cm a = some z → PlaceOk q a ∧ PlaceOk q z ∧ CanonG (pd q z) ∧ eqG (pd q z) (pd q a)
 sum : ∀ a b z, look q.sm (a, b) = some z → PlaceOk q a ∧ PlaceOk q b ∧ PlaceOk q z ∧ pd q z = addG (pd q a) (pd q b)
 neg : ∀ a z, look q.gm a = some z → PlaceOk q a ∧ PlaceOk q z ∧ pd q z = negG (pd q a)
theorem pkl (q : PSt) : (q.ns.map Nd.l).length = q.ns.length ∧ (q.ns.map Nd.r).length = q.ns.length := ⟨List.length_map .., List.length_map ..⟩
theorem pkb {q : PSt} (h : PoolOk q) : q.bs.length = q.ns.length ∧ q.ns.length ≤ 1048576 := ⟨h.ar.ok.len, h.ar.ok.lim⟩
structure PX (q q' : PSt) : Prop where
 len : q.ns.length ≤ q'.ns.length
 old : ∀ k, k < q.ns.length → q'.ns.getD k default = q.ns.getD k default
 can : ∀ a, look q'.cm a = none → look q.cm a = none
theorem PX.refl (q : PSt) : PX q q := ⟨cG _, fun _ _ => rfl, fun _ h => h⟩
theorem PX.trans {a b c : PSt} (h : PX a b) (k : PX b c) : PX a c := ⟨cP h.len k.len, fun i hi => (k.old i (by have := h.len; omega)).trans (h.old i hi), fun a ha => h.can a (k.can a ha)⟩
theorem PX.den {q q' : PSt} (h : PX q q') (ho : OptsOk q.ns) (ho' : OptsOk q'.ns) : ∀ k, k < q.ns.length → den q'.ns k = den q.ns k := by
 intro k
 induction k using Nat.strongRecOn with
 | _ k ih =>
  intro hk
  have oo := xI ho hk
  rw [jO ho' (by have := h.len; omega), jO ho hk, h.old k hk]
  rw [List.map_congr_left fun z hz => ih z.toNat (by have := oo.1 z hz; omega) (by have := oo.1 z hz; omega)]
  rw [List.map_congr_left (l := (q.ns.getD k default).r) fun z hz => ih z.toNat (by have := oo.2 z hz; omega) (by have := oo.2 z hz; omega)]
theorem PX.pd {q q' : PSt} (h : PX q q') (hq : PoolOk q) (hq' : PoolOk q') {z : Int} (hz : PlaceOk q z) : pd q' z = pd q z := h.den hq.ar.opts hq'.ar.opts _ (by have := hz.1; have := hz.2; omega)
theorem PX.place {q q' : PSt} (h : PX q q') {z : Int} (hz : PlaceOk q z) : PlaceOk q' z := ⟨hz.1, by have := hz.2; have := h.len; omega⟩
theorem mapl_getD (ns : List Nd) (i : Nat) : (ns.map Nd.l).getD i [] = (ns.getD i default).l := by
 simp only [List.getD, List.getElem?_map]
 cases ns[i]? <;> rfl
theorem mapr_getD (ns : List Nd) (i : Nat) : (ns.map Nd.r).getD i [] = (ns.getD i default).r := by
 simp only [List.getD, List.getElem?_map]
 cases ns[i]? <;> rfl
theorem PoolOk.empty : PoolOk ⟨[], [], [], [], [], [], []⟩ where
 ar := Ar.empty
 find := ⟨fun i hi => absurd hi (cJ i), fun l r z _ _ h => by cases h⟩
 ord := fun a b v h => by cases h
 can := fun a z h => by cases h
 sum := fun a b z h => by cases h
 neg := fun a z h => by cases h
theorem PoolOk.setO {q : PSt} (h : PoolOk q) {a b : Int} {v : Bool} (ha : PlaceOk q a) (hb : PlaceOk q b) (hv : v = decP (geG (pd q a) (pd q b))) : PoolOk { q with om := putE q.om (a, b) v } :=
 by
 refine ⟨h.ar, h.find, ?_, h.can, h.sum, h.neg⟩
 intro c d u hu
 simp only at hu
 rw [fI] at hu
 split at hu
 ·rename_i he
  cases he; cases hu
  exact ⟨ha, hb, hv⟩
 ·exact h.ord c d u hu
section
variable {p : Nat} {L R B : Value} {mm : PM} {w0 : World} {S : Nat → Prop}
theorem PIn.lp (h : PIn w0 S p L R B mm) : Lo w0 S (some p) := fun k hk => by cases hk; exact h _ (cE rfl)
theorem PIn.ll (h : PIn w0 S p L R B mm) : Lo w0 S L.ownBlock := fun k hk => h k (cF (cE hk))
theorem PIn.lr (h : PIn w0 S p L R B mm) : Lo w0 S R.ownBlock := fun k hk => h k (cF (cF (cE hk)))
theorem PIn.lb (h : PIn w0 S p L R B mm) : Lo w0 S B.ownBlock := fun k hk => h k (cF (cF (cF (cE hk))))
theorem PIn.f (h : PIn w0 S p L R B mm) : Lo w0 S (some mm.f) := fun k hk => by cases hk; exact h _ (cF (cF (cF (cF (cE rfl)))))
theorem NP.hf {x : Option Nat} (h : NP p L R B mm x) : Apart x (some mm.f) := fun k a c => h k a (by cases c; exact cF (cF (cF (cF (cE rfl)))))
theorem PIn.fresh {w : World} (h : ∀ k, inP p L R B mm k → w.heap.size ≤ k) (hs : w0.heap.size ≤ w.heap.size) : PIn w0 S p L R B mm := fun k hk => cE (by have := h k hk; omega)
theorem fB {a b : Nat} (h : a ≠ b) : Apart (some a) (some b) := fun k hk hb => by cases hk; cases hb; exact h rfl
end
variable {xs ys ls : List Int}
theorem lookF {q : PSt} (h : PoolOk q) (h1 : ∀ i, i < xs.length → 0 ≤ xs.getD i 0 ∧ xs.getD i 0 < q.ns.length) (h2 : ∀ i, i < ys.length → 0 ≤ ys.getD i 0 ∧ ys.getD i 0 < q.ns.length)
  {z : Int} (hz : look q.fl (b2s (keyN (sortL xs) (sortL ys))) = some z) : PlaceOk q z ∧ pd q z = mkG (xs.map (pd q)) (ys.map (pd q)) := by
 have m1 := xN (P := fun k => 0 ≤ k ∧ k < (q.ns.length : Int)) h1
 have m2 := xN (P := fun k => 0 ≤ k ∧ k < (q.ns.length : Int)) h2
 obtain ⟨i, hi, rfl, e⟩ := h.find.is _ _ _ (fun x hx => (m1 x (mem_sortL.1 hx)).1) (fun x hx => (m2 x (mem_sortL.1 hx)).1) hz
 refine ⟨⟨by omega, by omega⟩, ?_⟩
 unfold pd
 rw [Int.toNat_natCast, jO h.ar.opts hi, e]
 exact mF (fun x => by simp only [List.mem_map, mem_sortL]) (fun x => by simp only [List.mem_map, mem_sortL])
def addQ (q : PSt) (xs ys : List Int) (b : Int) : PSt := { q with ns := q.ns ++ [⟨sortL xs, sortL ys⟩], bs := q.bs ++ [b], fl := putE q.fl (b2s (keyN (sortL xs) (sortL ys))) (q.ns.length : Int) }
theorem PoolOk.add {q : PSt} (h : PoolOk q) {b : Int} (hl : q.ns.length + 1 ≤ 1048576) (hls : xs.length ≤ 1048576 ∧ ys.length ≤ 1048576)
  (h1 : ∀ i, i < xs.length → 0 ≤ xs.getD i 0 ∧ xs.getD i 0 < q.ns.length) (h2 : ∀ i, i < ys.length → 0 ≤ ys.getD i 0 ∧ ys.getD i 0 < q.ns.length)
  (hn : look q.fl (b2s (keyN (sortL xs) (sortL ys))) = none) (hb : b = bornOf q.bs (sortL ys) (bornOf q.bs (sortL xs) 0)) :
  PoolOk (addQ q xs ys b) ∧ PX q (addQ q xs ys b) ∧ PlaceOk (addQ q xs ys b) (q.ns.length : Int) ∧ pd (addQ q xs ys b) (q.ns.length : Int) = mkG (xs.map (pd q)) (ys.map (pd q)) ∧ (addQ q xs ys b).ns.length ≤ q.ns.length + 1 := by
 have o := xN (P := fun k => 0 ≤ k ∧ k < (q.ns.length : Int)) h1
 have p := xN (P := fun k => 0 ≤ k ∧ k < (q.ns.length : Int)) h2
 have u : b = putBorn q.bs xs ys := hb.trans putBorn_sort
 have hf : findK q.ns q.bs (putNd xs ys) (putBorn q.bs xs ys) = none := by
  cases hf : findK q.ns q.bs (putNd xs ys) (putBorn q.bs xs ys) with
  | none => rfl
  | some k =>
   exfalso
   have hk : k < q.ns.length := by simpa using List.mem_of_find?_eq_some hf
   have hd : q.bs.getD k 0 = putBorn q.bs xs ys ∧ (q.ns.getD k default).l = sortL xs ∧ (q.ns.getD k default).r = sortL ys := by
    have hdec := List.find?_some hf
    exact of_decide_eq_true hdec
   have := h.find.has k hk
   rw [hd.2.1, hd.2.2, hn] at this
   cases this
 have hp := h.ar.put hl hls h1 h2
 have eN : putN q.ns q.bs xs ys = q.ns ++ [⟨sortL xs, sortL ys⟩] := by unfold putN; rw [hf]; rfl
 have eB : putB q.ns q.bs xs ys = q.bs ++ [b] := by unfold putB; rw [hf, u]
 have eK : putK q.ns q.bs xs ys = q.ns.length := by unfold putK; rw [hf]
 rw [eN, eB, eK] at hp
 have hpx : PX q (addQ q xs ys b) := ⟨by simp [addQ], fun k hk => yT hk, fun _ h => h⟩
 have hpd : ∀ z : Int, PlaceOk q z → pd (addQ q xs ys b) z = pd q z := fun z hz => hp.2.2 z.toNat (by have := hz.1; have := hz.2; omega)
 have hpl : ∀ z : Int, PlaceOk q z → PlaceOk (addQ q xs ys b) z := fun z hz => hpx.place hz
 have hlen : (q.ns ++ [(⟨sortL xs, sortL ys⟩ : Nd)]).length = q.ns.length + 1 := by simp
 refine ⟨⟨hp.1, ⟨fun i hi => ?_, fun l r z s t hz => ?_⟩, fun a c v hv => ?_, fun a z hz => ?_, fun a c z hz => ?_, fun a z hz => ?_⟩, hpx, ⟨by omega, by show (q.ns.length : Int) < ((q.ns ++ [(⟨sortL xs, sortL ys⟩ : Nd)]).length : Int); rw [hlen]; omega⟩, ?_, by show (q.ns ++ [(⟨sortL xs, sortL ys⟩ : Nd)]).length ≤ _; rw [hlen]; exact cG _⟩
 ·show look (putE q.fl _ _) _ = _
  have hi' : i < q.ns.length + 1 := by rw [← hlen]; exact hi
  by_cases he : i < q.ns.length
  ·have e : (addQ q xs ys b).ns.getD i default = q.ns.getD i default := yT he
   rw [e, fI, if_neg]
   ·exact h.find.has i he
   ·intro hk
    have oo := xI h.ar.opts he
    obtain ⟨j, m⟩ := mH (fun z hz => (oo.1 z hz).1) (fun z hz => (oo.2 z hz).1) (fun z hz => (o z (mem_sortL.1 hz)).1) (fun z hz => (p z (mem_sortL.1 hz)).1) (eF hk)
    have := h.find.has i he
    rw [j, m, hn] at this
    cases this
  ·have w : i = q.ns.length := by omega
   subst w
   have e : (addQ q xs ys b).ns.getD q.ns.length default = ⟨sortL xs, sortL ys⟩ := xE rfl
   rw [e, fI, if_pos rfl]
 ·have hz' : look (putE q.fl (b2s (keyN (sortL xs) (sortL ys))) (q.ns.length : Int)) (b2s (keyN l r)) = some z := hz
  rw [fI] at hz'
  split at hz'
  ·rename_i hk
   obtain ⟨j, m⟩ := mH s t (fun z hz => (o z (mem_sortL.1 hz)).1) (fun z hz => (p z (mem_sortL.1 hz)).1) (eF hk)
   cases hz'
   exact ⟨q.ns.length, by show _ < (q.ns ++ [_]).length; rw [hlen]; omega, rfl, by rw [j, m]; exact xE rfl⟩
  ·obtain ⟨i, f, d, g⟩ := h.find.is l r z s t hz'
   exact ⟨i, by show _ < (q.ns ++ [_]).length; rw [hlen]; omega, d, (yT f).trans g⟩
 ·obtain ⟨f, d, g⟩ := h.ord a c v hv
  exact ⟨hpl a f, hpl c d, by rw [hpd a f, hpd c d]; exact g⟩
 ·obtain ⟨f, d, g, n⟩ := h.can a z hz
  exact ⟨hpl a f, hpl z d, by rw [hpd z d]; exact g, by rw [hpd z d, hpd a f]; exact n⟩
 ·obtain ⟨f, d, g, n⟩ := h.sum a c z hz
  exact ⟨hpl a f, hpl c d, hpl z g, by rw [hpd z g, hpd a f, hpd c d]; exact n⟩
 ·obtain ⟨f, d, g⟩ := h.neg a z hz
  exact ⟨hpl a f, hpl z d, by rw [hpd z d, hpd a f]; exact g⟩
 ·exact hp.2.1
theorem px_map {q q' : PSt} (h : PX q q') (hq : PoolOk q) (hq' : PoolOk q') (hl : ∀ z ∈ ls, PlaceOk q z) : ls.map (pd q') = ls.map (pd q) := List.map_congr_left fun z hz => h.pd hq hq' (hl z hz)
theorem fM {q : PSt} (h : ∀ z ∈ ls, PlaceOk q z) : ∀ i, i < ls.length → 0 ≤ ls.getD i 0 ∧ ls.getD i 0 < q.ns.length := fun _ hi => h _ (xG hi)
theorem rA {n : Nat} (h1 : ∀ i, i < xs.length → 0 ≤ xs.getD i 0 ∧ xs.getD i 0 < n) : ∀ i, i < (sortL xs).length → 0 ≤ (sortL xs).getD i 0 ∧ (sortL xs).getD i 0 < n := fun _ hi =>
 xN (P := fun k => 0 ≤ k ∧ k < (n : Int)) h1 _ (mem_sortL.1 (xG hi))
theorem tK {n j : Nat} (h1 : ∀ i, i < xs.length → 0 ≤ xs.getD i 0 ∧ xs.getD i 0 < n) (hn : n ≤ 1048576) : (keyL (xs.take j)).length ≤ 14 * xs.length := by
 have := key_len (l := xs.take j) fun z hz => by
  have := xN (P := fun k => 0 ≤ k ∧ k < (n : Int)) h1 z (List.mem_of_mem_take hz); omega
 have h2 : (xs.take j).length ≤ xs.length := by simp; omega
 omega
end Go.GL
namespace Go.GL
open Go Go.RowKit
theorem at_getD {a l : List Int} {i : Nat} (h : i < l.length) : (atL a l).getD i 0 = a.getD (l.getD i 0).toNat 0 := by simp [atL, List.getD, h]
variable {q q2 : PSt} {a b : Int} {fs : List Nd} {k : Nat} {ats : List Int}
theorem xK {a b c : PSt} (h : b.ns = a.ns ∧ b.bs = a.bs) (k : c.ns = b.ns ∧ c.bs = b.bs) : c.ns = a.ns ∧ c.bs = a.bs := ⟨k.1.trans h.1, k.2.trans h.2⟩
theorem PlaceOk.same (hn : q2.ns = q.ns ∧ q2.bs = q.bs) (h : PlaceOk q a) : PlaceOk q2 a := by unfold PlaceOk; rw [hn.1]; exact h
theorem pd_same (hn : q2.ns = q.ns ∧ q2.bs = q.bs) : pd q2 a = pd q a := by unfold pd; rw [hn.1]
theorem gX (hn : q2.ns = q.ns ∧ q2.bs = q.bs) : geB q2.ns a b = geB q.ns a b := by rw [hn.1]
theorem pL {v : Bool} (hn : q2.ns = q.ns ∧ q2.bs = q.bs) (hv : geB q.ns a b = v) : v = decP (geG (pd q2 a) (pd q2 b)) := by
 rw [pd_same hn, pd_same hn, ← hv]; rfl
theorem geB_refl {ns : List Nd} : geB ns a a = true := decP_true.2 (ge_refl _)
structure LdOk (fs : List Nd) (q q2 : PSt) (k : Nat) (ats : List Int) : Prop where
 len : ats.length = k
 hi : q2.ns.length ≤ q.ns.length + k
 pl : ∀ i, i < k → PlaceOk q2 (ats.getD i 0) ∧ pd q2 (ats.getD i 0) = den fs i
theorem LdOk.start : LdOk fs q q 0 [] := ⟨rfl, cG _, fun i hi => absurd hi (cJ i)⟩
theorem LdOk.opt (h : LdOk fs q q2 k ats) {l : List Int} (hl : ∀ z ∈ l, 0 ≤ z ∧ z < k) :
  ∀ i, i < (atL ats l).length → 0 ≤ (atL ats l).getD i 0 ∧ (atL ats l).getD i 0 < q2.ns.length := by
 intro i hi
 rw [xC] at hi
 rw [at_getD hi]
 have := hl _ (xG (d := (0 : Int)) hi)
 exact (h.pl _ (by omega)).1
theorem LdOk.den (h : LdOk fs q q2 k ats) {l : List Int} (hl : ∀ z ∈ l, 0 ≤ z ∧ z < k) :
  (atL ats l).map (pd q2) = l.map fun z => GL.den fs z.toNat := by
 unfold atL
 rw [List.map_map]
 refine List.map_congr_left fun z hz => ?_
 have := hl z hz
 exact (h.pl z.toNat (by omega)).2
theorem LdOk.step {q3 : PSt} {z : Int} (h : LdOk fs q q2 k ats) (hf : FormOk fs) (hk : k < fs.length) (hq : PoolOk q2) (hq' : PoolOk q3) (hx : PX q2 q3) (hz : PlaceOk q3 z)
  (hd : pd q3 z = mkG ((atL ats (fs.getD k default).l).map (pd q2)) ((atL ats (fs.getD k default).r).map (pd q2))) (hn : q3.ns.length ≤ q2.ns.length + 1) : LdOk fs q q3 (k + 1) (ats ++ [z]) := by
 have oo := xI hf.opts hk
 refine ⟨by rw [List.length_append, h.len]; rfl, by have := h.hi; omega, fun i hi => ?_⟩
 by_cases he : i = k
 ·subst he
  have e : (ats ++ [z]).getD i 0 = z := by rw [← h.len]; simp [List.getD]
  rw [e]
  refine ⟨hz, ?_⟩
  rw [hd, h.den oo.1, h.den oo.2, jO hf.opts hk]
 ·have hi' : i < k := by omega
  have e : (ats ++ [z]).getD i 0 = ats.getD i 0 := by simp [List.getD, List.getElem?_append_left (show i < ats.length by rw [h.len]; exact hi')]
  rw [e]
  have := h.pl i hi'
  exact ⟨hx.place this.1, (hx.pd hq hq' this.1).trans this.2⟩
theorem LdOk.root (h : LdOk fs q q2 fs.length ats) (h1 : 1 ≤ fs.length) : PlaceOk q2 (ats.getD (fs.length - 1) 0) ∧ pd q2 (ats.getD (fs.length - 1) 0) = gOf fs := h.pl _ (by omega)
theorem geB_roots {g h : Nat} (ha : pd q a = g) (hb : pd q b = h) : geB q.ns a b = decP (geG g h) := by rw [← ha, ← hb]; rfl
end Go.GL
namespace Go.GL
open Go Go.RowKit
end Go.GL
namespace Go.GL
variable {a b : List Nd} {i j : Nat}
theorem tH (ha : SG a) (hb : SG b) {n : Nat} (hi : i < a.length) (hj : j < b.length) (hpre : ∀ k, k < n → k < a.length ∧ k < b.length ∧ den a k = den b k)
  (hai : (∀ z ∈ (a.getD i default).l, z < (n : Int)) ∧ (∀ z ∈ (a.getD i default).r, z < (n : Int))) (hbj : (∀ z ∈ (b.getD j default).l, z < (n : Int)) ∧ (∀ z ∈ (b.getD j default).r, z < (n : Int)))
  (he : den a i = den b j) : a.getD i default = b.getD j default := by
 have oa := xI ha.opts hi
 have ob := xI hb.opts hj
 refine mE (fT (ha.pw i hi).1 (hb.pw j hj).1 fun z => ⟨fun hz => ?_, fun hz => ?_⟩) (fT (ha.pw i hi).2 (hb.pw j hj).2 fun z => ⟨fun hz => ?_, fun hz => ?_⟩)
 ·have h1 : loG (den a i) (den a z.toNat) := (qF ha.opts hi).2 ⟨z, hz, rfl⟩
  rw [he] at h1
  obtain ⟨y, hy, e⟩ := (qF hb.opts hj).1 h1
  have z1 := oa.1 z hz; have z2 := hai.1 z hz; have y1 := ob.1 y hy; have y2 := hbj.1 y hy
  have p1 := hpre z.toNat (by omega); have p2 := hpre y.toNat (by omega)
  have := ha.inj (i := z.toNat) (j := y.toNat) (by omega) (by omega) (by rw [e, p2.2.2])
  have : z = y := by omega
  rwa [this]
 ·have h1 : loG (den b j) (den b z.toNat) := (qF hb.opts hj).2 ⟨z, hz, rfl⟩
  rw [← he] at h1
  obtain ⟨y, hy, e⟩ := (qF ha.opts hi).1 h1
  have z1 := ob.1 z hz; have z2 := hbj.1 z hz; have y1 := oa.1 y hy; have y2 := hai.1 y hy
  have p1 := hpre z.toNat (by omega); have p2 := hpre y.toNat (by omega)
  have := ha.inj (i := z.toNat) (j := y.toNat) (by omega) (by omega) (by rw [← e, p1.2.2])
  have : z = y := by omega
  rwa [this]
 ·have h1 : roG (den a i) (den a z.toNat) := (qE ha.opts hi).2 ⟨z, hz, rfl⟩
  rw [he] at h1
  obtain ⟨y, hy, e⟩ := (qE hb.opts hj).1 h1
  have z1 := oa.2 z hz; have z2 := hai.2 z hz; have y1 := ob.2 y hy; have y2 := hbj.2 y hy
  have p1 := hpre z.toNat (by omega); have p2 := hpre y.toNat (by omega)
  have := ha.inj (i := z.toNat) (j := y.toNat) (by omega) (by omega) (by rw [e, p2.2.2])
  have : z = y := by omega
  rwa [this]
 ·have h1 : roG (den b j) (den b z.toNat) := (qE hb.opts hj).2 ⟨z, hz, rfl⟩
  rw [← he] at h1
  obtain ⟨y, hy, e⟩ := (qE ha.opts hi).1 h1
  have z1 := ob.2 z hz; have z2 := hbj.2 z hz; have y1 := oa.2 y hy; have y2 := hai.2 y hy
  have p1 := hpre z.toNat (by omega); have p2 := hpre y.toNat (by omega)
  have := ha.inj (i := z.toNat) (j := y.toNat) (by omega) (by omega) (by rw [← e, p1.2.2])
  have : z = y := by omega
  rwa [this]
theorem fA {a b : List Nd} (ha : OptsOk a) (hb : OptsOk b) : ∀ (n i j : Nat), i + j ≤ n → i < a.length → j < b.length → den a i = den b j → (births a).getD i 0 ≤ (births b).getD j 0
 | _, i, j, _, hi, hj, he => by
  have oa := xI ha hi
  have ob := xI hb hj
  rw [(qJ ha).2 i hi, putBorn_le]
  have hbj := (qJ hb).2 j hj
  have hb2 := putBorn_le.1 (Int.le_of_eq hbj.symm)
  refine ⟨eA (qJ hb) hj, fun z hz => ?_, fun z hz => ?_⟩
  ·have h1 : loG (den a i) (den a z.toNat) := (qF ha hi).2 ⟨z, hz, rfl⟩
   rw [he] at h1
   obtain ⟨y, hy, e⟩ := (qF hb hj).1 h1
   have z1 := oa.1 z hz; have y1 := ob.1 y hy
   have := fA ha hb (z.toNat + y.toNat) z.toNat y.toNat (cG _) (by omega) (by omega) e
   have := hb2.2.1 y hy
   omega
  ·have h1 : roG (den a i) (den a z.toNat) := (qE ha hi).2 ⟨z, hz, rfl⟩
   rw [he] at h1
   obtain ⟨y, hy, e⟩ := (qE hb hj).1 h1
   have z1 := oa.2 z hz; have y1 := ob.2 y hy
   have := fA ha hb (z.toNat + y.toNat) z.toNat y.toNat (cG _) (by omega) (by omega) e
   have := hb2.2.2 y hy
   omega
termination_by _ i j => i + j
decreasing_by all_goals omega
theorem pF (ha : OptsOk a) (hb : OptsOk b) (hi : i < a.length) (hj : j < b.length) (he : den a i = den b j) : (births a).getD i 0 = (births b).getD j 0 :=
 Int.le_antisymm (fA ha hb _ i j (cG _) hi hj he) (fA hb ha _ j i (cG _) hj hi he.symm)
theorem SG.sub (ha : SG a) (hb : SG b) (he : gOf a = gOf b) : ∀ k, k < a.length → ∃ j, j < b.length ∧ den b j = den a k := by
 have key : ∀ n k, a.length - k ≤ n → k < a.length → ∃ j, j < b.length ∧ den b j = den a k := by
  intro n
  induction n with
  | zero => intro k h1 h2; omega
  | succ n ih =>
   intro k h1 h2
   by_cases hk : k + 1 < a.length
   ·obtain ⟨i, hki, hi, hz⟩ := ha.last k hk
    obtain ⟨j, hj, e⟩ := ih i (by omega) hi
    rcases hz with hz | hz
    ·have h3 : loG (den a i) (den a (k : Int).toNat) := (qF ha.opts hi).2 ⟨_, hz, rfl⟩
     rw [← e] at h3
     obtain ⟨y, hy, e2⟩ := (qF hb.opts hj).1 h3
     have := (xI hb.opts hj).1 y hy
     exact ⟨y.toNat, by omega, by rw [← e2]; rfl⟩
    ·have h3 : roG (den a i) (den a (k : Int).toNat) := (qE ha.opts hi).2 ⟨_, hz, rfl⟩
     rw [← e] at h3
     obtain ⟨y, hy, e2⟩ := (qE hb.opts hj).1 h3
     have := (xI hb.opts hj).2 y hy
     exact ⟨y.toNat, by omega, by rw [← e2]; rfl⟩
   ·have hb1 := hb.lo
    refine ⟨b.length - 1, by omega, ?_⟩
    have : k = a.length - 1 := by omega
    rw [this]; exact he.symm
 exact fun k hk => key _ k (cG _) hk
theorem SG.low (ha : SG a) {n : Nat} (hi : i < a.length) (hb : (births a).getD i 0 ≤ (births a).getD n 0) (hn : n < a.length) : (∀ z ∈ (a.getD i default).l, z < (n : Int)) ∧ (∀ z ∈ (a.getD i default).r, z < (n : Int)) := by
 have hl := kX ha.opts i hi
 have key : ∀ z : Int, 0 ≤ z → z < i → (births a).getD z.toNat 0 < (births a).getD i 0 → z < (n : Int) := fun z h0 h1 h2 => by
  by_cases hlt : z < (n : Int)
  ·exact hlt
  ·by_cases he : n = z.toNat
   ·subst he; omega
   ·rcases ha.srt n z.toNat (by omega) (by omega) with h3 | ⟨h3, _⟩ <;> omega
 exact ⟨fun z hz => by have := hl.1 z hz; exact key z this.1 this.2.1 this.2.2, fun z hz => by have := hl.2 z hz; exact key z this.1 this.2.1 this.2.2⟩
theorem nJ (ha : SG a) (hb : SG b) (he : gOf a = gOf b) : ∀ n, n ≤ a.length → n ≤ b.length ∧ ∀ k, k < n → a.getD k default = b.getD k default ∧ den a k = den b k := by
 intro n
 induction n with
 | zero => intro _; exact ⟨cH _, fun k hk => absurd hk (cJ k)⟩
 | succ n ih =>
  intro hn
  obtain ⟨hnb, hpre⟩ := ih (by omega)
  obtain ⟨j, hj, ej⟩ := ha.sub hb he n (by omega)
  have hjn : n ≤ j := by
   apply Classical.byContradiction
   intro hlt
   have := (hpre j (by omega)).2
   have := ha.inj (i := j) (j := n) (by omega) (by omega) (by rw [this, ej])
   omega
  have hbn : n < b.length := by omega
  obtain ⟨i, hi, ei⟩ := hb.sub ha he.symm n hbn
  have hin : n ≤ i := by
   apply Classical.byContradiction
   intro hlt
   have := (hpre i (by omega)).2
   have := hb.inj (i := i) (j := n) (by omega) (by omega) (by rw [← this, ei])
   omega
  have hp : ∀ k, k < n → k < a.length ∧ k < b.length ∧ den a k = den b k := fun k hk => ⟨by omega, by omega, (hpre k hk).2⟩
  have hgh : den a n = den b n := by
   by_cases hjn' : j = n
   ·rw [hjn'] at ej; exact ej.symm
   ·have hin' : i ≠ n := fun e => by
     rw [e] at ei
     exact hjn' (hb.inj hj hbn (by rw [ej, ei]))
    exfalso
    have c := hb.srt n j (by omega) hj
    have d := ha.srt n i (by omega) hi
    have r := pF ha.opts hb.opts (show n < a.length by omega) hj ej.symm
    have s := pF ha.opts hb.opts hi hbn ei
    have f := ha.low (n := n) (i := n) (by omega) (Int.le_refl _) (by omega)
    have hle : (births a).getD i 0 ≤ (births a).getD n 0 := by rcases c with c | ⟨c, _⟩ <;> omega
    have g := ha.low (n := n) (i := i) hi hle (by omega)
    have h := hb.low (n := n) (i := n) hbn (Int.le_refl _) hbn
    have l : (births b).getD j 0 ≤ (births b).getD n 0 := by rcases d with d | ⟨d, _⟩ <;> omega
    have m := hb.low (n := n) (i := j) hj l hbn
    have o := tH ha hb (n := n) hi hbn hp g h ei
    have p := tH ha hb (n := n) (show n < a.length by omega) hj hp f m ej.symm
    have t : aheadI (b.getD n default) (b.getD j default) < 0 := by rcases c with c | ⟨_, c⟩; omega; exact c
    have q : aheadI (a.getD n default) (a.getD i default) < 0 := by rcases d with d | ⟨_, d⟩; omega; exact d
    rw [o, p, tW] at q
    omega
  refine ⟨hbn, fun k hk => ?_⟩
  by_cases hk' : k < n
  ·exact hpre k hk'
  ·have : k = n := by omega
   subst this
   exact ⟨tH ha hb (n := k) (by omega) hbn hp (ha.low (by omega) (Int.le_refl _) (by omega)) (hb.low hbn (Int.le_refl _) hbn) hgh, hgh⟩
theorem sg_unique (ha : SG a) (hb : SG b) (he : gOf a = gOf b) : a = b := by
 have h1 := nJ ha hb he a.length (cG _)
 have h2 := nJ hb ha he.symm b.length (cG _)
 exact eqdoneN (by omega) (cG _) fun i hi => (h1.2 i hi).1
def IsForm (g : Nat) (ns : List Nd) : Prop := SG ns ∧ gOf ns = g
theorem IsForm.unique {g : Nat} (ha : IsForm g a) (hb : IsForm g b) : a = b := sg_unique ha.1 hb.1 (ha.2.trans hb.2.symm)
end Go.GL
namespace Go.GL
open Go Go.RowKit
def KAll (ns : List Nd) (ks : List Int) : Prop := ks.length = ns.length * ns.length ∧ ∀ m, KOk ns ks m
variable {ns : List Nd}
theorem KAll.res {ks k1 : List Int} {m : Nat} (h : KAll ns ks) (k : KRes ns ks k1 m) : KAll ns k1 := by
 refine ⟨k.len.trans h.1, fun m' i j hi hj hs => ?_⟩
 by_cases hlt : i + j < m
 ·exact k.ok i j hi hj hlt
 ·rw [k.same i j hi hj (by omega)]; exact h.2 m' i j hi hj hs
theorem KAll.zero : KAll ns (List.replicate (ns.length * ns.length) 0) := ⟨by simp, fun _ => KOk.zero⟩
theorem Gadd.turn {S : Nat → Prop} {G0 G G' : Pin} {w0 w w' : World} {v : Value} (h : Pins (Gadd G0 w0 v) w) (hP : Pins G0 w') (hx : Ext S G w G' w') (hS : ∀ k, v.ownBlock = some k → ¬ S k) : Pins (Gadd G0 w0 v) w' := fun b o u hu => by
 rcases hu with hu | hu
 ·exact hP b o u hu
 ·have h1 := h b o u (cF hu)
  have h2 := hx.block b (vM h1) (hS b hu.1)
  unfold World.cell? at h1 ⊢
  simp only [h2]; exact h1
end Go.GL
namespace Go.GL
open Go Go.RowKit
structure WoOk (D ds : List Int) (k : Nat) : Prop where
 pw : ds.Pairwise (· < ·)
 mem : ∀ z, z ∈ ds ↔ z ∈ D ∧ (k : Int) ≤ z
theorem WoOk.hit {D ds : List Int} {k : Nat} (h : WoOk D ds k) (h1 : 0 < ds.length) (h2 : ds.getD 0 0 = (k : Int)) : WoOk D (ds.drop 1) (k + 1) ∧ (k : Int) ∈ D := by
 cases ds with
 | nil => cases h1
 | cons x r =>
  have hx : x = (k : Int) := h2
  subst hx
  have hp := List.pairwise_cons.1 h.pw
  refine ⟨⟨hp.2, fun z => ⟨fun hz => ?_, fun hz => ?_⟩⟩, ((h.mem k).1 List.mem_cons_self).1⟩
  ·have := hp.1 z hz
   exact ⟨((h.mem z).1 (List.mem_cons_of_mem _ hz)).1, by omega⟩
  ·have h3 := (h.mem z).2 ⟨hz.1, by omega⟩
   rcases List.mem_cons.1 h3 with rfl | h3
   ·omega
   ·exact h3
theorem fO : ∀ (n : Nat) (l : List Int), l.Nodup → (∀ x ∈ l, 0 ≤ x ∧ x < (n : Int)) → l.length ≤ n
 | 0, l, _, h => by
  cases l with
  | nil => exact cG 0
  | cons x r => have := h x List.mem_cons_self; omega
 | n + 1, l, hn, h => by
  by_cases hm : (n : Int) ∈ l
  ·have h1 := List.length_erase_of_mem hm
   have h2 := fO n (l.erase (n : Int)) (hn.erase _) fun x hx => by
    have h3 := (hn.mem_erase_iff).1 hx
    have := h x h3.2
    have := h3.1
    omega
   omega
  ·have := fO n l hn fun x hx => by
    have h1 := h x hx
    by_cases e : x = (n : Int)
    ·exact absurd (e ▸ hx) hm
    ·omega
   omega
theorem own_cut {α : Type} {E : Elt α} {e base : Nat} {G : Pin} {w : World} {v : Value} {xs : List α} (h : Own E e G w base v xs) (m : Nat) (zz : Int) (hz : 0 ≤ zz) (hzm : zz.toNat = m) (hm : m ≤ xs.length) (hp : 0 < xs.length) :
  ∃ u, Own E e G w base u (xs.take m) ∧ u.ownBlock = v.ownBlock ∧ RunsSlice v u E.size none (some zz) := by
 subst hzm
 obtain ⟨cells, ⟨hl, hown⟩, hr⟩ := h.ex
 rcases hown with ⟨_, h0⟩ | ⟨g, cap, cur, rfl, hb, hg, hn, hc, hs, ht⟩
 ·omega
 ·refine ⟨.slice (some ⟨g, 0, none⟩) zz.toNat cap, ⟨⟨cells.take (zz.toNat * E.size), ⟨?_, cF ⟨g, cap, cur, ?_, hb, hg, ?_, hc, hs, ?_⟩⟩, fun i x hx => ?_⟩, h.free⟩, rfl, ?_⟩
  ·rw [List.length_take, List.length_take, hl, Nat.min_eq_left hm]
   exact Nat.min_eq_left (Nat.mul_le_mul_right _ hm)
  ·rw [List.length_take, Nat.min_eq_left hm]
  ·rw [List.length_take, Nat.min_eq_left hm]; omega
  ·rw [List.length_take, Nat.min_eq_left hm, ← ht, List.take_take, Nat.min_eq_left (Nat.mul_le_mul_right _ hm)]
  ·rw [List.getElem?_take] at hx
   split at hx
   ·rename_i hi
    have h1 := hr i x hx
    have h2 : (i + 1) * E.size ≤ zz.toNat * E.size := Nat.mul_le_mul_right _ hi
    rw [Nat.add_mul, Nat.one_mul] at h2
    rw [List.drop_take, List.take_take, Nat.min_eq_left (by omega)]
    exact h1
   ·cases hx
  ·intro P w' d t e' ty pos aft gg x lx hx ρ htt hsz hρ hlx hhx
   have he := elem_of htt
   have ht' : P.underlying t = some (.slice (P.elem t)) := by rw [he]; exact htt
   have hsz' : ∀ w : World, (sizeOf (P.elem t)).run P w = .ok E.size w := fun w => by rw [he]; exact xP hsz w
   have key : (Instr.slice t (.slice (some ⟨g, 0, none⟩) xs.length cap) none (some (.int .i64 zz)) none).run P w' = .ok (.slice (some ⟨g, 0, none⟩) zz.toNat cap) w' := by
    refine (run_slice_h w' t (some ⟨g, 0, none⟩) xs.length cap ht' .i64 zz (by omega) (by omega)).trans ?_
    rw [hsz']
    simp [sliced, Addr.add]
   simp only [Option.map_none, Option.map_some] at hlx hhx
   simp [execOp, hρ, hlx, hhx, run_sliceAt_slice w' t _ _ _ _ ht', key]
inductive SubG (g : Nat) : Nat → Prop
 | self : SubG g g
 | left {x i : Nat} (h : SubG g x) (hl : loG x i) : SubG g i
 | right {x i : Nat} (h : SubG g x) (hr : roG x i) : SubG g i
theorem sg_sub {ns : List Nd} (h : SG ns) {x : Nat} : (∃ k, k < ns.length ∧ den ns k = x) ↔ SubG (gOf ns) x := by
 have hlo := h.lo
 constructor
 ·have key : ∀ n k, ns.length - k ≤ n → k < ns.length → SubG (gOf ns) (den ns k) := by
   intro n
   induction n with
   | zero => intro k h1 h2; omega
   | succ n ih =>
    intro k h1 h2
    by_cases hk : k + 1 < ns.length
    ·obtain ⟨i, hki, hi, hz⟩ := h.last k hk
     have := ih i (by omega) hi
     rcases hz with hz | hz
     ·exact this.left ((qF h.opts hi).2 ⟨_, hz, rfl⟩)
     ·exact this.right ((qE h.opts hi).2 ⟨_, hz, rfl⟩)
    ·have : k = ns.length - 1 := by omega
     subst this; exact .self
  rintro ⟨k, hk, rfl⟩
  exact key _ k (cG _) hk
 ·intro hs
  induction hs with
  | self => exact ⟨ns.length - 1, by omega, rfl⟩
  | left _ hl ih =>
   obtain ⟨k, hk, rfl⟩ := ih
   obtain ⟨o, ho, e⟩ := (qF h.opts hk).1 hl
   have := (xI h.opts hk).1 o ho
   exact ⟨o.toNat, by omega, e.symm⟩
  | right _ hl ih =>
   obtain ⟨k, hk, rfl⟩ := ih
   obtain ⟨o, ho, e⟩ := (qE h.opts hk).1 hl
   have := (xI h.opts hk).2 o ho
   exact ⟨o.toNat, by omega, e.symm⟩
theorem eY {l : List Int} (h : l.Pairwise (· < ·)) : l.Nodup := h.imp fun {a b} h e => by omega
noncomputable def formG (g : Nat) : List Nd := @dite _ (∃ ns, IsForm g ns) (Classical.propDecidable _) (fun h => Classical.choose h) (fun _ => [])
variable {ns : List Nd}
theorem IsForm.eq {g : Nat} (h : IsForm g ns) : formG g = ns := by
 have hx : ∃ ns, IsForm g ns := ⟨ns, h⟩
 unfold formG
 rw [dif_pos hx]
 exact (Classical.choose_spec hx).unique h
theorem form_eq {bs : List Int} (h : Ar ns bs) {m : Nat} (hm : m < ns.length) : formM ns bs m = formG (den ns m) :=
 (IsForm.eq (g := den ns m) ⟨(sM h hm).1, (sM h hm).2.1⟩).symm
end Go.GL
namespace Go.GL
open Go Go.RowKit Go.Sort Go.Lib
end Go.GL
namespace Go.GL
open Go Go.RowKit
theorem form_is {q : PSt} (hok : PoolOk q) {r : Int} (hr : PlaceOk q r) : IsForm (pd q r) (formG (pd q r)) := by
 have h := sM hok.ar (m := r.toNat) (by have := hr.1; have := hr.2; omega)
 have e := IsForm.eq (g := pd q r) ⟨h.1, h.2.1⟩
 rw [e]; exact ⟨h.1, h.2.1⟩
structure GsOk (q : PSt) (ls : List Int) (gs : List Nat) : Prop where
 pl : ∀ z ∈ ls, PlaceOk q z
 eq : ls.map (pd q) = gs
theorem GsOk.nil {q : PSt} : GsOk q [] [] := ⟨fun _ h => (List.not_mem_nil h).elim, rfl⟩
variable {ls : List Int} {gs : List Nat}
theorem GsOk.px {q q' : PSt} (h : GsOk q ls gs) (hx : PX q q') (hok : PoolOk q) (hok' : PoolOk q') : GsOk q' ls gs := ⟨fun z hz => hx.place (h.pl z hz), (px_map hx hok hok' h.pl).trans h.eq⟩
theorem GsOk.snoc {q : PSt} {z : Int} {g : Nat} (h : GsOk q ls gs) (hz : PlaceOk q z) (hg : pd q z = g) : GsOk q (ls ++ [z]) (gs ++ [g]) := by
 refine ⟨fun y hy => ?_, by rw [List.map_append, h.eq]; simp [hg]⟩
 rcases List.mem_append.1 hy with h1 | h1
 ·exact h.pl y h1
 ·rw [List.mem_singleton.1 h1]; exact hz
theorem GsOk.len {q : PSt} (h : GsOk q ls gs) : ls.length = gs.length := by rw [← h.eq, List.length_map]
end Go.GL
namespace Go.GL
open Go Go.RowKit
def flOf (ns : List Nd) : List (ByteArray × Int) := (List.range ns.length).map fun i => (b2s (keyN (ns.getD i default).l (ns.getD i default).r), (i : Int))
def bkq (ns : List Nd) (bs : List Int) : PSt := ⟨ns, bs, flOf ns, [], [], [], []⟩
variable {ns : List Nd} {bs xs ys : List Int}
theorem find_fl (h : Ar ns bs) : FindOk ns (flOf ns) := by
 have hk : ∀ i, i < ns.length → ∀ l r : List Int, (∀ x ∈ l, 0 ≤ x) → (∀ x ∈ r, 0 ≤ x) → b2s (keyN (ns.getD i default).l (ns.getD i default).r) = b2s (keyN l r) → ns.getD i default = ⟨l, r⟩ := fun i hi l r hl hr e => by
  have oo := xI h.opts hi
  obtain ⟨e1, e2⟩ := mH (fun z hz => (oo.1 z hz).1) (fun z hz => (oo.2 z hz).1) hl hr (eF e)
  cases hn : ns.getD i default with
  | mk a b => rw [hn] at e1 e2; simp only at e1 e2; rw [e1, e2]
 constructor
 ·intro i hi
  have oo := xI h.opts hi
  have key : ∀ n, (look ((List.range n).map fun i => (b2s (keyN (ns.getD i default).l (ns.getD i default).r), (i : Int))) (b2s (keyN (ns.getD i default).l (ns.getD i default).r))) = (if i < n then some (i : Int) else none) ∨ ns.length < n := by
   intro n
   induction n with
   | zero => left; rfl
   | succ n ih =>
    by_cases hn : ns.length < n + 1
    ·exact cF hn
    left
    have ih := ih.resolve_right (by omega)
    rw [List.range_succ, List.map_append]
    unfold look at ih ⊢
    rw [List.find?_append]
    by_cases h1 : i < n
    ·rw [if_pos h1] at ih
     obtain ⟨p, hp, e⟩ := Option.map_eq_some_iff.1 ih
     rw [hp, if_pos (by omega)]
     simp [e]
    ·rw [if_neg h1] at ih
     have h2 := Option.map_eq_none_iff.1 ih
     rw [h2]
     by_cases h3 : i = n
     ·subst h3; rw [if_pos (by omega)]; simp
     ·rw [if_neg (by omega)]
      have hne : ¬ (b2s (keyN (ns.getD n default).l (ns.getD n default).r) = b2s (keyN (ns.getD i default).l (ns.getD i default).r)) := fun e => by
       have := hk n (by omega) _ _ (fun z hz => (oo.1 z hz).1) (fun z hz => (oo.2 z hz).1) e
       exact h.diff n i (by omega) hi this
      have hd := decide_eq_false hne
      simp only [List.map_cons, List.map_nil, List.find?_cons, hd, List.find?_nil]
      rfl
  have := (key ns.length).resolve_right (by omega)
  rw [if_pos hi] at this
  exact this
 ·intro l r z hl hr hz
  unfold look flOf at hz
  obtain ⟨p, hp, e⟩ := Option.map_eq_some_iff.1 hz
  have h1 := List.mem_of_find?_eq_some hp
  obtain ⟨i, hi, rfl⟩ := List.mem_map.1 h1
  have h3 := List.find?_some hp
  simp only [decide_eq_true_eq] at h3
  have h2 := h3
  have hi' := List.mem_range.1 hi
  exact ⟨i, hi', e.symm, hk i hi' l r hl hr h2⟩
theorem eC (h : Ar ns bs) : PoolOk (bkq ns bs) :=
 ⟨h, find_fl h, (fun _ _ _ h => by cases h), (fun _ _ h => by cases h), (fun _ _ _ h => by cases h), (fun _ _ h => by cases h)⟩
theorem eU : putN ns bs xs ys = ns ∨ putN ns bs xs ys = ns ++ [putNd xs ys] := by
 unfold putN
 split
 ·exact cE rfl
 ·exact cF rfl
structure PutOk (ns : List Nd) (bs xs ys : List Int) : Prop where
 ok : PoolOk (bkq (putN ns bs xs ys) (putB ns bs xs ys))
 px : PX (bkq ns bs) (bkq (putN ns bs xs ys) (putB ns bs xs ys))
 pl : PlaceOk (bkq (putN ns bs xs ys) (putB ns bs xs ys)) (putK ns bs xs ys)
 pd : pd (bkq (putN ns bs xs ys) (putB ns bs xs ys)) (putK ns bs xs ys) = mkG (xs.map (Go.GL.pd (bkq ns bs))) (ys.map (Go.GL.pd (bkq ns bs)))
 len : (putN ns bs xs ys).length ≤ ns.length + 1
theorem bk_put (h : PoolOk (bkq ns bs)) (hl : ns.length + 1 ≤ 1048576) (hls : xs.length ≤ 1048576 ∧ ys.length ≤ 1048576) (h1 : ∀ z ∈ xs, PlaceOk (bkq ns bs) z) (h2 : ∀ z ∈ ys, PlaceOk (bkq ns bs) z) : PutOk ns bs xs ys := by
 have ha : Ar ns bs := h.ar
 have b1 := fM h1
 have b2 := fM h2
 have hp := ha.put hl hls b1 b2
 have hb := ha.ok.put hl hls b1 b2
 have hn := eU (ns := ns) (bs := bs) (xs := xs) (ys := ys)
 refine ⟨eC hp.1, ⟨?_, fun k hk => ?_, fun _ h => h⟩, hb.2.1, hp.2.1, ?_⟩
 ·show ns.length ≤ (putN ns bs xs ys).length
  rcases hn with e | e <;> rw [e]
  ·exact cG _
  ·simp
 ·show (putN ns bs xs ys).getD k default = ns.getD k default
  rcases hn with e | e <;> rw [e]
  exact yT hk
 ·rcases hn with e | e <;> rw [e] <;> simp
theorem pE {ns : List Nd} {bs : List Int} (h : PoolOk (bkq ns bs)) {z : Int} (hz : PlaceOk (bkq ns bs) z) : formM ns bs z.toNat = formG (pd (bkq ns bs) z) := form_eq h.ar (m := z.toNat) (show z.toNat < ns.length by have := hz.1; have h2 : z < (ns.length : Int) := hz.2; omega)
end Go.GL
namespace Go.GL
open Go Go.RowKit
structure AllW (fs : List (List Nd)) : Prop where
 len : fs.length ≤ 100
 ok : ∀ i, i < fs.length → FormOk (fs.getD i []) ∧ 1 ≤ (fs.getD i []).length ∧ (fs.getD i []).length ≤ 1000
noncomputable def mkGm (fs gs : List (List Nd)) : Nat := mkG (fs.map gOf) (gs.map gOf)
structure RootOk (ns : List Nd) (bs : List Int) (fs : List Nd) : Prop where
 ok : PoolOk (bkq (addM ns bs fs).2.1 (addM ns bs fs).2.2)
 px : PX (bkq ns bs) (bkq (addM ns bs fs).2.1 (addM ns bs fs).2.2)
 pl : PlaceOk (bkq (addM ns bs fs).2.1 (addM ns bs fs).2.2) (rootM ns bs fs)
 pd : pd (bkq (addM ns bs fs).2.1 (addM ns bs fs).2.2) (rootM ns bs fs) = gOf fs
 len : (addM ns bs fs).2.1.length ≤ ns.length + fs.length
variable {ns : List Nd} {bs : List Int} {fs : List (List Nd)} {g : Nat}
theorem addM_old {fs : List Nd} : ∀ k, k ≤ fs.length → ns.length ≤ (addM ns bs (fs.take k)).2.1.length ∧ ∀ j, j < ns.length → (addM ns bs (fs.take k)).2.1.getD j default = ns.getD j default := by
 intro k
 induction k with
 | zero => intro _; exact ⟨cG _, fun j _ => rfl⟩
 | succ k ih =>
  intro hk
  obtain ⟨h1, h2⟩ := ih (by omega)
  rw [jK (by omega)]
  generalize addM ns bs (fs.take k) = s at h1 h2
  obtain ⟨az, ns2, bs2⟩ := s
  show ns.length ≤ (putN ns2 bs2 _ _).length ∧ ∀ j, j < ns.length → (putN ns2 bs2 _ _).getD j default = ns.getD j default
  simp only at h1 h2
  rcases eU (ns := ns2) (bs := bs2) (xs := atL az (fs.getD k default).l) (ys := atL az (fs.getD k default).r) with e | e <;> rw [e]
  ·exact ⟨h1, h2⟩
  ·refine ⟨by simp; omega, fun j hj => ?_⟩
   rw [yT (by omega)]; exact h2 j hj
theorem eD {fs : List Nd} (h : PoolOk (bkq ns bs)) (hf : FormOk fs) (h1 : 1 ≤ fs.length) (hl : ns.length + fs.length ≤ 1048576) : RootOk ns bs fs := by
 have ha : Ar ns bs := h.ar
 have hd := ha.add hf hl
 have hr := ha.root hf h1 hl
 have hao := jD ha.ok hf hl
 have ho := addM_old (ns := ns) (bs := bs) (fs := fs) fs.length (cG _)
 rw [List.take_length] at ho
 have hp := hao.places (fs.length - 1) (by have := hao.len; omega)
 have hal := hao.len
 have e : rootM ns bs fs = (addM ns bs fs).1.getD (fs.length - 1) 0 := by unfold rootM; rw [hal]
 refine ⟨eC hd.ar, ⟨ho.1, ho.2, fun _ h => h⟩, ?_, hr, hao.hi⟩
 rw [e]; exact hp
theorem eM {j : Nat} (h : j < fs.length) : (fs.take (j + 1)).map gOf = (fs.take j).map gOf ++ [gOf (fs.getD j [])] := by
 rw [jF fs [] h, List.map_append]; rfl
theorem sub_mk {ls rs : List Nat} {x : Nat} (h : SubG (mkG ls rs) x) : x = mkG ls rs ∨ ∃ y, y ∈ ls ++ rs ∧ SubG y x := by
 induction h with
 | self => exact cE rfl
 | left _ hl ih =>
  rcases ih with rfl | ⟨y, hy, hs⟩
  ·exact cF ⟨_, List.mem_append_left _ (lo_mk.1 hl), .self⟩
  ·exact cF ⟨y, hy, hs.left hl⟩
 | right _ hl ih =>
  rcases ih with rfl | ⟨y, hy, hs⟩
  ·exact cF ⟨_, List.mem_append_right _ (ro_mk.1 hl), .self⟩
  ·exact cF ⟨y, hy, hs.right hl⟩
theorem form_le (h : IsForm g ns) {L : List Nat} (hL : ∀ x, SubG g x → x ∈ L) : ns.length ≤ L.length := by
 have h1 : ((List.range ns.length).map (den ns)).Nodup := by
  unfold List.Nodup
  rw [List.pairwise_map]
  exact (List.nodup_range (n := ns.length)).imp_of_mem fun {a b} ha hb hne e => hne (h.1.inj (List.mem_range.1 ha) (List.mem_range.1 hb) e)
 have h2 : ((List.range ns.length).map (den ns)) ⊆ L := fun x hx => by
  obtain ⟨j, hj, rfl⟩ := List.mem_map.1 hx
  exact hL _ (h.2 ▸ (sg_sub h.1).1 ⟨j, List.mem_range.1 hj, rfl⟩)
 have := h1.length_le_of_subset h2
 simpa using this
theorem nV (h : IsForm g ns) (hl : ns.length ≤ 1048576) : FormOk ns :=
 ⟨hl, h.1.opts, fun i hi => by
  have oo := xI h.1.opts hi
  have a := fO i _ (eY (h.1.pw i hi).1) oo.1
  have b := fO i _ (eY (h.1.pw i hi).2) oo.2
  omega⟩
theorem mG : ∀ (l : List (List Nd)) (ns : List Nd) (bs : List Int), PoolOk (bkq ns bs) → (∀ f ∈ l, FormOk f ∧ 1 ≤ f.length ∧ f.length ≤ 1000) → ns.length + 1000 * l.length ≤ 1048575 →
  ∃ a b ats, PoolOk (bkq a b) ∧ PX (bkq ns bs) (bkq a b) ∧ GsOk (bkq a b) ats (l.map gOf) ∧ a.length ≤ ns.length + 1000 * l.length
 | [], ns, bs, h, _, _ => ⟨ns, bs, [], h, PX.refl _, GsOk.nil, cG _⟩
 | f :: l, ns, bs, h, hl, hb => by
  rw [List.length_cons] at hb
  obtain ⟨i, j, k⟩ := hl f List.mem_cons_self
  have hr := eD (fs := f) h i j (by omega)
  have hlen := hr.len
  obtain ⟨a, b, ats, d, c, e, m⟩ := mG l _ _ hr.ok (fun g hg => hl g (List.mem_cons_of_mem _ hg)) (by omega)
  refine ⟨a, b, rootM ns bs f :: ats, d, hr.px.trans c, ⟨fun z hz => ?_, ?_⟩, by rw [List.length_cons]; omega⟩
  ·rcases List.mem_cons.1 hz with rfl | hz
   ·exact c.place hr.pl
   ·exact e.pl z hz
  ·rw [List.map_cons, List.map_cons, e.eq, c.pd hr.ok d hr.pl, hr.pd]
theorem allW_mem (h : AllW fs) : ∀ f ∈ fs, FormOk f ∧ 1 ≤ f.length ∧ f.length ≤ 1000 := fun f hf => by
 obtain ⟨i, hi, e⟩ := List.mem_iff_getElem.1 hf
 have := h.ok i hi
 have e2 : fs.getD i [] = f := by simp [List.getD, hi, e]
 rw [e2] at this; exact this
theorem mk_isform {gs : List (List Nd)} (hf : AllW fs) (hg : AllW gs) : IsForm (mkGm fs gs) (formG (mkGm fs gs)) := by
 have k := hf.len
 have l := hg.len
 obtain ⟨ns, bs, ats, b, m, e, f⟩ := mG fs [] [] (eC Ar.empty) (allW_mem hf) (by rw [List.length_nil]; omega)
 rw [List.length_nil] at f
 obtain ⟨n, o, g, d, h, a, p⟩ := mG gs ns bs b (allW_mem hg) (by omega)
 have c := e.px h b d
 have i := c.len
 have j := a.len
 rw [List.length_map] at i j
 have hp := bk_put (xs := ats) (ys := g) d (by omega) ⟨by omega, by omega⟩ c.pl a.pl
 have := form_is hp.ok hp.pl
 rw [hp.pd, c.eq, a.eq] at this
 exact this
end Go.GL
namespace Go.GL
open Go Go.RowKit
theorem pH (v : Value) : (Value.agg #[v]).cells.toList = [v] := by simp [Value.cells]
theorem flat_one : ∀ (vs : List Value), ((vs.map fun v => Value.agg #[v]).flatMap fun v => v.cells.toList) = vs
 | [] => rfl
 | v :: vs => by
  rw [List.map_cons, List.flatMap_cons, pH v, flat_one vs]
  rfl
variable {G : Pin} {v : Value} {vs : List Value}
theorem mD {α : Type} {E : Elt α} {P : Program} {ρ : Operand → Value} {w : World} {K : Value → World → Prop} {d : Option Nat} {t ty e : Nat} {pos : String} {aft : Array Edge} {g : Option (Nat × Bool)}
  {n : Nat} {parts : Array (Nat × Operand)} (vs : List Value) (ys : List α) {z : Value} (ht : P.underlying t = some (.slice e)) (hs : (P.info? e).map (·.size) = some 1) (hz : (P.info? e).bind (·.zero) = some z)
  (hr : RepsF E G vs ys) (_ : ∀ u ∈ vs, u.oneCell' = true) (hn : n = vs.length) (hn2 : n = ys.length) (hE : E.size = 1)
  (hpt' : (parts.toList.map fun (i, x) => (i, ρ x)) = ((vs.map fun v => Value.agg #[v]).zipIdx 0).map fun x => (x.2, x.1)) (hpos : 0 < n ∧ n ≤ 1000000) (hP : Pins G w)
  (h : ∀ v w', Own E e G w' w.heap.size v ys → Pins G w' → Below w.heap.size w w' → v.ownBlock = some w.heap.size → K v w') : EO P ρ ⟨d, .buildSlice t n parts, ty, pos, aft, g⟩ w K := by
 have hpt := (Array.toList_map ..).trans hpt'
 obtain ⟨inf, hinf, hsz⟩ := Option.map_eq_some_iff.1 hs
 have hzz : inf.zero = some z := by simpa [hinf] using hz
 have hrun := run_buildSlice (P := P) w t e n (parts.map fun (i, x) => (i, ρ x)) vs.toArray inf z ht hinf hzz (by rw [hsz]; omega) (by rw [hsz]; omega)
  (by
   rw [hpt, hsz]
   have hf := Great.fill_whole (s := 1) (by decide) (vs.map fun v => Value.agg #[v]) ((Array.range (n * 1)).map (z.cells[· % z.cells.size]!)) (fun v hv => by
    obtain ⟨u, _, rfl⟩ := List.mem_map.1 hv
    have := cgA List.length (pH u)
    simpa using this) (by simp [hn])
   rw [hf, flat_one vs])
 obtain ⟨v, w', h1, h2, h3, h4, h5⟩ := run_build (E := E) (d := d) (ty := ty) (pos := pos) (aft := aft) (g := g) n parts vs ys hrun hP hn2 (by omega) (by rw [hE]; omega) (fun i y hy => by
  obtain ⟨v, hv, hrep⟩ := hr i y hy
  have : (vs.drop (i * E.size)).take E.size = [v] := by
   rw [hE, Nat.mul_one]
   apply List.ext_getElem?
   intro j
   rw [List.getElem?_take, List.getElem?_drop]
   match j with
   | 0 => simpa using hv
   | j + 1 => simp
  rw [this]; exact hrep)
 exact EO.run h1 (h v w' h2 h3 h4 h5)
theorem repsN {α : Type} {E : Elt α} : RepsF E G [] [] := fun i y hy => by simp at hy
theorem vT {α : Type} {E : Elt α} {y : α} {ys : List α} (h : E.rep G [v] y) (k : RepsF E G vs ys) : RepsF E G (v :: vs) (y :: ys) := fun i z hz => by
 cases i with
 | zero => simp at hz; subst hz; exact ⟨v, rfl, h⟩
 | succ i => simp at hz; obtain ⟨u, hu, hr⟩ := k i z hz; exact ⟨u, by simpa using hu, hr⟩
theorem onesN : ∀ u ∈ ([] : List Value), u.oneCell' = true := fun _ h => (List.not_mem_nil h).elim
theorem vW (h : v.oneCell' = true) (k : ∀ u ∈ vs, u.oneCell' = true) : ∀ u ∈ v :: vs, u.oneCell' = true := fun u hu => by
 rcases List.mem_cons.1 hu with rfl | hu
 ·exact h
 ·exact k u hu
end Go.GL
namespace Go.GL
open Go Go.RowKit
structure KQ (Q : List Nat) : Prop where
 is : ∀ g ∈ Q, IsForm g (formG g)
 sub : ∀ g ∈ Q, ∀ x, SubG g x → x ∈ Q
theorem KQ.nil : KQ [] := ⟨fun _ h => (List.not_mem_nil h).elim, fun _ h => (List.not_mem_nil h).elim⟩
theorem KQ.w {Q : List Nat} (h : KQ Q) (hl : Q.length ≤ 1000) {g : Nat} (hg : g ∈ Q) : FormOk (formG g) ∧ 1 ≤ (formG g).length ∧ (formG g).length ≤ Q.length := by
 have h1 := form_le (h.is g hg) (h.sub g hg)
 exact ⟨nV (h.is g hg) (by omega), (h.is g hg).1.lo, h1⟩
variable {gs : List Nat}
theorem KQ.allW {Q : List Nat} (h : KQ Q) (hl : Q.length ≤ 1000) (hg : ∀ g ∈ gs, g ∈ Q) (hn : gs.length ≤ 100) : AllW (gs.map formG) := by
 refine ⟨by simpa using hn, fun i hi => ?_⟩
 have hi' : i < gs.length := by simpa using hi
 have e : (gs.map formG).getD i [] = formG gs[i] := by simp [List.getD, hi']
 rw [e]
 obtain ⟨a, b, c⟩ := h.w hl (hg _ (List.getElem_mem hi'))
 exact ⟨a, b, by omega⟩
theorem KQ.gof {Q : List Nat} (h : KQ Q) (hg : ∀ g ∈ gs, g ∈ Q) : (gs.map formG).map gOf = gs := by
 rw [List.map_map]
 refine (List.map_congr_left (g := id) fun g hm => ?_).trans (List.map_id _)
 exact (h.is g (hg g hm)).2
theorem KQ.add {Q : List Nat} (h : KQ Q) (hl : Q.length ≤ 1000) {hs : List Nat} (hg : ∀ g ∈ gs, g ∈ Q) (hh : ∀ g ∈ hs, g ∈ Q) (h1 : gs.length ≤ 100) (h2 : hs.length ≤ 100) : KQ (mkGm (gs.map formG) (hs.map formG) :: Q) := by
 have hi := mk_isform (h.allW hl hg h1) (h.allW hl hh h2)
 have e : mkGm (gs.map formG) (hs.map formG) = mkG gs hs := by unfold mkGm; rw [h.gof hg, h.gof hh]
 rw [e] at hi ⊢
 refine ⟨fun g hm => ?_, fun g hm x hx => ?_⟩
 ·rcases List.mem_cons.1 hm with rfl | hm
  ·exact hi
  ·exact h.is g hm
 ·rcases List.mem_cons.1 hm with rfl | hm
  ·rcases sub_mk hx with rfl | ⟨y, hy, hs⟩
   ·exact List.mem_cons_self
   ·rcases List.mem_append.1 hy with hy | hy
    ·exact List.mem_cons_of_mem _ (h.sub y (hg y hy) x hs)
    ·exact List.mem_cons_of_mem _ (h.sub y (hh y hy) x hs)
  ·exact List.mem_cons_of_mem _ (h.sub g hm x hx)
theorem Bx.anti {G G' : Pin} {w : World} {b : Nat} {cs : List Value} (h : Bx G' w b cs) (hl : Pin.le G G') : Bx G w b cs := ⟨h.heap, fun o u hu => h.free o u (hl _ _ _ hu)⟩
theorem ownV_anti {e base : Nat} {G G' : Pin} {w : World} {v : Value} {xs : List Value} (h : Own eVal e G' w base v xs) (hl : Pin.le G G') : Own eVal e G w base v xs := by
 obtain ⟨cells, h1, h2⟩ := h.ex
 exact ⟨⟨cells, h1, h2⟩, fun k hk o u hu => h.free k hk o u (hl _ _ _ hu)⟩
theorem ext_grown {x : Option Nat} {G G' : Pin} {w w' : World} (h : Ext (inO x) G w G' w') : w.grownBy w' x :=
 ⟨h.os, h.tape, h.output, h.size, fun k hk hne => h.block k hk fun hx => hne hx.symm⟩
theorem ext_back {S : Nat → Prop} {G Gx G' : Pin} {w w' : World} (hl : Pin.le G Gx) (hx : Ext S Gx w G' w') : Ext S G w G w' :=
 ⟨cI _, fun b o u hu => hx.pins b o u (hx.le _ _ _ (hl _ _ _ hu)), fun _ _ _ h => cE h, hx.os, hx.tape, hx.output, hx.size, hx.block⟩
structure Tk (e base : Nat) (G : Pin) (w : World) (v : Value) (ns : List Nd) : Prop where
 own : ∃ Gi, Own eNode e Gi w base v ns ∧ Pin.le Gi G
 rd : RSl eNode G v ns
 lo : 1 ≤ ns.length
section
variable {e base : Nat} {G G' : Pin} {w w' : World} {v : Value} {ns : List Nd} {x row : Option Nat}
theorem Tk.blk (h : Tk e base G w v ns) : ∀ k, v.ownBlock = some k → ∃ o u, G k o u := fun k hk => by
 obtain ⟨a, b, o, n, c, cs, hv, hk2, hr, hg⟩ := h.rd.at_ 0 _ (List.getElem?_eq_getElem h.lo)
 have hb : a.block = b := by
  have h := cgA Addr.block (hk2 0)
  refine Eq.trans ?_ h
  simp only [Addr.add]; split <;> rfl
 have hl := eNode.len hr
 have hc : 0 < cs.length := by rw [hl]; decide
 refine ⟨o + 0, cs[0], ?_⟩
 have h1 := hg 0 _ (List.getElem?_eq_getElem hc)
 rw [hv] at hk
 have : k = b := by rw [← hb]; exact (Option.some.inj hk).symm
 rw [this]; exact h1
theorem Tk.le (h : Tk e base G w v ns) (hl : Pin.le G G') : Tk e base G' w v ns := by
 obtain ⟨Gi, h1, h2⟩ := h.own
 exact ⟨⟨Gi, h1, cA h2 hl⟩, h.rd.mono hl, h.lo⟩
theorem Tk.kept (h : Tk e base G w v ns) (hg : w.grownBy w' row) (hf : ∀ k, row = some k → ∀ o u, ¬ G k o u) : Tk e base G w' v ns := by
 obtain ⟨Gi, h1, h2⟩ := h.own
 refine ⟨⟨Gi, h1.keptA hg (fun k a b => ?_), h2⟩, h.rd, h.lo⟩
 obtain ⟨o, u, hu⟩ := h.blk k a
 exact hf k b o u hu
theorem Tk.below (h : Tk e base G w v ns) (hb : Below w.heap.size w w') : Tk e base G w' v ns := h.kept (Below.grownBy hb none) fun _ hk => by cases hk
theorem Tk.ext (h : Tk e base G w v ns) (hx : Ext noS G w G' w') : Tk e base G' w' v ns := (h.below hx.below).le hx.le
theorem Tk.turned (h : Tk e base G w v ns) (hx : Ext (inO x) G w G' w') (hf : ∀ k, x = some k → ∀ o u, ¬ G k o u) : Tk e base G' w' v ns := (h.kept (ext_grown hx) hf).le hx.le
theorem Tk.one (h : Tk e base G w v ns) : v.oneCell' = true := h.rd.one
theorem Tk.give {S : Nat → Prop} {G0 : Pin} {w0 : World} (h : Tk e w0.heap.size G w v ns) (hP : Pins G0 w0) (hx : Ext S G0 w0 G w) : ∃ G2, Own eNode e G2 w w0.heap.size v ns ∧ Ext S G0 w0 G2 w ∧ Pin.le G2 G := by
 obtain ⟨Gi, h1, h2⟩ := h.own
 have h2' : Pin.le (fun b o u => Gi b o u ∨ G0 b o u) G := fun b o u hu => hu.elim (h2 b o u) (hx.le b o u)
 refine ⟨fun b o u => Gi b o u ∨ G0 b o u, h1.mono (fun b o u hu => cE hu) (fun k hk o u hu => ?_), ⟨fun b o u hu => cF hu, fun b o u hu => hx.pins b o u (h2' b o u hu), fun b o u hu => hx.fresh b o u (h2' b o u hu), hx.os, hx.tape, hx.output, hx.size, hx.block⟩, h2'⟩
 rcases hu with hu | hu
 ·exact h1.free k hk o u hu
 ·have a := (h1.lt k hk).1
  have b := vM (hP k o u hu)
  omega
end
def Fr (e base : Nat) (G : Pin) (w : World) (Q : List Nat) (vs : List Value) : Prop := ∀ v ∈ vs, ∃ g, g ∈ Q ∧ Tk e base G w v (formG g)
section
variable {e base : Nat} {G G' : Pin} {w w' : World} {Q : List Nat} {vs : List Value} {x row : Option Nat}
theorem Fr.nil : Fr e base G w Q [] := fun _ h => (List.not_mem_nil h).elim
theorem Fr.le (h : Fr e base G w Q vs) (hl : Pin.le G G') : Fr e base G' w Q vs := fun v hv => let ⟨g, a, b⟩ := h v hv; ⟨g, a, b.le hl⟩
theorem Fr.below (h : Fr e base G w Q vs) (hb : Below w.heap.size w w') : Fr e base G w' Q vs := fun v hv => let ⟨g, a, b⟩ := h v hv; ⟨g, a, b.below hb⟩
theorem Fr.ext (h : Fr e base G w Q vs) (hx : Ext noS G w G' w') : Fr e base G' w' Q vs := fun v hv => let ⟨g, a, b⟩ := h v hv; ⟨g, a, b.ext hx⟩
theorem Fr.kept (h : Fr e base G w Q vs) (hg : w.grownBy w' row) (hf : ∀ k, row = some k → ∀ o u, ¬ G k o u) : Fr e base G w' Q vs := fun v hv => let ⟨g, a, b⟩ := h v hv; ⟨g, a, b.kept hg hf⟩
theorem Fr.turned (h : Fr e base G w Q vs) (hx : Ext (inO x) G w G' w') (hf : ∀ k, x = some k → ∀ o u, ¬ G k o u) : Fr e base G' w' Q vs := fun v hv => let ⟨g, a, b⟩ := h v hv; ⟨g, a, b.turned hx hf⟩
theorem Fr.mem (h : Fr e base G w Q vs) {us : List Value} (hu : ∀ u ∈ us, u ∈ vs) : Fr e base G w Q us := fun v hv => h v (hu v hv)
theorem Fr.wide (h : Fr e base G w Q vs) {base' : Nat} (hb : base' ≤ base) : Fr e base' G w Q vs := fun v hv => by
 obtain ⟨g, a, b⟩ := h v hv
 obtain ⟨Gi, h1, h2⟩ := b.own
 exact ⟨g, a, ⟨Gi, h1.weaken hb, h2⟩, b.rd, b.lo⟩
theorem Fr.cons (h : Fr e base G w Q vs) {v : Value} {g : Nat} (hv : Tk e base G w v (formG g)) : Fr e base G w (g :: Q) (v :: vs) := fun u hu => by
 rcases List.mem_cons.1 hu with rfl | hu
 ·exact ⟨g, List.mem_cons_self, hv⟩
 ·obtain ⟨k, a, b⟩ := h u hu; exact ⟨k, List.mem_cons_of_mem _ a, b⟩
theorem Fr.one (h : Fr e base G w Q vs) {v : Value} (hv : v ∈ vs) : v.oneCell' = true := let ⟨_, _, b⟩ := h v hv; b.one
theorem Fr.games (h : Fr e base G w Q vs) : ∃ gs : List Nat, gs.length = vs.length ∧ (∀ g ∈ gs, g ∈ Q) ∧ ∀ i, i < vs.length → RSl eNode G (vs.getD i default) ((gs.map formG).getD i []) := by
 induction vs with
 | nil => exact ⟨[], rfl, fun _ h => (List.not_mem_nil h).elim, fun i hi => absurd hi (cJ i)⟩
 | cons v vs ih =>
  obtain ⟨gs, h1, h2, h3⟩ := ih fun u hu => h u (List.mem_cons_of_mem _ hu)
  obtain ⟨g, a, b⟩ := h v List.mem_cons_self
  refine ⟨g :: gs, by simp [h1], fun k hk => ?_, fun i hi => ?_⟩
  ·rcases List.mem_cons.1 hk with rfl | hk
   ·exact a
   ·exact h2 k hk
  ·cases i with
   | zero => simpa using b.rd
   | succ i => simpa using h3 i (by simpa using hi)
end
theorem nH {G : Pin} {v : Value} {us : List Value} {fs : List (List Nd)} (hr : RSl eVal G v us) (hl : fs.length = us.length) (hk : ∀ i, i < us.length → RSl eNode G (us.getD i default) (fs.getD i [])) : RSl (eSl eNode) G v fs := by
 obtain ⟨a, c, e, q, g⟩ := hr.sl
 refine ⟨⟨a, c, by rw [e, hl], by omega, g⟩, fun i f hi => ?_⟩
 have hi' : i < fs.length := (List.getElem?_eq_some_iff.1 hi).1
 obtain ⟨a, b, o, n, c, cs, h, j, k, l⟩ := hr.at_ i _ (List.getElem?_eq_getElem (show i < us.length by omega))
 refine ⟨a, b, o, n, c, cs, h, j, ?_, l⟩
 have d := hk i (by omega)
 have m : us.getD i default = us[i]'(by omega) := by simp [List.getD, show i < us.length by omega]
 have p : fs.getD i [] = f := by simp [List.getD, hi]
 rw [m, p] at d
 exact ⟨_, k.1, d⟩
theorem gH (n : Int) : 0 ≤ IntKind.u64.wrap n ∧ IntKind.u64.wrap n < 18446744073709551616 := by
 unfold IntKind.wrap
 simp only [IntKind.bits, IntKind.signed]
 have h1 := Int.emod_nonneg n (b := (2 : Int) ^ 64) (by decide)
 have h2 := Int.emod_lt_of_pos n (b := (2 : Int) ^ 64) (by decide)
 simp at h1 h2 ⊢
 omega
theorem snoc_mem {α : Type} {l : List α} {x : α} : ∀ v ∈ l ++ [x], v ∈ x :: l := fun v hv => by
 rcases List.mem_append.1 hv with h | h
 ·exact List.mem_cons_of_mem _ h
 ·rw [List.mem_singleton.1 h]; exact List.mem_cons_self
section
variable {P : Program} {ρ : Operand → Value} {w : World} {K : Value → World → Prop} {d : Option Nat} {t ty e : Nat} {pos : String} {aft : Array Edge} {g : Option (Nat × Bool)} {x y : Operand} {G : Pin} {v : Value}
variable {xs : List Nd} {z : Int} {u : Value}
theorem run_setNL {base : Nat} {l : List Int} (hs : (P.info? t).map (·.size) = some 1) (hx : ρ x = eptr v z 2 0) (hy : ρ y = u) (hu : RSl eInt G u l) (hP : Pins G w) (hv : Own eNode e G w base v xs) (h0 : 0 ≤ z) (h1 : z < xs.length) :
  ∃ w', (execOp ρ ⟨d, .store t x y, ty, pos, aft, g⟩).run P w = .ok .skip w' ∧ Own eNode e G w' base v (xs.set z.toNat ⟨l, (xs.getD z.toNat default).r⟩) ∧ Pins G w' ∧ w.grownBy w' v.ownBlock ∧ w'.heap.size = w.heap.size := by
 have hz : z.toNat < xs.length := by omega
 obtain ⟨cells, hown, hr⟩ := hv.ex
 have hel := hr z.toNat _ (List.getElem?_eq_getElem hz)
 have m : xs[z.toNat] = xs.getD z.toNat default := by simp [List.getD, hz]
 rw [m] at hel
 obtain ⟨n, b, hcells, o, h⟩ := hel
 have hone := hu.one
 have aj := h.one
 obtain ⟨gb, w', hb, hp, hrun, i, p, s, a4⟩ := hv.setAt (P := P) h0 h1 (q := ⟨l, (xs.getD z.toNat default).r⟩) (cs := [u, b]) ⟨u, b, rfl, hu, h⟩ hP
 rcases hown.2 with ⟨rfl, o⟩ | ⟨g', cap, cur, rfl, hbg, hg, hnc, hcm, hcs, htake⟩
 ·omega
 ·have hgb : gb = g' := by simpa [Value.ownBlock] using hb.symm
  subst hgb
  have e2 : eNode.size = 2 := rfl
  rw [e2] at hrun hcs htake hcells hp
  have ac : z.toNat * 2 + 2 ≤ cur.size := by omega
  rw [← htake] at hcells
  have hc : ∀ k a, ([n, b] : List Value)[k]? = some a → cur.toList[z.toNat * 2 + k]? = some a := fun k a ha => by
   have hk : k < 2 := by have := (List.getElem?_eq_some_iff.1 ha).1; simpa using this
   have j : ((((cur.toList.take (xs.length * 2)).drop (z.toNat * 2)).take 2)[k]?) = some a := by rw [hcells]; exact ha
   rw [List.getElem?_take, if_pos hk, List.getElem?_drop, List.getElem?_take, if_pos (by omega)] at j
   exact j
  have c1 := hc 1 _ rfl
  have c := run_storeCells_at P gb (z.toNat * 2) e [u, b] 0 cur w hg (by simpa using ac) (by intro a ha; simp at ha; rcases ha with rfl | rfl <;> assumption)
  have f := run_storeCells_at P gb (z.toNat * 2) e [u] 0 cur w hg (by simp; omega) (by intro a ha; simp at ha; subst ha; assumption)
  simp only [Nat.add_zero] at c f
  have hw : w' = w.setRow gb (cur.toList.take (z.toNat * 2) ++ [u] ++ cur.toList.drop (z.toNat * 2 + [u].length)).toArray := by
   rw [hrun] at c
   have ae := (Result.ok.inj c).2
   rw [ae]
   congr 2
   have af : cur.toList.drop (z.toNat * 2 + 1) = b :: cur.toList.drop (z.toNat * 2 + 2) := by
    obtain ⟨h7, h8⟩ := List.getElem?_eq_some_iff.1 c1
    rw [List.drop_eq_getElem_cons h7, h8]
   simp [af]
  have hpt : eptr (.slice (some ⟨gb, 0, none⟩) xs.length cap) z 2 0 = .pointer (some ⟨gb, z.toNat * 2, none⟩) := by
   clear hx hrun c f hw hr hc hp i hv hown
   simp only [eptr, Addr.add]; split <;> simp_all
  rw [hpt] at hx
  refine ⟨w', ?_, i, p, s, a4⟩
  have hlv : (storeVar t ⟨gb, z.toNat * 2, none⟩ u).run P w = .ok () w' := by
   have ai : u.cells = #[u] := xB hone
   unfold storeVar
   simp only [Sem.run_bind, xP hs, Result.andThen_ok, ai]
   simp only [List.size_toArray, List.length_cons, List.length_nil, cQ, ne_eq, not_true_eq_false, if_false]
   rw [f, hw]
  simp only [execOp, hx, hy, Instr.storeAt, Instr.sureAddr, Sem.run_bind, Sem.run_pure, Result.andThen_ok, hlv]
theorem o_setNL {base : Nat} {l : List Int} (hs : (P.info? t).map (·.size) = some 1) (hx : ρ x = eptr v z 2 0) (hy : ρ y = u) (hu : RSl eInt G u l) (hP : Pins G w) (hv : Own eNode e G w base v xs) (h0 : 0 ≤ z) (h1 : z < xs.length)
  (h : ∀ w', Own eNode e G w' base v (xs.set z.toNat ⟨l, (xs.getD z.toNat default).r⟩) → Pins G w' → w.grownBy w' v.ownBlock → w'.heap.size = w.heap.size → K undef w') : EO P ρ ⟨d, .store t x y, ty, pos, aft, g⟩ w K := by
 obtain ⟨w', h2, h3, h4, h5, h6⟩ := run_setNL (d := d) (ty := ty) (pos := pos) (aft := aft) (g := g) hs hx hy hu hP hv h0 h1
 exact EO.skip h2 (h w' h3 h4 h5 h6)
end
end Go.GL
namespace Go.GL
open Go Go.RowKit
theorem mem_ix {l : List Int} {z : Int} (h : z ∈ l) : ∃ i, i < l.length ∧ l.getD i 0 = z := by
 obtain ⟨i, hi, e⟩ := List.getElem_of_mem h
 exact ⟨i, hi, by simp [List.getD, hi, e]⟩
variable {xa bs : List Nd} {ps : List Cl}
theorem right_ge (hA : OptsOk xa) (hB : OptsOk bs) {n : Nat} (h : ∀ k, k < n → RightP xa bs ps k) :
  ∀ k, k < n → geG (den xa (ps.getD k default).a.toNat) (den bs (ps.getD k default).b.toNat) := by
 intro k
 induction k using Nat.strongRecOn with
 | _ k ih =>
  intro hk
  have hr := h k hk
  have ra := hr.ra
  have rb := hr.rb
  rw [ge_iff]
  constructor
  ·intro r hro hge
   obtain ⟨z, hz, rfl⟩ := (qE hA (show (ps.getD k default).a.toNat < xa.length by omega)).1 hro
   obtain ⟨i, hi, rfl⟩ := mem_ix hz
   have hzz := (xI hA (show (ps.getD k default).a.toNat < xa.length by omega)).2 _ hz
   obtain ⟨hp, hm⟩ := hr.rr i hi
   have h1 := ih ((ps.getD k default).r.getD i 0).toNat (by omega) (by omega)
   rcases mem_rights.1 hm with ⟨e1, e2⟩ | ⟨e1, e2⟩
   ·rw [e1] at h1
    exact (ge_iff.1 hge).2 _ ((qF hA (by omega)).2 ⟨_, e2, rfl⟩) h1
   ·rw [e1] at h1
    exact (ge_iff.1 hge).1 _ ((qE hB (by omega)).2 ⟨_, e2, rfl⟩) h1
  ·intro l hlo hge
   obtain ⟨z, hz, rfl⟩ := (qF hB (show (ps.getD k default).b.toNat < bs.length by omega)).1 hlo
   obtain ⟨i, hi, rfl⟩ := mem_ix hz
   have hzz := (xI hB (show (ps.getD k default).b.toNat < bs.length by omega)).1 _ hz
   obtain ⟨hp, hm⟩ := hr.ll i hi
   have h1 := ih ((ps.getD k default).l.getD i 0).toNat (by omega) (by omega)
   rcases mem_lefts.1 hm with ⟨e1, e2⟩ | ⟨e1, e2⟩
   ·rw [e1] at h1
    exact (ge_iff.1 hge).2 _ ((qF hA (by omega)).2 ⟨_, e2, rfl⟩) h1
   ·rw [e1] at h1
    exact (ge_iff.1 hge).1 _ ((qE hB (by omega)).2 ⟨_, e2, rfl⟩) h1
theorem proof_ge (ha : GoodP xa) (hb : GoodP bs) (h : ProofP xa bs ps) : geG (gOf xa) (gOf bs) := by
 have hn := h.n
 have h1 := right_ge (qS ha).opts (qS hb).opts (n := ps.length) h.ok (ps.length - 1) (by omega)
 rw [h.la, h.lb] at h1
 have hla := ha.lo
 have hlb := hb.lo
 unfold gOf
 rwa [show xa.length - 1 = ((xa.length : Int) - 1).toNat by omega, show bs.length - 1 = ((bs.length : Int) - 1).toNat by omega]
theorem cp_al (h : cpB xa bs ps = true) : alB xa bs = true := by
 unfold cpB at h
 rw [Bool.and_eq_true, Bool.and_eq_true] at h
 have ha := goodB_true.1 h.1
 have hb := goodB_true.1 h.2.1
 rw [(alB_good ha hb).1]
 exact decP_true.2 (proof_ge ha hb (decP_true.1 h.2.2))
end Go.GL
namespace Go.GL
def firstG {α : Type} (p : α → Bool) : Int → List α → Int
 | _, [] => -1
 | i, x :: r => if p x = true then i else firstG p (i + 1) r
section
variable {α : Type} {p q : α → Bool}
theorem tO : ∀ (l : List α) (i : Int), firstG p i l = -1 ∨ (i ≤ firstG p i l ∧ firstG p i l < i + l.length)
 | [], _ => cE rfl
 | x :: r, i => by
  unfold firstG
  by_cases h : p x = true
  ·rw [if_pos h]; simp only [List.length_cons]; omega
  ·rw [if_neg h]
   rcases tO r (i + 1) with h1 | h1
   ·exact cE h1
   ·simp only [List.length_cons]; omega
theorem mQ : ∀ (l : List α) (i : Int), 0 ≤ i → (0 ≤ firstG p i l ↔ ∃ x ∈ l, p x = true)
 | [], _, _ => by simp [firstG]
 | x :: r, i, hi => by
  unfold firstG
  by_cases h : p x = true
  ·rw [if_pos h]; exact ⟨fun _ => ⟨x, by simp, h⟩, fun _ => hi⟩
  ·rw [if_neg h, mQ r (i + 1) (by omega)]
   constructor
   ·rintro ⟨y, h1, h2⟩; exact ⟨y, by simp [h1], h2⟩
   ·rintro ⟨y, h1, h2⟩
    rcases List.mem_cons.1 h1 with rfl | h1
    ·exact absurd h2 h
    ·exact ⟨y, h1, h2⟩
theorem nZ (d : α) : ∀ (l : List α) (i : Int) (n : Nat), n < l.length → p (l.getD n d) = true → (∀ k, k < n → p (l.getD k d) = false) → firstG p i l = i + n
 | [], _, _, h, _, _ => absurd h (cJ _)
 | x :: r, i, 0, _, h, _ => by
  have h' : p x = true := h
  unfold firstG
  rw [if_pos h']; simp
 | x :: r, i, n + 1, hl, h, hm => by
  have h0 : p x = false := hm 0 (by omega)
  unfold firstG
  rw [if_neg (by rw [h0]; exact Bool.false_ne_true), nZ d r (i + 1) n (by simp at hl; omega) h fun k hk => hm (k + 1) (by omega)]
  omega
end
def lowL (L : List Cl) (ks : List (Int × Int)) : Int := firstG (fun c => decide (prC c ∈ ks)) 0 L
theorem low_lt (L : List Cl) (ks : List (Int × Int)) : lowL L ks < L.length := by
 rcases tO (p := fun c => decide (prC c ∈ ks)) L 0 with h | h <;> unfold lowL <;> omega
variable {L os : List Cl} {ks : List (Int × Int)} {asx bs : List Nd} {x k j : Nat} {nd nd2 : List Bool} {xs : List Int} {z : Int}
theorem low_pos : 0 ≤ lowL L ks ↔ ∃ c ∈ L, prC c ∈ ks := by
 unfold lowL
 rw [mQ L 0 (by omega)]
 simp only [decide_eq_true_eq]
theorem low_at {n : Nat} (h : n < L.length) (hp : prC (L.getD n default) ∈ ks) (hm : ∀ q, q < n → prC (L.getD q default) ∉ ks) : (n : Int) = lowL L ks := by
 unfold lowL
 rw [nZ default L 0 n h (decide_eq_true hp) fun q hq => decide_eq_false (hm q hq)]; omega
theorem low_len {n : Nat} (h : 0 ≤ lowL L ks) (hm : ∀ q, q < n → prC (L.getD q default) ∉ ks) : n < L.length ∧ (n : Int) ≤ lowL L ks := by
 obtain ⟨c, hc, hk⟩ := low_pos.1 h
 obtain ⟨j, hj⟩ := List.mem_iff_getElem?.1 hc
 have hjl := (List.getElem?_eq_some_iff.1 hj).1
 have hg : L.getD j default = c := by simp [List.getD, hj]
 have hn : n < L.length := by
  refine Classical.byContradiction fun hn => ?_
  exact hm j (by omega) (by rw [hg]; exact hk)
 refine ⟨hn, Classical.byContradiction fun hlt => ?_⟩
 obtain ⟨m, hme⟩ : ∃ m : Nat, lowL L ks = m := ⟨(lowL L ks).toNat, by omega⟩
 have hml := low_lt L ks
 have hall : ∀ q, q < n → decide (prC (L.getD q default) ∈ ks) = false := fun q hq => decide_eq_false (hm q hq)
 have key : ∀ (l : List Cl) (i : Int) (n : Nat), 0 ≤ i → n ≤ l.length → (∀ q, q < n → decide (prC (l.getD q default) ∈ ks) = false) → firstG (fun c => decide (prC c ∈ ks)) i l = -1 ∨ i + n ≤ firstG (fun c => decide (prC c ∈ ks)) i l := by
  intro l
  induction l with
  | nil => intro i n _ _ _; exact cE rfl
  | cons x r ih =>
   intro i n hi hnl hq
   cases n with
   | zero =>
    rcases tO (p := fun c => decide (prC c ∈ ks)) (x :: r) i with h1 | h1
    ·exact cE h1
    ·right; omega
   | succ n =>
    have h0 : decide (prC x ∈ ks) = false := hq 0 (by omega)
    unfold firstG
    rw [if_neg (by simp only [h0]; exact Bool.false_ne_true)]
    rcases ih (i + 1) n (by omega) (by simp at hnl; omega) (fun q hq' => hq (q + 1) (by omega)) with h1 | h1
    ·exact cE h1
    ·right; omega
 rcases key L 0 n (by omega) (by omega) hall with h1 | h1
 ·have : lowL L ks = -1 := h1
  omega
 ·have : (0 : Int) + n ≤ lowL L ks := h1
  omega
noncomputable def trC (asx bs : List Nd) (x y : Nat) : Bool := decP (geG (den asx x) (den bs y))
def claimOf (asx bs : List Nd) (L : List Cl) (x y : Nat) : Cl :=
 ⟨x, y, (asx.getD x default).r.map fun r => lowL L (rightsP asx bs r y), (bs.getD y default).l.map fun l => lowL L (leftsP asx bs x l)⟩
structure JustP (asx bs : List Nd) (L : List Cl) (x y : Nat) : Prop where
 r : ∀ r ∈ (asx.getD x default).r, 0 ≤ lowL L (rightsP asx bs r y)
 l : ∀ l ∈ (bs.getD y default).l, 0 ≤ lowL L (leftsP asx bs x l)
noncomputable def nextL (asx bs : List Nd) (L : List Cl) (x y : Nat) : List Cl := if trC asx bs x y = true then L ++ [claimOf asx bs L x y] else L
noncomputable def colL (asx bs : List Nd) (L : List Cl) (x : Nat) : Nat → List Cl
 | 0 => L
 | k + 1 => nextL asx bs (colL asx bs L x k) x k
noncomputable def rowL (asx bs : List Nd) : Nat → List Cl
 | 0 => []
 | i + 1 => colL asx bs (rowL asx bs i) i bs.length
def WfL (L : List Cl) : Prop := ∀ j, j < L.length → ∀ z, (z ∈ (L.getD j default).r ∨ z ∈ (L.getD j default).l) → 0 ≤ z ∧ z < j
structure TrueL (asx bs : List Nd) (L : List Cl) (x k : Nat) : Prop where
 mem : ∀ i j : Nat, j < bs.length → ((∃ c ∈ L, prC c = ((i : Int), (j : Int))) ↔ (trC asx bs i j = true ∧ (i < x ∨ (i = x ∧ j < k))))
 wf : WfL L
theorem TrueL.start (asx bs : List Nd) : TrueL asx bs [] 0 0 := ⟨fun i j _ => ⟨fun ⟨c, h, _⟩ => (List.not_mem_nil h).elim, fun h => by omega⟩, fun j hj => absurd hj (cJ j)⟩
theorem TrueL.row (h : TrueL asx bs L x bs.length) : TrueL asx bs L (x + 1) 0 := ⟨fun i j hj => by rw [h.mem i j hj]; constructor <;> rintro ⟨h1, h2⟩ <;> exact ⟨h1, by omega⟩, h.wf⟩
theorem TrueL.key (h : TrueL asx bs L x k) (ha : OptsOk asx) (hb : OptsOk bs) {r y : Int} (hr : 0 ≤ r ∧ r < asx.length) (hy : 0 ≤ y ∧ y < bs.length) (hlt : r < x ∨ (r = x ∧ y < k)) :
  0 ≤ lowL L (rightsP asx bs r y) ↔ ¬ geG (den bs y.toNat) (den asx r.toNat) := by
 have hr' : r.toNat < asx.length := by omega
 have hy' : y.toNat < bs.length := by omega
 have hor := xI ha hr'; have hoy := xI hb hy'
 rw [low_pos]
 constructor
 ·rintro ⟨c, hc, hk⟩ hg
  rcases mem_rights.1 (show (c.a, c.b) ∈ rightsP asx bs r y from hk) with ⟨h1, h2⟩ | ⟨h1, h2⟩
  ·have hz := hor.1 _ h2
   have hm := (h.mem c.a.toNat y.toNat hy').1 ⟨c, hc, by unfold prC; rw [h1]; congr 1 <;> omega⟩
   exact (ge_iff.1 hg).2 _ ((qF ha hr').2 ⟨_, h2, rfl⟩) (decP_true.1 hm.1)
  ·have hz := hoy.2 _ h2
   have hm := (h.mem r.toNat c.b.toNat (by omega)).1 ⟨c, hc, by unfold prC; rw [h1]; congr 1 <;> omega⟩
   exact (ge_iff.1 hg).1 _ ((qE hb hy').2 ⟨_, h2, rfl⟩) (decP_true.1 hm.1)
 ·intro hg
  rcases ge_not hg with ⟨q, h1, h2⟩ | ⟨q, h1, h2⟩
  ·obtain ⟨z, hz, rfl⟩ := (qE hb hy').1 h1
   have hzb := hoy.2 _ hz
   obtain ⟨c, hc, he⟩ := (h.mem r.toNat z.toNat (by omega)).2 ⟨decP_true.2 h2, by omega⟩
   refine ⟨c, hc, ?_⟩
   rw [he]
   exact mem_rights.2 (cF ⟨by omega, by rw [Int.toNat_of_nonneg hzb.1]; exact hz⟩)
  ·obtain ⟨z, hz, rfl⟩ := (qF ha hr').1 h1
   have hzb := hor.1 _ hz
   obtain ⟨c, hc, he⟩ := (h.mem z.toNat y.toNat hy').2 ⟨decP_true.2 h2, by omega⟩
   refine ⟨c, hc, ?_⟩
   rw [he]
   exact mem_rights.2 (cE ⟨by omega, by rw [Int.toNat_of_nonneg hzb.1]; exact hz⟩)
theorem TrueL.just (h : TrueL asx bs L x k) (ha : OptsOk asx) (hb : OptsOk bs) (hx : x < asx.length) (hk : k < bs.length) : JustP asx bs L x k ↔ trC asx bs x k = true := by
 have hox := xI ha hx; have hok := xI hb hk
 unfold trC
 rw [decP_true, ge_iff]
 constructor
 ·intro g
  refine ⟨fun q hq => ?_, fun q hq => ?_⟩
  ·obtain ⟨z, hz, rfl⟩ := (qE ha hx).1 hq
   have hzb := hox.2 _ hz
   have := (h.key ha hb (r := z) (y := (k : Int)) ⟨hzb.1, by omega⟩ ⟨by omega, by omega⟩ (cE (by omega))).1 (g.r z hz)
   exact this
  ·obtain ⟨z, hz, rfl⟩ := (qF hb hk).1 hq
   have hzb := hok.1 _ hz
   have := (h.key ha hb (r := (x : Int)) (y := z) ⟨by omega, by omega⟩ ⟨hzb.1, by omega⟩ (cF ⟨rfl, by omega⟩)).1 (g.l z hz)
   exact this
 ·intro g
  refine ⟨fun z hz => ?_, fun z hz => ?_⟩
  ·have hzb := hox.2 _ hz
   exact (h.key ha hb (r := z) (y := (k : Int)) ⟨hzb.1, by omega⟩ ⟨by omega, by omega⟩ (cE (by omega))).2 (g.1 _ ((qE ha hx).2 ⟨z, hz, rfl⟩))
  ·have hzb := hok.1 _ hz
   exact (h.key ha hb (r := (x : Int)) (y := z) ⟨by omega, by omega⟩ ⟨hzb.1, by omega⟩ (cF ⟨rfl, by omega⟩)).2 (g.2 _ ((qF hb hk).2 ⟨z, hz, rfl⟩))
theorem TrueL.next (h : TrueL asx bs L x k) (ha : OptsOk asx) (hb : OptsOk bs) (hx : x < asx.length) (hk : k < bs.length) : TrueL asx bs (nextL asx bs L x k) x (k + 1) := by
 unfold nextL
 by_cases ht : trC asx bs x k = true
 ·rw [if_pos ht]
  have hj := (h.just ha hb hx hk).2 ht
  refine ⟨fun i j hjb => ?_, fun j hjl z hz => ?_⟩
  ·constructor
   ·rintro ⟨c, hc, he⟩
    rcases List.mem_append.1 hc with h1 | h1
    ·have := (h.mem i j hjb).1 ⟨c, h1, he⟩
     exact ⟨this.1, by omega⟩
    ·simp at h1; subst h1
     have e1 : (x : Int) = i := cgA Prod.fst he
     have e2 : (k : Int) = j := cgA Prod.snd he
     have e1' : x = i := by omega
     have e2' : k = j := by omega
     subst e1'; subst e2'
     exact ⟨ht, cF ⟨rfl, by omega⟩⟩
   ·rintro ⟨h1, h2⟩
    by_cases he : i = x ∧ j = k
    ·obtain ⟨rfl, rfl⟩ := he
     exact ⟨claimOf asx bs L i j, List.mem_append_right _ (by simp), rfl⟩
    ·obtain ⟨c, hc, e⟩ := (h.mem i j hjb).2 ⟨h1, by omega⟩
     exact ⟨c, List.mem_append_left _ hc, e⟩
  ·by_cases hjL : j < L.length
   ·have e : (L ++ [claimOf asx bs L x k]).getD j default = L.getD j default := by simp [List.getD, List.getElem?_append_left hjL]
    rw [e] at hz
    exact h.wf j hjL z hz
   ·have hje : j = L.length := by simp at hjl; omega
    subst hje
    have e : (L ++ [claimOf asx bs L x k]).getD L.length default = claimOf asx bs L x k := by simp [List.getD]
    rw [e] at hz
    rcases hz with hz | hz
    ·obtain ⟨r, hr, rfl⟩ := List.mem_map.1 hz
     exact ⟨hj.r r hr, low_lt _ _⟩
    ·obtain ⟨l, hl, rfl⟩ := List.mem_map.1 hz
     exact ⟨hj.l l hl, low_lt _ _⟩
 ·rw [if_neg ht]
  refine ⟨fun i j hjb => ?_, h.wf⟩
  rw [h.mem i j hjb]
  constructor
  ·rintro ⟨h1, h2⟩; exact ⟨h1, by omega⟩
  ·rintro ⟨h1, h2⟩
   refine ⟨h1, ?_⟩
   by_cases he : i = x ∧ j = k
   ·obtain ⟨rfl, rfl⟩ := he; exact absurd h1 ht
   ·omega
theorem pJ {asx bs : List Nd} {L : List Cl} {x : Nat} (h : TrueL asx bs L x 0) (ha : OptsOk asx) (hb : OptsOk bs) (hx : x < asx.length) : ∀ k, k ≤ bs.length → TrueL asx bs (colL asx bs L x k) x k
 | 0, _ => h
 | k + 1, hk => (pJ h ha hb hx k (by omega)).next ha hb hx (by omega)
theorem rM {asx bs : List Nd} (ha : OptsOk asx) (hb : OptsOk bs) : ∀ x, x ≤ asx.length → TrueL asx bs (rowL asx bs x) x 0
 | 0, _ => TrueL.start asx bs
 | x + 1, hx => (pJ (rM ha hb x (by omega)) ha hb (by omega) bs.length (cG _)).row
theorem trueAt (ha : OptsOk asx) (hb : OptsOk bs) (hx : x < asx.length) (hk : k ≤ bs.length) : TrueL asx bs (colL asx bs (rowL asx bs x) x k) x k := pJ (rM ha hb x (by omega)) ha hb hx k hk
theorem next_len (asx bs : List Nd) (L : List Cl) (x y : Nat) : L.length ≤ (nextL asx bs L x y).length ∧ (nextL asx bs L x y).length ≤ L.length + 1 := by
 unfold nextL; split <;> simp
theorem sU (asx bs : List Nd) (L : List Cl) (x : Nat) : ∀ k, (colL asx bs L x k).length ≤ L.length + k
 | 0 => cG _
 | k + 1 => by
  have h1 := sU asx bs L x k; have h2 := (next_len asx bs (colL asx bs L x k) x k).2
  show (nextL asx bs (colL asx bs L x k) x k).length ≤ _
  omega
theorem pO (asx bs : List Nd) : ∀ x, (rowL asx bs x).length ≤ x * bs.length
 | 0 => by simp [rowL]
 | x + 1 => by
  have h1 := pO asx bs x; have h2 := sU asx bs (rowL asx bs x) x bs.length
  show (colL asx bs (rowL asx bs x) x bs.length).length ≤ _
  rw [Nat.succ_mul]; omega
def needAll (nd : List Bool) (xs : List Int) : List Bool := xs.foldl (fun a i => a.set i.toNat true) nd
theorem jM : ∀ (xs : List Int) (nd : List Bool), (needAll nd xs).length = nd.length
 | [], _ => rfl
 | x :: r, nd => by
  show (needAll (nd.set x.toNat true) r).length = _
  rw [jM r]; simp
theorem pY {q : Nat} (h : q < xs.length) : (needAll nd (xs.take q)).set (xs.getD q 0).toNat true = needAll nd (xs.take (q + 1)) := by
 rw [jF xs 0 h]; unfold needAll; rw [List.foldl_append]; rfl
theorem kW {k : Nat} : ∀ (xs : List Int) (nd : List Bool), nd.getD k false = true → (needAll nd xs).getD k false = true
 | [], _, h => h
 | x :: r, nd, h => by
  show (needAll (nd.set x.toNat true) r).getD k false = true
  refine kW r _ ?_
  have hk : k < nd.length := by
   refine Classical.byContradiction fun hk => ?_
   simp [List.getD, List.getElem?_eq_none (show nd.length ≤ k by omega)] at h
  by_cases he : x.toNat = k
  ·subst he; simp [List.getD, hk]
  ·simp only [List.getD, List.getElem?_set_ne he]; exact h
noncomputable def needStep (L : List Cl) (nd : List Bool) (k : Nat) : List Bool := if nd.getD k false = true then needAll (needAll nd (L.getD k default).r) (L.getD k default).l else nd
noncomputable def needN (L : List Cl) : Nat → List Bool
 | 0 => (List.replicate L.length false).set (L.length - 1) true
 | j + 1 => needStep L (needN L j) (L.length - 1 - j)
theorem vY (L : List Cl) : ∀ j, (needN L j).length = L.length
 | 0 => by simp [needN]
 | j + 1 => by
  show (needStep L (needN L j) (L.length - 1 - j)).length = _
  unfold needStep
  split
  ·rw [jM, jM, vY L j]
  ·exact vY L j
noncomputable def cutStep (L : List Cl) (nd : List Bool) (j : Nat) (s : List Int × List Cl) : List Int × List Cl :=
 if nd.getD j false = true then (s.1.set j s.2.length, s.2 ++ [⟨(L.getD j default).a, (L.getD j default).b, atL (s.1.set j s.2.length) (L.getD j default).r, atL (s.1.set j s.2.length) (L.getD j default).l⟩]) else s
noncomputable def cutN (L : List Cl) (nd : List Bool) : Nat → List Int × List Cl
 | 0 => (List.replicate L.length 0, [])
 | j + 1 => cutStep L nd j (cutN L nd j)
theorem gE (L : List Cl) (nd : List Bool) : ∀ j, (cutN L nd j).1.length = L.length ∧ (cutN L nd j).2.length ≤ j
 | 0 => by simp [cutN]
 | j + 1 => by
  have h := gE L nd j
  show (cutStep L nd j (cutN L nd j)).1.length = _ ∧ (cutStep L nd j (cutN L nd j)).2.length ≤ _
  unfold cutStep
  split
  ·simp only [cR, List.length_append, List.length_cons, List.length_nil]; omega
  ·omega
noncomputable def cutL (L : List Cl) : List Cl := (cutN L (needN L L.length) L.length).2
noncomputable def fullL (asx bs : List Nd) : List Cl := rowL asx bs asx.length
structure PrfP (asx bs : List Nd) : Prop where
 ga : GoodP asx
 gb : GoodP bs
 ge : geG (gOf asx) (gOf bs)
 le : (cutL (fullL asx bs)).length ≤ 200
noncomputable def prfB (asx bs : List Nd) : Bool := decP (PrfP asx bs)
noncomputable def prfL (asx bs : List Nd) : List Cl := if prfB asx bs = true then cutL (fullL asx bs) else []
theorem full_pos (ha : GoodP asx) (hb : GoodP bs) (hg : geG (gOf asx) (gOf bs)) : 1 ≤ (fullL asx bs).length := by
 have h1 := ha.lo; have h2 := hb.lo
 obtain ⟨c, hc, _⟩ := ((rM ha.optsOk hb.optsOk asx.length (cG _)).mem (asx.length - 1) (bs.length - 1) (by omega)).2 ⟨decP_true.2 hg, cE (by omega)⟩
 exact List.length_pos_of_mem hc
theorem full_len (ha : GoodP asx) (hb : GoodP bs) : (fullL asx bs).length ≤ 14400 := by
 have h1 := pO asx bs asx.length; have h2 := ha.hi; have h3 := hb.hi
 have h4 : asx.length * bs.length ≤ 120 * 120 := Nat.mul_le_mul h2 h3
 unfold fullL
 omega
theorem col_bound (ha : asx.length ≤ 120) (hb : bs.length ≤ 120) (hx : x < asx.length) (hk : k ≤ bs.length) : (colL asx bs (rowL asx bs x) x k).length ≤ 14400 := by
 have h1 := pO asx bs x; have h2 := sU asx bs (rowL asx bs x) x k
 have h3 : (x + 1) * bs.length ≤ 120 * 120 := Nat.mul_le_mul (by omega) hb
 rw [Nat.succ_mul] at h3
 omega
noncomputable def needZ (L : List Cl) (z : Int) : List Bool := needN L ((L.length : Int) - 1 - z).toNat
theorem dA (L : List Cl) : needZ L ((L.length : Int) - 1) = (List.replicate L.length false).set ((L.length : Int) - 1).toNat true := by
 unfold needZ
 rw [show ((L.length : Int) - 1 - ((L.length : Int) - 1)).toNat = 0 by omega, show ((L.length : Int) - 1).toNat = L.length - 1 by omega]; rfl
theorem needZ_step (h0 : 0 ≤ z) (h1 : z < L.length) : needZ L (z - 1) = needStep L (needZ L z) z.toNat := by
 unfold needZ
 rw [show ((L.length : Int) - 1 - (z - 1)).toNat = ((L.length : Int) - 1 - z).toNat + 1 by omega]
 show needStep L _ _ = _
 rw [show L.length - 1 - ((L.length : Int) - 1 - z).toNat = z.toNat by omega]
theorem needZ_end (h : z = -1) : needZ L z = needN L L.length := by
 subst h; unfold needZ; rw [show ((L.length : Int) - 1 - -1).toNat = L.length by omega]
theorem eZ (h : nd.getD k false = true) : needStep L nd k = needAll (needAll nd (L.getD k default).r) (L.getD k default).l := by unfold needStep; rw [if_pos h]
theorem need_no (h : nd.getD k false = false) : needStep L nd k = nd := by unfold needStep; rw [if_neg (by rw [h]; exact Bool.false_ne_true)]
noncomputable def halfN (nd : List Bool) (xs : List Int) (k : Nat) : List Bool := if nd.getD k false = true then needAll nd xs else nd
theorem mM (nd : List Bool) (xs : List Int) (k : Nat) : (0 = 0 ∨ nd.getD k false = true) ∧ nd = needAll nd (xs.take 0) := ⟨cE rfl, rfl⟩
theorem nX {q : Nat} (h : (q = 0 ∨ nd.getD k false = true) ∧ nd2 = needAll nd (xs.take q)) (hq : q < xs.length) (hk : nd2.getD k false = true) :
  (q + 1 = 0 ∨ nd.getD k false = true) ∧ nd2.set (xs.getD q 0).toNat true = needAll nd (xs.take (q + 1)) := by
 refine ⟨cF ?_, by rw [h.2]; exact pY hq⟩
 rcases h.1 with h1 | h1
 ·subst h1
  have := h.2
  rw [List.take_zero] at this
  rw [this] at hk; exact hk
 ·exact h1
theorem nW {q : Nat} (h : (q = 0 ∨ nd.getD k false = true) ∧ nd2 = needAll nd (xs.take q)) (hk : nd2.getD k false = false) : nd2 = halfN nd xs k := by
 have hn : nd.getD k false = false := by
  cases hc : nd.getD k false
  ·rfl
  ·have := kW (xs.take q) nd hc
   rw [← h.2, hk] at this; cases this
 rcases h.1 with h1 | h1
 ·subst h1
  have h2 := h.2
  rw [List.take_zero] at h2
  unfold halfN
  rw [if_neg (by rw [hn]; exact Bool.false_ne_true)]; exact h2
 ·rw [hn] at h1; cases h1
theorem half_end {q : Nat} (h : (q = 0 ∨ nd.getD k false = true) ∧ nd2 = needAll nd (xs.take q)) (hk : nd2.getD k false = true) (hq : xs.length ≤ q) : nd2 = halfN nd xs k := by
 rw [List.take_of_length_le hq] at h
 have hn : nd.getD k false = true := by
  rcases h.1 with h1 | h1
  ·have hx : xs = [] := List.eq_nil_of_length_eq_zero (by omega)
   have h2 := h.2
   rw [hx] at h2
   rw [show nd2 = nd from h2] at hk; exact hk
  ·exact h1
 unfold halfN
 rw [if_pos hn]; exact h.2
theorem half_step {nd3 : List Bool} (h1 : nd2 = halfN nd (L.getD k default).r k) (h2 : nd3 = halfN nd2 (L.getD k default).l k) : nd3 = needStep L nd k := by
 subst h1; subst h2
 cases hc : nd.getD k false
 ·rw [need_no hc]
  have e : ∀ xs, halfN nd xs k = nd := fun xs => by unfold halfN; rw [if_neg (by rw [hc]; exact Bool.false_ne_true)]
  rw [e, e]
 ·rw [eZ hc]
  have e : halfN nd (L.getD k default).r k = needAll nd (L.getD k default).r := by unfold halfN; rw [if_pos hc]
  rw [e]
  unfold halfN
  rw [if_pos (kW _ _ hc)]
theorem rO {at_ : List Int} (h : cutN L nd j = (at_, os)) (hn : nd.getD j false = true) :
  cutN L nd (j + 1) = (at_.set j os.length, os ++ [⟨(L.getD j default).a, (L.getD j default).b, atL (at_.set j os.length) (L.getD j default).r, atL (at_.set j os.length) (L.getD j default).l⟩]) := by
 show cutStep L nd j (cutN L nd j) = _
 rw [h]; unfold cutStep; rw [if_pos hn]
theorem cut_no {at_ : List Int} (h : cutN L nd j = (at_, os)) (hn : nd.getD j false = false) : cutN L nd (j + 1) = (at_, os) := by
 show cutStep L nd j (cutN L nd j) = _
 rw [h]; unfold cutStep; rw [if_neg (by rw [hn]; exact Bool.false_ne_true)]
theorem next_lens (ha : GoodP asx) (hb : GoodP bs) {y : Nat} (h : ∀ c ∈ L, c.r.length ≤ 24 ∧ c.l.length ≤ 24) : ∀ c ∈ nextL asx bs L x y, c.r.length ≤ 24 ∧ c.l.length ≤ 24 := by
 have hd : ∀ (ns : List Nd), GoodP ns → ∀ i, (ns.getD i default).l.length ≤ 24 ∧ (ns.getD i default).r.length ≤ 24 := fun ns g i => by
  by_cases hi : i < ns.length
  ·exact ⟨g.lenl hi, g.lenr hi⟩
  ·have e : ns.getD i default = default := by simp [List.getD, List.getElem?_eq_none (show ns.length ≤ i by omega)]
   rw [e]; exact ⟨cH _, cH _⟩
 unfold nextL
 split
 ·intro c hc
  rcases List.mem_append.1 hc with h1 | h1
  ·exact h c h1
  ·simp at h1; subst h1
   unfold claimOf
   simp only [List.length_map]
   exact ⟨(hd asx ha x).2, (hd bs hb y).1⟩
 ·exact h
theorem col_lens {asx bs : List Nd} (ha : GoodP asx) (hb : GoodP bs) {L : List Cl} {x : Nat} (h : ∀ c ∈ L, c.r.length ≤ 24 ∧ c.l.length ≤ 24) : ∀ k, ∀ c ∈ colL asx bs L x k, c.r.length ≤ 24 ∧ c.l.length ≤ 24
 | 0 => h
 | k + 1 => next_lens ha hb (col_lens ha hb h k)
theorem eR {asx bs : List Nd} (ha : GoodP asx) (hb : GoodP bs) : ∀ x, ∀ c ∈ rowL asx bs x, c.r.length ≤ 24 ∧ c.l.length ≤ 24
 | 0 => fun _ h => by cases h
 | x + 1 => col_lens ha hb (eR ha hb x) _
structure LOk (L : List Cl) : Prop where
 wf : WfL L
 ln : ∀ j, j < L.length → (L.getD j default).r.length ≤ 24 ∧ (L.getD j default).l.length ≤ 24
 pos : 1 ≤ L.length
 hi : L.length ≤ 14400
theorem LOk.r (h : LOk L) {q : Nat} (hj : j < L.length) (hq : q < (L.getD j default).r.length) : 0 ≤ (L.getD j default).r.getD q 0 ∧ (L.getD j default).r.getD q 0 < j := h.wf j hj _ (cE (qU hq))
theorem LOk.l (h : LOk L) {q : Nat} (hj : j < L.length) (hq : q < (L.getD j default).l.length) : 0 ≤ (L.getD j default).l.getD q 0 ∧ (L.getD j default).l.getD q 0 < j := h.wf j hj _ (cF (qU hq))
theorem sL (ha : GoodP asx) (hb : GoodP bs) (hg : geG (gOf asx) (gOf bs)) : LOk (fullL asx bs) :=
 ⟨(rM ha.optsOk hb.optsOk asx.length (cG _)).wf, fun _ hj => eR ha hb asx.length _ (qU hj), full_pos ha hb hg, full_len ha hb⟩
theorem tG {asx bs : List Nd} (h : ¬ PrfP asx bs) : prfB asx bs = false ∧ prfL asx bs = [] := by
 have : prfB asx bs = false := decP_false.2 h
 exact ⟨this, by unfold prfL; rw [this]; rfl⟩
theorem pT {asx bs : List Nd} (h : PrfP asx bs) : prfB asx bs = true ∧ prfL asx bs = cutL (fullL asx bs) := by
 have : prfB asx bs = true := decP_true.2 h
 exact ⟨this, by unfold prfL; rw [this]; rfl⟩
end Go.GL
namespace Go.GL
structure PairB (ns bs : List Nd) : Prop where
 ok1 : AddOk [] ns.length (addM [] [] ns).1 (addM [] [] ns).2.1 (addM [] [] ns).2.2
 ok2 : AddOk (addM [] [] ns).2.1 bs.length (addM (addM [] [] ns).2.1 (addM [] [] ns).2.2 bs).1 (addM (addM [] [] ns).2.1 (addM [] [] ns).2.2 bs).2.1 (addM (addM [] [] ns).2.1 (addM [] [] ns).2.2 bs).2.2
 p1 : ∀ i, i < ns.length → 0 ≤ (addM [] [] ns).1.getD i 0 ∧ (addM [] [] ns).1.getD i 0 < (addM (addM [] [] ns).2.1 (addM [] [] ns).2.2 bs).2.1.length
 p2 : ∀ i, i < bs.length → 0 ≤ (addM (addM [] [] ns).2.1 (addM [] [] ns).2.2 bs).1.getD i 0 ∧ (addM (addM [] [] ns).2.1 (addM [] [] ns).2.2 bs).1.getD i 0 < (addM (addM [] [] ns).2.1 (addM [] [] ns).2.2 bs).2.1.length
 ge : ∀ i k, i < ns.length → k < bs.length → geB (addM (addM [] [] ns).2.1 (addM [] [] ns).2.2 bs).2.1 ((addM [] [] ns).1.getD i 0) ((addM (addM [] [] ns).2.1 (addM [] [] ns).2.2 bs).1.getD k 0) = trC ns bs i k
variable {ns bs : List Nd} {L : List Cl} {i j : Nat}
theorem pair_book (hf : FormOk ns) (hg : FormOk bs) (hl : ns.length + bs.length ≤ 1048576) : PairB ns bs := by
 have h1 := jD qO hf (by simp; omega)
 have hd1 := Ar.add Ar.empty hf (by simp; omega)
 have hi1 := h1.hi
 simp only [List.length_nil, cQ] at hi1
 have h2 := jD h1.book hg (by omega)
 have hd2 := Ar.add hd1.ar hg (by omega)
 have hlo := h2.lo
 have e1 := h1.len; have e2 := h2.len
 refine ⟨h1, h2, fun i hi => ?_, fun i hi => h2.places i (by omega), fun i k hi hk => ?_⟩
 ·have := h1.places i (by omega); omega
 ·have q := h1.places i (by omega)
  unfold geB trC
  rw [hd2.is k hk, hd2.old _ (by omega), hd1.is i hi]
theorem next_y (h : L = colL ns bs (rowL ns bs i) i j) (ht : trC ns bs i j = true) :
  L ++ [⟨(claimOf ns bs L i j).a, (claimOf ns bs L i j).b, (claimOf ns bs L i j).r, (claimOf ns bs L i j).l⟩] = colL ns bs (rowL ns bs i) i (j + 1) := by
 subst h
 show _ = nextL ns bs _ i j
 unfold nextL; rw [if_pos ht]
theorem next_n (h : L = colL ns bs (rowL ns bs i) i j) (ht : trC ns bs i j = false) : L = colL ns bs (rowL ns bs i) i (j + 1) := by
 subst h
 show _ = nextL ns bs _ i j
 unfold nextL; rw [if_neg (by rw [ht]; exact Bool.false_ne_true)]
end Go.GL
namespace Go.GL
theorem fH {j : Nat} : ∀ (xs : List Int) (nd : List Bool), (needAll nd xs).getD j false = true ↔ nd.getD j false = true ∨ (j < nd.length ∧ ∃ z ∈ xs, z.toNat = j)
 | [], nd => by simp [needAll]
 | x :: r, nd => by
  have e : needAll nd (x :: r) = needAll (nd.set x.toNat true) r := rfl
  rw [e, fH r]
  by_cases hx : x.toNat = j
  ·subst hx
   by_cases hl : x.toNat < nd.length
   ·have h1 : (nd.set x.toNat true).getD x.toNat false = true := by simp [List.getD, hl]
    exact ⟨fun _ => cF ⟨hl, x, by simp, rfl⟩, fun _ => cE h1⟩
   ·have h1 : nd.set x.toNat true = nd := List.set_eq_of_length_le (by omega)
    rw [h1]
    constructor
    ·rintro (h | ⟨h, _⟩)
     ·exact cE h
     ·exact absurd h hl
    ·rintro (h | ⟨h, _⟩)
     ·exact cE h
     ·exact absurd h hl
  ·have h1 : (nd.set x.toNat true).getD j false = nd.getD j false := by simp only [List.getD, List.getElem?_set_ne hx]
   rw [h1, cR]
   constructor
   ·rintro (h | ⟨h, z, hz, e⟩)
    ·exact cE h
    ·exact cF ⟨h, z, by simp [hz], e⟩
   ·rintro (h | ⟨h, z, hz, ez⟩)
    ·exact cE h
    ·rcases List.mem_cons.1 hz with rfl | hz
     ·exact absurd ez hx
     ·exact cF ⟨h, z, hz, ez⟩
def refC (c : Cl) (z : Int) : Prop := z ∈ c.r ∨ z ∈ c.l
theorem step_get {L : List Cl} {nd : List Bool} {k j : Nat} : (needStep L nd k).getD j false = true ↔ nd.getD j false = true ∨ (nd.getD k false = true ∧ j < nd.length ∧ ∃ z, refC (L.getD k default) z ∧ z.toNat = j) := by
 by_cases hk : nd.getD k false = true
 ·rw [eZ hk, fH, fH, jM]
  constructor
  ·rintro ((h | ⟨h, z, hz, e⟩) | ⟨h, z, hz, e⟩)
   ·exact cE h
   ·exact cF ⟨hk, h, z, cE hz, e⟩
   ·exact cF ⟨hk, h, z, cF hz, e⟩
  ·rintro (h | ⟨_, h, z, hz | hz, e⟩)
   ·exact cE (cE h)
   ·exact cE (cF ⟨h, z, hz, e⟩)
   ·exact cF ⟨h, z, hz, e⟩
 ·rw [need_no (by simpa using hk)]
  exact ⟨cE, fun h => h.elim id fun h => absurd h.1 hk⟩
structure NeedI (L : List Cl) (t : Nat) (nd : List Bool) : Prop where
 len : nd.length = L.length
 last : nd.getD (L.length - 1) false = true
 cl : ∀ k, k < L.length → L.length ≤ k + t → nd.getD k false = true → ∀ z, refC (L.getD k default) z → nd.getD z.toNat false = true
 by_ : ∀ j, nd.getD j false = true → j = L.length - 1 ∨ ∃ k, k < L.length ∧ L.length ≤ k + t ∧ nd.getD k false = true ∧ refC (L.getD k default) (j : Int)
theorem needI {L : List Cl} (h : LOk L) : ∀ t, t ≤ L.length → NeedI L t (needN L t)
 | 0, _ => by
  have hp := h.pos
  refine ⟨vY L 0, ?_, fun k hk hl => absurd hl (by omega), fun j hj => cE ?_⟩
  ·show ((List.replicate L.length false).set (L.length - 1) true).getD (L.length - 1) false = true
   simp [List.getD, show L.length - 1 < L.length by omega]
  ·refine Classical.byContradiction fun hne => ?_
   change ((List.replicate L.length false).set (L.length - 1) true).getD j false = true at hj
   have : ((List.replicate L.length false).set (L.length - 1) true).getD j false = (List.replicate L.length false).getD j false := by simp only [List.getD, List.getElem?_set_ne (show L.length - 1 ≠ j from fun e => hne e.symm)]
   rw [this] at hj
   simp only [List.getD, List.getElem?_replicate] at hj
   split at hj <;> simp at hj
 | t + 1, ht => by
  have ih := needI h t (by omega)
  have hs : needN L (t + 1) = needStep L (needN L t) (L.length - 1 - t) := rfl
  have hk0 : L.length - 1 - t < L.length := by omega
  have hw : ∀ k, k < L.length → ∀ z, refC (L.getD k default) z → 0 ≤ z ∧ z < k := fun k hk z hz => h.wf k hk z hz
  refine ⟨vY L (t + 1), by rw [hs]; exact step_get.2 (cE ih.last), fun k hk hl hn z hz => ?_, fun j hj => ?_⟩
  ·have hzk := hw k hk z hz
   rw [hs] at hn ⊢
   rcases step_get.1 hn with h1 | ⟨h1, _, z', hz', e⟩
   ·by_cases he : k = L.length - 1 - t
    ·subst he
     exact step_get.2 (cF ⟨h1, by rw [ih.len]; omega, z, hz, rfl⟩)
    ·exact step_get.2 (cE (ih.cl k hk (by omega) h1 z hz))
   ·have := hw _ hk0 z' hz'
    omega
  ·rw [hs] at hj
   rcases step_get.1 hj with h1 | ⟨h1, h2, z, hz, e⟩
   ·rcases ih.by_ j h1 with h3 | ⟨k, a, b, c, d⟩
    ·exact cE h3
    ·exact cF ⟨k, a, by omega, by rw [hs]; exact step_get.2 (cE c), d⟩
   ·have := hw _ hk0 z hz
    refine cF ⟨L.length - 1 - t, hk0, by omega, by rw [hs]; exact step_get.2 (cE h1), ?_⟩
    rw [show (j : Int) = z by omega]; exact hz
noncomputable def cnt (L : List Cl) (nd : List Bool) (j : Nat) : Nat := (cutN L nd j).2.length
section
variable {L : List Cl} {nd : List Bool}
variable {j : Nat}
theorem sV (h : nd.getD j false = true) : cnt L nd (j + 1) = cnt L nd j + 1 := by
 unfold cnt
 rw [rO (at_ := (cutN L nd j).1) (os := (cutN L nd j).2) rfl h]; simp
theorem cnt_no (h : nd.getD j false = false) : cnt L nd (j + 1) = cnt L nd j := by
 unfold cnt
 rw [cut_no (at_ := (cutN L nd j).1) (os := (cutN L nd j).2) rfl h]
theorem cnt_mono {i : Nat} : ∀ j, i ≤ j → cnt L nd i ≤ cnt L nd j
  | 0, h => by have : i = 0 := by omega
               subst this; exact cG _
  | j + 1, h => by
    by_cases he : i = j + 1
    · subst he; exact cG _
    · have := cnt_mono (i := i) j (by omega)
      cases hn : nd.getD j false
      · rw [cnt_no hn]; exact this
      · rw [sV hn]; omega
theorem cnt_lt {i : Nat} (h : i < j) (hn : nd.getD i false = true) : cnt L nd i < cnt L nd j := by
 have h1 := cnt_mono (L := L) (nd := nd) (i := i + 1) j (by omega)
 rw [sV hn] at h1; omega
theorem sS {i : Nat} (hi : i < L.length) (hn : nd.getD i false = true) : ∀ j, i < j → (cutN L nd j).1.getD i 0 = cnt L nd i ∧
  (cutN L nd j).2.getD (cnt L nd i) default = ⟨(L.getD i default).a, (L.getD i default).b, atL (cutN L nd (i + 1)).1 (L.getD i default).r, atL (cutN L nd (i + 1)).1 (L.getD i default).l⟩
 | 0, h => absurd h (cJ _)
 | j + 1, h => by
  have hl := (gE L nd j).1
  by_cases he : i = j
  ·subst he
   have hc := rO (at_ := (cutN L nd i).1) (os := (cutN L nd i).2) rfl hn
   rw [hc]
   refine ⟨by simp [List.getD, hl, hi, cnt], ?_⟩
   exact xE rfl
  ·have ih := sS hi hn j (by omega)
   cases hj : nd.getD j false
   ·have hc := cut_no (L := L) (at_ := (cutN L nd j).1) (os := (cutN L nd j).2) rfl hj
    rw [hc]; exact ih
   ·have hc := rO (L := L) (at_ := (cutN L nd j).1) (os := (cutN L nd j).2) rfl hj
    have hlt := cnt_lt (L := L) (show i < j by omega) hn
    have e1 : (cutN L nd (j + 1)).1.getD i 0 = (cutN L nd j).1.getD i 0 := by rw [hc]; simp only [List.getD, List.getElem?_set_ne (show j ≠ i by omega)]
    have e2 : (cutN L nd (j + 1)).2.getD (cnt L nd i) default = (cutN L nd j).2.getD (cnt L nd i) default := by rw [hc]; exact yT hlt
    rw [e1, e2]; exact ih
theorem sW {m : Nat} : ∀ j, m < cnt L nd j → ∃ i, i < j ∧ nd.getD i false = true ∧ cnt L nd i = m
 | 0, h => absurd h (cJ _)
 | j + 1, h => by
  cases hn : nd.getD j false
  ·rw [cnt_no hn] at h
   obtain ⟨i, a, b, c⟩ := sW (m := m) j h
   exact ⟨i, by omega, b, c⟩
  ·rw [sV hn] at h
   by_cases hm : m = cnt L nd j
   ·exact ⟨j, by omega, hn, hm.symm⟩
   ·obtain ⟨i, a, b, c⟩ := sW (m := m) j (by omega)
    exact ⟨i, by omega, b, c⟩
end
structure KeptI (L : List Cl) (i m : Nat) : Prop where
 lt : m < (cutL L).length
 a : ((cutL L).getD m default).a = (L.getD i default).a
 b : ((cutL L).getD m default).b = (L.getD i default).b
 r : ((cutL L).getD m default).r = (L.getD i default).r.map fun z => ((cnt L (needN L L.length) z.toNat : Nat) : Int)
 l : ((cutL L).getD m default).l = (L.getD i default).l.map fun z => ((cnt L (needN L L.length) z.toNat : Nat) : Int)
theorem kept {L : List Cl} (h : LOk L) {i : Nat} (hi : i < L.length) (hn : (needN L L.length).getD i false = true) : KeptI L i (cnt L (needN L L.length) i) := by
 have hI := needI h L.length (cG _)
 obtain ⟨_, h2⟩ := sS hi hn L.length hi
 have hlt := cnt_lt (L := L) hi hn
 have hat : ∀ xs : List Int, (∀ z ∈ xs, refC (L.getD i default) z) → atL (cutN L (needN L L.length) (i + 1)).1 xs = xs.map fun z => ((cnt L (needN L L.length) z.toNat : Nat) : Int) := fun xs hx => by
  unfold atL
  refine List.map_congr_left fun z hz => ?_
  have hw := h.wf i hi z (hx z hz)
  exact (sS (by omega) (hI.cl i hi (by omega) hn z (hx z hz)) (i + 1) (by omega)).1
 have e : (cutL L).getD (cnt L (needN L L.length) i) default = (cutN L (needN L L.length) L.length).2.getD (cnt L (needN L L.length) i) default := rfl
 refine ⟨hlt, ?_, ?_, ?_, ?_⟩
 ·rw [e, h2]
 ·rw [e, h2]
 ·rw [e, h2]; exact hat _ fun z hz => cE hz
 ·rw [e, h2]; exact hat _ fun z hz => cF hz
theorem kept_inv {L : List Cl} {m : Nat} (hm : m < (cutL L).length) : ∃ i, i < L.length ∧ (needN L L.length).getD i false = true ∧ cnt L (needN L L.length) i = m := sW L.length hm
theorem cut_wf {L : List Cl} (h : LOk L) : WfL (cutL L) := fun m hm z hz => by
 obtain ⟨i, hi, hn, rfl⟩ := kept_inv hm
 have hK := kept h hi hn
 have hI := needI h L.length (cG _)
 have hz' : ∃ y, refC (L.getD i default) y ∧ z = ((cnt L (needN L L.length) y.toNat : Nat) : Int) := by
  rcases hz with hz | hz
  ·rw [hK.r] at hz
   obtain ⟨y, hy, rfl⟩ := List.mem_map.1 hz
   exact ⟨y, cE hy, rfl⟩
  ·rw [hK.l] at hz
   obtain ⟨y, hy, rfl⟩ := List.mem_map.1 hz
   exact ⟨y, cF hy, rfl⟩
 obtain ⟨y, hy, rfl⟩ := hz'
 have hw := h.wf i hi y hy
 have := cnt_lt (L := L) (show y.toNat < i by omega) (hI.cl i hi (by omega) hn y hy)
 omega
end Go.GL
namespace Go.GL
open Go Go.RowKit
abbrev C4 := Int × Int × Value × Value
def eCl4 : Elt C4 where
 size := 4
 rep := fun _ cs p => cs = [.int .i64 p.1, .int .i64 p.2.1, p.2.2.1, p.2.2.2] ∧ p.2.2.1.oneCell' = true ∧ p.2.2.2.oneCell' = true
 mono := fun _ h => h
 len := fun h => by rw [h.1]; rfl
 one := fun h u hu => by
  rw [h.1] at hu; simp at hu
  rcases hu with rfl | rfl | rfl | rfl
  ·rfl
  ·rfl
  ·exact h.2.1
  ·exact h.2.2
def vv4 (p : C4) : Value × Value := p.2.2
def ab4 (p : C4) : Int × Int := (p.1, p.2.1)
def lvC (ps : List C4) (cs : List Cl) : List Leaf := lvN (ps.map vv4) (cs.map ndC)
structure DPrf (cn e : Nat) (G : Pin) (w : World) (lo hi : Nat) (v : Value) (cs : List Cl) : Prop where
 ex : ∃ ps : List C4, ps.length = cs.length ∧ ps.map ab4 = cs.map prC ∧ Own eCl4 cn G w lo v ps ∧ (∀ k, v.ownBlock = some k → k < hi) ∧ Lvs e G w lo hi (lvC ps cs) ∧ ApL (lvC ps cs) v.ownBlock
variable {ps : List C4} {a b : Int} {u : Value}
theorem lvC_snoc {cs : List Cl} {LV : List Leaf} {v : Value} {c : Cl} (h : LV = lvC ps cs) (hl : ps.length = cs.length) : LV ++ [(u, c.r)] ++ [(v, c.l)] = lvC (ps ++ [(a, b, u, v)]) (cs ++ [c]) := by
 subst h
 have e : (ps.map vv4).length = (cs.map ndC).length := by simp only [List.length_map]; exact hl
 unfold lvC
 rw [List.map_append, List.map_append, List.map_singleton, List.map_singleton]
 exact (lvN_snoc (ps.map vv4) (cs.map ndC) (u, v) (ndC c) e).symm
theorem ab_snoc {cs : List Cl} {v : Value} {c : Cl} (h : ps.map ab4 = cs.map prC) (hc : prC c = (a, b)) : (ps ++ [(a, b, u, v)]).map ab4 = (cs ++ [c]).map prC := by
 rw [List.map_append, List.map_append, h, List.map_singleton, List.map_singleton, hc]; rfl
section
variable {cn e lo hi lo' hi' : Nat} {G G' : Pin} {w w' : World} {v : Value} {cs : List Cl}
theorem DPrf.nil : DPrf cn e G w lo hi (.slice none 0 0) [] := ⟨[], rfl, rfl, Own.nil _ _ _ _ _, fun k hk => (by cases hk), Lvs.nil, ApL.nil⟩
theorem DPrf.below (h : DPrf cn e G w lo hi v cs) (hb : Below w.heap.size w w') : DPrf cn e G w' lo hi v cs := by
 obtain ⟨ps, h1, h0, h2, h3, h4, h5⟩ := h.ex
 exact ⟨⟨ps, h1, h0, h2.below hb, h3, h4.below hb, h5⟩⟩
theorem DPrf.extS {S : Nat → Prop} (h : DPrf cn e G w lo hi v cs) (hx : Ext S G w G' w') (hS : ∀ k, lo ≤ k → k < hi → ¬ S k) : DPrf cn e G' w' lo hi v cs := by
 obtain ⟨ps, h1, h0, h2, h3, h4, h5⟩ := h.ex
 exact ⟨⟨ps, h1, h0, h2.extS hx (fun k hk => hS k (h2.lt k hk).1 (h3 k hk)), h3, h4.extS hx hS, h5⟩⟩
theorem DPrf.wide (h : DPrf cn e G w lo hi v cs) (hl : lo' ≤ lo) (hh : hi ≤ hi') : DPrf cn e G w lo' hi' v cs := by
 obtain ⟨ps, h1, h0, h2, h3, h4, h5⟩ := h.ex
 exact ⟨⟨ps, h1, h0, h2.weaken hl, fun k hk => Nat.lt_of_lt_of_le (h3 k hk) hh, h4.weaken hl hh, h5⟩⟩
theorem DPrf.kept {b : Nat} (h : DPrf cn e G w lo hi v cs) (hg : w.grownBy w' (some b)) (hb : hi ≤ b ∨ b < lo) : DPrf cn e G w' lo hi v cs := by
 obtain ⟨ps, h1, h0, h2, h3, h4, h5⟩ := h.ex
 exact ⟨⟨ps, h1, h0, h2.keptA hg (fun k a c => by cases c; have := h3 _ a; have := (h2.lt _ a).1; omega), h3, h4.kept hg (fun p hp k a c => by cases c; have := h4.hi p hp _ a; have := (h4.ge p hp _ a).1; omega), h5⟩⟩
theorem DPrf.one (h : DPrf cn e G w lo hi v cs) : v.oneCell' = true := by
 obtain ⟨ps, h1, h0, h2, h3, h4, h5⟩ := h.ex
 exact h2.one
theorem DPrf.len (h : DPrf cn e G w lo hi v cs) : cs.length ≤ 9223372036854775807 := by
 obtain ⟨ps, h1, h0, h2, h3, h4, h5⟩ := h.ex
 rw [← h1]; exact h2.max
end
end Go.GL
namespace Go.GL
open Go Go.RowKit
def new4 (f : Nat) (q : Int) (p : C4) : C4 := if f = 0 then (q, p.2) else (p.1, q, p.2.2)
section
variable {P : Program} {ρ : Operand → Value} {w : World} {K : Value → World → Prop} {d : Option Nat} {t ty e : Nat} {pos : String} {aft : Array Edge} {g : Option (Nat × Bool)} {x y : Operand} {G : Pin} {v : Value}
variable {base : Nat} {xs : List C4} {z q : Int}
theorem run_setC (f : Nat) (hf : f < 2) (hs : (P.info? t).map (·.size) = some 1) (hx : ρ x = eptr v z 4 f) (hy : ρ y = .int .i64 q) (hP : Pins G w) (hv : Own eCl4 e G w base v xs) (h0 : 0 ≤ z) (h1 : z < xs.length) :
  ∃ w', (execOp ρ ⟨d, .store t x y, ty, pos, aft, g⟩).run P w = .ok .skip w' ∧ Own eCl4 e G w' base v (xs.set z.toNat (new4 f q (xs.getD z.toNat default))) ∧ Pins G w' ∧ w.grownBy w' v.ownBlock ∧ w'.heap.size = w.heap.size := by
 have hz : z.toNat < xs.length := by omega
 obtain ⟨cells, hown, hr⟩ := hv.ex
 have r : xs[z.toNat] = xs.getD z.toNat default := by simp [List.getD, hz]
 have a := hr z.toNat _ (List.getElem?_eq_getElem hz)
 rw [r] at a
 have b : (new4 f q (xs.getD z.toNat default)).2.2 = (xs.getD z.toNat default).2.2 := by unfold new4; split <;> rfl
 obtain ⟨gb, w', hb, hp, hrun, j, s, a3, a4⟩ := hv.setAt (P := P) h0 h1 (q := new4 f q (xs.getD z.toNat default)) (cs := [Value.int .i64 (new4 f q (xs.getD z.toNat default)).1, Value.int .i64 (new4 f q (xs.getD z.toNat default)).2.1, (new4 f q (xs.getD z.toNat default)).2.2.1, (new4 f q (xs.getD z.toNat default)).2.2.2])
  ⟨rfl, by rw [b]; exact a.2.1, by rw [b]; exact a.2.2⟩ hP
 rcases hown.2 with ⟨rfl, ar⟩ | ⟨g', cap, cur, rfl, hbg, hg, hnc, hcm, hcs, htake⟩
 ·omega
 ·have hgb : gb = g' := by simpa [Value.ownBlock] using hb.symm
  subst hgb
  have l : eCl4.size = 4 := rfl
  rw [l] at hrun hcs htake hr hp
  have ac : z.toNat * 4 + 4 ≤ cur.size := by omega
  have hel := a.1
  rw [l, ← htake] at hel
  have m := a.2.1; have n := a.2.2
  have hc : ∀ k u, ([Value.int .i64 (xs.getD z.toNat default).1, .int .i64 (xs.getD z.toNat default).2.1, (xs.getD z.toNat default).2.2.1, (xs.getD z.toNat default).2.2.2] : List Value)[k]? = some u → cur.toList[z.toNat * 4 + k]? = some u := fun k u hu => by
   have hk : k < 4 := by have := (List.getElem?_eq_some_iff.1 hu).1; simpa using this
   have o : ((((cur.toList.take (xs.length * 4)).drop (z.toNat * 4)).take 4)[k]?) = some u := by rw [show ((cur.toList.take (xs.length * 4)).drop (z.toNat * 4)).take 4 = _ from hel]; exact hu
   rw [List.getElem?_take, if_pos hk, List.getElem?_drop, List.getElem?_take, if_pos (by omega)] at o
   exact o
  have h := hc 0 _ rfl
  have c1 := hc 1 _ rfl
  have c2 := hc 2 _ rfl
  have c3 := hc 3 _ rfl
  rw [Nat.add_zero] at h
  have c := run_storeCells_at P gb (z.toNat * 4) e [.int .i64 (new4 f q (xs.getD z.toNat default)).1, .int .i64 (new4 f q (xs.getD z.toNat default)).2.1, (new4 f q (xs.getD z.toNat default)).2.2.1, (new4 f q (xs.getD z.toNat default)).2.2.2] 0 cur w hg (by simpa using ac)
   (by
    intro u hu
    rcases List.mem_cons.1 hu with rfl | hu
    ·rfl
    rcases List.mem_cons.1 hu with rfl | hu
    ·rfl
    rcases List.mem_cons.1 hu with rfl | hu
    ·rw [b]; exact m
    rcases List.mem_cons.1 hu with rfl | hu
    ·rw [b]; exact n
    ·cases hu)
  have i := run_storeCells_at P gb (z.toNat * 4 + f) e [.int .i64 q] 0 cur w hg (by simp; omega) (by intro u hu; simp at hu; subst hu; rfl)
  simp only [Nat.add_zero] at c i
  have hw : w' = w.setRow gb (cur.toList.take (z.toNat * 4 + f) ++ [Value.int .i64 q] ++ cur.toList.drop (z.toNat * 4 + f + [Value.int .i64 q].length)).toArray := by
   rw [hrun] at c
   have ag := (Result.ok.inj c).2
   rw [ag]
   congr 2
   have p : cur.toList.drop (z.toNat * 4) = .int .i64 (xs.getD z.toNat default).1 :: .int .i64 (xs.getD z.toNat default).2.1 :: (xs.getD z.toNat default).2.2.1 :: (xs.getD z.toNat default).2.2.2 :: cur.toList.drop (z.toNat * 4 + 4) := by
    obtain ⟨h5, h6⟩ := List.getElem?_eq_some_iff.1 h
    obtain ⟨h7, h8⟩ := List.getElem?_eq_some_iff.1 c1
    obtain ⟨h9, am⟩ := List.getElem?_eq_some_iff.1 c2
    obtain ⟨an, ao⟩ := List.getElem?_eq_some_iff.1 c3
    rw [List.drop_eq_getElem_cons h5, List.drop_eq_getElem_cons h7, List.drop_eq_getElem_cons h9, List.drop_eq_getElem_cons an, h6, h8, am, ao]
   match f, hf with
   | 0, _ =>
    have : cur.toList.drop (z.toNat * 4 + 1) = .int .i64 (xs.getD z.toNat default).2.1 :: (xs.getD z.toNat default).2.2.1 :: (xs.getD z.toNat default).2.2.2 :: cur.toList.drop (z.toNat * 4 + 4) := by
     have := cgA (List.drop 1) p
     rw [List.drop_drop] at this
     simpa using this
    simp [this, new4]
   | 1, _ =>
    have h2 : cur.toList.drop (z.toNat * 4 + 2) = (xs.getD z.toNat default).2.2.1 :: (xs.getD z.toNat default).2.2.2 :: cur.toList.drop (z.toNat * 4 + 4) := by
     have := cgA (List.drop 2) p
     rw [List.drop_drop] at this
     simpa using this
    have : cur.toList.take (z.toNat * 4 + 1) = cur.toList.take (z.toNat * 4) ++ [.int .i64 (xs.getD z.toNat default).1] := by
     rw [List.take_add_one, h]; rfl
    simp [this, h2, new4]
  have hpt : eptr (.slice (some ⟨gb, 0, none⟩) xs.length cap) z 4 f = .pointer (some ⟨gb, z.toNat * 4 + f, none⟩) := by
   clear hx hrun c i hw hr hc hel hp j hv hown a m n
   simp only [eptr, Addr.add]; split <;> simp_all
  rw [hpt] at hx
  refine ⟨w', ?_, j, s, a3, a4⟩
  have hlv : (storeVar t ⟨gb, z.toNat * 4 + f, none⟩ (vJ q)).run P w = .ok () w' := by
   unfold storeVar
   simp only [Sem.run_bind, xP hs, Result.andThen_ok]
   have : (Value.int .i64 q).cells.size = 1 := rfl
   simp only [this, ne_eq, not_true_eq_false, if_false]
   have aq : (Value.int .i64 q).cells.toList = [.int .i64 q] := rfl
   rw [aq, i, hw]
  simp only [execOp, hx, hy, Instr.storeAt, Instr.sureAddr, Sem.run_bind, Sem.run_pure, Result.andThen_ok, hlv]
theorem o_setC (f : Nat) (hf : f < 2) (hs : (P.info? t).map (·.size) = some 1) (hx : ρ x = eptr v z 4 f) (hy : ρ y = .int .i64 q) (hP : Pins G w) (hv : Own eCl4 e G w base v xs) (h0 : 0 ≤ z) (h1 : z < xs.length)
  (h : ∀ w', Own eCl4 e G w' base v (xs.set z.toNat (new4 f q (xs.getD z.toNat default))) → Pins G w' → w.grownBy w' v.ownBlock → w'.heap.size = w.heap.size → K undef w') :
  EO P ρ ⟨d, .store t x y, ty, pos, aft, g⟩ w K := by
 obtain ⟨w', h2, h3, h4, h5, h6⟩ := run_setC (d := d) (ty := ty) (pos := pos) (aft := aft) (g := g) f hf hs hx hy hP hv h0 h1
 exact EO.skip h2 (h w' h3 h4 h5 h6)
end
theorem vv_at {zs ps : List C4} (h : zs.map vv4 = ps.map vv4) (j : Nat) : (zs.getD j default).2.2 = (ps.getD j default).2.2 := by
 have := cgA (fun l => l.getD j (vv4 default)) h
 simp only [List.getD, List.getElem?_map, Option.getD_map] at this
 exact this
theorem set_vv {ys : List C4} {j f : Nat} {q : Int} : (ys.set j (new4 f q (ys.getD j default))).map vv4 = ys.map vv4 := by
 apply List.ext_getElem?
 intro i
 simp only [List.getElem?_map]
 by_cases hi : j = i
 ·subst hi
  by_cases hj : j < ys.length
  ·have e : vv4 (new4 f q ys[j]) = vv4 ys[j] := by unfold new4 vv4; split <;> rfl
   simp [List.getD, hj, e]
  ·rw [List.set_eq_of_length_le (by omega)]
 ·rw [List.getElem?_set_ne hi]
structure SmC (cs : List Cl) : Prop where
 len : cs.length ≤ 200
 ln : ∀ j, j < cs.length → (cs.getD j default).r.length ≤ 24 ∧ (cs.getD j default).l.length ≤ 24
theorem cut_lens {L : List Cl} {nd : List Bool} (h : ∀ j, (L.getD j default).r.length ≤ 24 ∧ (L.getD j default).l.length ≤ 24) : ∀ j, ∀ c ∈ (cutN L nd j).2, c.r.length ≤ 24 ∧ c.l.length ≤ 24
 | 0 => fun _ hc => by cases hc
 | j + 1 => by
  have ih := cut_lens (nd := nd) h j
  show ∀ c ∈ (cutStep L nd j (cutN L nd j)).2, _
  unfold cutStep
  split
  ·intro c hc
   rcases List.mem_append.1 hc with h1 | h1
   ·exact ih c h1
   ·simp at h1; subst h1
    simp only [xC]; exact h j
  ·exact ih
theorem vF (asx bs : List Nd) : SmC (prfL asx bs) := by
 by_cases hp : PrfP asx bs
 ·obtain ⟨_, e2⟩ := pT hp
  rw [e2]
  have hf := (sL hp.ga hp.gb hp.ge).ln
  have hall : ∀ j, ((fullL asx bs).getD j default).r.length ≤ 24 ∧ ((fullL asx bs).getD j default).l.length ≤ 24 := fun j => by
   by_cases hj : j < (fullL asx bs).length
   ·exact hf j hj
   ·have e : (fullL asx bs).getD j default = default := by simp [List.getD, List.getElem?_eq_none (show (fullL asx bs).length ≤ j by omega)]
    rw [e]; exact ⟨cH _, cH _⟩
  exact ⟨hp.le, fun j hj => cut_lens hall _ _ (qU hj)⟩
 ·obtain ⟨_, e2⟩ := tG hp
  rw [e2]; exact ⟨cH _, fun j hj => absurd hj (cJ j)⟩
theorem jX {P : Program} {n : Nat} {env : Nat → Value} {w : World} {fn : Func} {R : Ending → World → Prop} {s t b s2 b2 s3 b3 t3 : Nat} {cs ds es : List Value} (hr : fn.results = #[.cell s t, .cell s2 t, .cell s3 t3]) (hs : Nat.blt s n = true) (hs2 : Nat.blt s2 n = true) (hs3 : Nat.blt s3 n = true) (hv : env s = .pointer (some ⟨b, 0, none⟩)) (hv2 : env s2 = .pointer (some ⟨b2, 0, none⟩)) (hv3 : env s3 = .pointer (some ⟨b3, 0, none⟩)) (ha : (P.underlying t).map aggD = some true) (hz : (P.info? t).map (·.size) = some cs.length) (hz2 : ds.length = cs.length) (ha3 : (P.underlying t3).map aggD = some true) (hz3 : (P.info? t3).map (·.size) = some es.length)
  (hc : ∀ j u, cs[j]? = some u → w.cell? ⟨b, 0 + j, none⟩ = some u) (hd : ∀ j u, ds[j]? = some u → w.cell? ⟨b2, 0 + j, none⟩ = some u) (he0 : ∀ j u, es[j]? = some u → w.cell? ⟨b3, 0 + j, none⟩ = some u) (h : R (.returned (.tuple #[.agg cs.toArray, .agg ds.toArray, .agg es.toArray])) w) : bodyPost P fn R .ret (F n env) w := by
 have a : s < n := by simpa [Nat.blt_eq] using hs
 have c : s2 < n := by simpa [Nat.blt_eq] using hs2
 have d : s3 < n := by simpa [Nat.blt_eq] using hs3
 have key : ∀ (t b : Nat) (cs : List Value), (P.underlying t).map aggD = some true → (P.info? t).map (·.size) = some cs.length → (∀ j u, cs[j]? = some u → w.cell? ⟨b, 0 + j, none⟩ = some u) → (loadVar t ⟨b, 0, none⟩).run P w = .ok (.agg cs.toArray) w := fun t b cs ha hz hc => by
  have hcell : ∀ j u, cs[j]? = some u → w.cell? ((⟨b, 0, none⟩ : Addr).add j) = some u := fun j u hj => by
   have := hc j u hj
   simp only [Addr.add]
   split
   ·simp_all
   ·exact this
  unfold loadVar
  simp only [Sem.run_bind, jH ha, Result.andThen_ok, if_true, xP hz, run_loadCells_list (P := P) w ⟨b, 0, none⟩ cs hcell, Sem.run_pure]
 have e := key t b cs ha hz hc
 have f := key t b2 ds ha (by rw [hz2]; exact hz) hd
 have g := key t3 b3 es ha3 hz3 he0
 refine bodyPost_ret (v := .tuple #[.agg cs.toArray, .agg ds.toArray, .agg es.toArray]) ?_ rfl h
 have he : (F n env).tmps[s]?.getD undef = .pointer (some ⟨b, 0, none⟩) := by simp [F, a, hv]
 have i : (F n env).tmps[s2]?.getD undef = .pointer (some ⟨b2, 0, none⟩) := by simp [F, c, hv2]
 have k : (F n env).tmps[s3]?.getD undef = .pointer (some ⟨b3, 0, none⟩) := by simp [F, d, hv3]
 simp [results, hr, he, i, k, asAddr, e, f, g]
structure UsP (ps : List Cl) : Prop where
 hi : ps.length ≤ 200
 wf : WfL ps
theorem UsP.at {ps : List Cl} (h : UsP ps) {k s i : Nat} (hk : k < ps.length) (hi : i < (pick2 s (ps.getD k default).r (ps.getD k default).l).length) :
  0 ≤ (pick2 s (ps.getD k default).r (ps.getD k default).l).getD i 0 ∧ (pick2 s (ps.getD k default).r (ps.getD k default).l).getD i 0 < k := by
 refine h.wf k hk _ ?_
 unfold pick2 at hi ⊢
 split at hi <;> rename_i hs
 ·rw [if_pos hs]; exact cE (qU hi)
 ·rw [if_neg hs]; exact cF (qU hi)
theorem kJ (asx bs : List Nd) : UsP (prfL asx bs) := by
 by_cases hp : PrfP asx bs
 ·rw [(pT hp).2]; exact ⟨hp.le, cut_wf (sL hp.ga hp.gb hp.ge)⟩
 ·rw [(tG hp).2]; exact ⟨cH _, fun j hj => absurd hj (cJ j)⟩
def BxL (G : Pin) (w : World) (bs : List (Nat × List Value)) : Prop := ∀ p ∈ bs, Bx G w p.1 p.2
def NotB (bs : List (Nat × List Value)) (x : Option Nat) : Prop := ∀ p ∈ bs, Apart (some p.1) x
section
variable {G G' : Pin} {w w' : World} {bs : List (Nat × List Value)} {lo hi : Nat}
theorem BxL.below (h : BxL G w bs) (hb : Below w.heap.size w w') : BxL G w' bs := fun p hp => (h p hp).below hb
theorem BxL.ext (h : BxL G w bs) (hx : Ext noS G w G' w') : BxL G' w' bs := fun p hp => (h p hp).ext hx
theorem BxL.kept {row : Option Nat} (h : BxL G w bs) (hg : w.grownBy w' row) (ha : NotB bs row) : BxL G w' bs := fun p hp => (h p hp).keptA hg (ha p hp)
theorem BxL.moreO {v : Value} (h : BxL G w bs) (hf : ∀ k o x, G' k o x → G k o x ∨ v.ownBlock = some k) (ha : NotB bs v.ownBlock) : BxL G' w bs := fun p hp => (h p hp).moreO hf (ha p hp)
theorem BxL.turned {x : Option Nat} (h : BxL G w bs) (hx : Ext (inO x) G w G' w') (ha : NotB bs x) : BxL G' w' bs := fun p hp => (h p hp).extS hx (yZ (ha p hp))
theorem BxL.new {x : Option Nat} (h : BxL G w bs) (hx : ∀ k, x = some k → w.heap.size ≤ k) : NotB bs x := fun p hp k h1 h2 => by
 cases h1
 have h3 := (h p hp).lt
 have h4 := hx _ h2
 omega
variable {b : Nat}
theorem NotB.app {u v : Value} (h : NotB bs u.ownBlock) (hl : BxL G w bs) (hw : v.ownBlock = u.ownBlock ∨ ∃ k, v.ownBlock = some k ∧ w.heap.size ≤ k) : NotB bs v.ownBlock := by
 rcases hw with e | ⟨k, e, hk⟩
 ·rw [e]; exact h
 ·exact hl.new fun j hj => by rw [e] at hj; cases hj; exact hk
theorem Bx.moreR {cs : List Value} (h : Bx G w b cs) (hf : ∀ k o u, G' k o u → G k o u ∨ (lo ≤ k ∧ k < hi)) (hb : hi ≤ b ∨ b < lo) : Bx G' w b cs :=
 ⟨h.heap, fun o u hu => by
  rcases hf b o u hu with a | a
  ·exact h.free o u a
  ·omega⟩
theorem BxL.moreR (h : BxL G w bs) (hf : ∀ k o u, G' k o u → G k o u ∨ (lo ≤ k ∧ k < hi)) (hb : ∀ p ∈ bs, hi ≤ p.1 ∨ p.1 < lo) : BxL G' w bs := fun p hp => (h p hp).moreR hf (hb p hp)
theorem NotB.row {v : Value} (hb : ∀ p ∈ bs, hi ≤ p.1 ∨ p.1 < lo) (h1 : ∀ k, v.ownBlock = some k → lo ≤ k ∧ k < hi) : NotB bs v.ownBlock := fun p hp k e1 e2 => by
 cases e1
 have h2 := h1 _ e2
 have h3 := hb p hp
 omega
theorem yS {v : Value} (h1 : ∀ k, v.ownBlock = some k → lo ≤ k ∧ k < hi) (hb : hi ≤ b ∨ b < lo) : Apart v.ownBlock (some b) := fun k e1 e2 => by
 cases e2
 have h2 := h1 _ e1
 omega
end
section
variable {cn e lo hi : Nat} {G G' : Pin} {w w' : World} {v : Value} {cs : List Cl}
variable {L : List Leaf} {k : Nat}
theorem DPrf.run_len {P : Program} {t ety : Nat} {d : Option Nat} {ty : Nat} {pos : String} {aft : Array Edge} {g : Option (Nat × Bool)} {x : Operand} {ρ : Operand → Value} {w9 : World} (h : DPrf cn e G w lo hi v cs) (ht : P.underlying t = some (.slice ety)) (hx : ρ x = v) :
  (execOp ρ ⟨d, .call { callee := .builtin .len, args := #[x], argTypes := #[t] }, ty, pos, aft, g⟩).run P w9 = .ok (.value (.int .i64 cs.length)) w9 := by
 obtain ⟨ps, h1, h0, h2, h3, h4, h5⟩ := h.ex
 rw [← h1]
 exact Go.GL.run_len ht hx h2.read
theorem Lvs.sub {L' : List Leaf} (h : Lvs e G w lo hi L) (hs : L'.Sublist L) : Lvs e G w lo hi L' := ⟨fun p hp => h.own p (hs.subset hp), fun p hp => h.hi p (hs.subset hp), h.ap.sublist hs⟩
theorem Own.moreL {α : Type} {E : Elt α} {base : Nat} {u : Value} {xs : List α} (h : Own E e G w base u xs) (ha : ApL L u.ownBlock) : Own E e (GLv G w L) w base u xs :=
 h.mono GLv.le fun k hk o x hu => by
  rcases hu with a | ⟨⟨p, hp, a⟩, _⟩
  ·exact h.free k hk o x a
  ·exact ha p hp k a hk
theorem DPrf.readR (h : DPrf cn e G w lo hi v cs) (hP : Pins G w) : ∃ G', Pin.le G G' ∧ Pins G' w ∧ RSl eClaim G' v cs ∧ ∀ b o x, G' b o x → G b o x ∨ (lo ≤ b ∧ b < hi) := by
 obtain ⟨ps, g, j, f, k, d, s⟩ := h.ex
 refine ⟨GLv (Gadd G w v) w (lvC ps cs), cA (Gadd.le _ _ _) GLv.le, GLv.pins (cK hP v), (f.read.mono GLv.le).conv g.symm rfl fun i p c cells hp hc hr => ?_, fun b o x hx => ?_⟩
 rotate_left
 ·rcases hx with (a | a) | a
  ·exact cE a
  ·exact cF ⟨(f.lt b a.1).1, k b a.1⟩
  ·obtain ⟨⟨p, hp, hk⟩, _⟩ := a
   exact cF ⟨((d.own p hp).lt b hk).1, d.hi p hp b hk⟩
 have hm := sC (ps := ps.map vv4) (ns := cs.map ndC) (i := i) (p := vv4 p) (n := ndC c) (by rw [List.getElem?_map, hp]; rfl) (by rw [List.getElem?_map, hc]; rfl)
 obtain ⟨rfl, _, _⟩ := hr
 have key : ∀ q ∈ lvC ps cs, RSl eInt (GLv (Gadd G w v) w (lvC ps cs)) q.1 q.2 := fun q hq =>
  (d.read hq).mono fun b o u hu => by
   rcases hu with a | a
   ·exact cE (cE a)
   ·exact cF a
 have he : ab4 p = prC c := by
  have := cgA (fun l => l[i]?) j
  simp only [List.getElem?_map, hp, hc, Option.map_some] at this
  exact Option.some.inj this
 have m : p.1 = c.a := cgA Prod.fst he
 have r : p.2.1 = c.b := cgA Prod.snd he
 exact ⟨_, _, (by rw [m, r]; rfl), key _ hm.1, key _ hm.2⟩
theorem lvC_split {ps1 ps2 : List C4} {cs1 cs2 : List Cl} {p : C4} {c : Cl} (hl : ps1.length = cs1.length) :
  lvC (ps1 ++ p :: ps2) (cs1 ++ c :: cs2) = (lvC ps1 cs1 ++ [(p.2.2.1, c.r)]) ++ (p.2.2.2, c.l) :: lvC ps2 cs2 := by
 unfold lvC lvN
 rw [List.map_append, List.map_append, List.zip_append (by simp only [List.length_map]; exact hl), List.flatMap_append]
 simp [vv4, ndC]
theorem eP {α : Type} [Inhabited α] {l : List α} (h : k < l.length) : l = l.take k ++ l.getD k default :: l.drop (k + 1) := by
 have h1 : l.getD k default = l[k] := by simp [List.getD, h]
 rw [h1, ← List.drop_eq_getElem_cons h, List.take_append_drop]
theorem DPrf.open (h : DPrf cn e G w lo hi v cs) (hP : Pins G w) (hk : k < cs.length) :
  ∃ (G' : Pin) (ps : List C4) (y u : Value), y = (ps.getD k default).2.2.1 ∧ u = (ps.getD k default).2.2.2 ∧ Pin.le G G' ∧ Pins G' w ∧ ps.length = cs.length ∧ Own eCl4 cn G' w lo v ps ∧ Own eInt e G' w lo u (cs.getD k default).l ∧
   (∀ j, v.ownBlock = some j → lo ≤ j ∧ j < hi) ∧ (∀ j, u.ownBlock = some j → lo ≤ j ∧ j < hi) ∧ Apart u.ownBlock v.ownBlock ∧ RSl eInt G' y (cs.getD k default).r ∧ (∀ i, i < ps.length → RSl eInt G' (ps.getD i default).2.2.1 (cs.getD i default).r) ∧
   (∀ i, i < ps.length → i ≠ k → RSl eInt G' (ps.getD i default).2.2.2 (cs.getD i default).l) ∧ (∀ b o x, G' b o x → G b o x ∨ (lo ≤ b ∧ b < hi)) := by
 obtain ⟨ps, s, z, m, t, c, d⟩ := h.ex
 have hpk : k < ps.length := by omega
 have hsp : lvC ps cs = (lvC (ps.take k) (cs.take k) ++ [((ps.getD k default).2.2.1, (cs.getD k default).r)]) ++ ((ps.getD k default).2.2.2, (cs.getD k default).l) :: lvC (ps.drop (k + 1)) (cs.drop (k + 1)) := by
  conv => lhs; rw [eP hpk, eP hk]
  exact lvC_split (by simp only [List.length_take]; omega)
 have h6 := c
 have h7 := d
 rw [hsp] at c d
 have hsub : ((lvC (ps.take k) (cs.take k) ++ [((ps.getD k default).2.2.1, (cs.getD k default).r)]) ++ lvC (ps.drop (k + 1)) (cs.drop (k + 1))).Sublist ((lvC (ps.take k) (cs.take k) ++ [((ps.getD k default).2.2.1, (cs.getD k default).r)]) ++ ((ps.getD k default).2.2.2, (cs.getD k default).l) :: lvC (ps.drop (k + 1)) (cs.drop (k + 1))) :=
  List.Sublist.append (List.Sublist.refl _) (List.sublist_cons_self _ _)
 have hS := c.sub hsub
 have hap := c.ap
 rw [List.pairwise_append] at hap
 have hmu : ((ps.getD k default).2.2.2, (cs.getD k default).l) ∈ (lvC (ps.take k) (cs.take k) ++ [((ps.getD k default).2.2.1, (cs.getD k default).r)]) ++ ((ps.getD k default).2.2.2, (cs.getD k default).l) :: lvC (ps.drop (k + 1)) (cs.drop (k + 1)) := List.mem_append_right _ List.mem_cons_self
 have hou := c.own _ hmu
 have hau : ApL ((lvC (ps.take k) (cs.take k) ++ [((ps.getD k default).2.2.1, (cs.getD k default).r)]) ++ lvC (ps.drop (k + 1)) (cs.drop (k + 1))) (ps.getD k default).2.2.2.ownBlock := fun p hp => by
  rcases List.mem_append.1 hp with a | a
  ·exact hap.2.2 p a _ List.mem_cons_self
  ·exact fun j f g => (List.pairwise_cons.1 hap.2.1).1 p a j g f
 have hav : ApL ((lvC (ps.take k) (cs.take k) ++ [((ps.getD k default).2.2.1, (cs.getD k default).r)]) ++ lvC (ps.drop (k + 1)) (cs.drop (k + 1))) v.ownBlock := fun p hp => d p (hsub.subset hp)
 have hin : ∀ i, i < ps.length → i ≠ k → ((ps.getD i default).2.2.1, (cs.getD i default).r) ∈ (lvC (ps.take k) (cs.take k) ++ [((ps.getD k default).2.2.1, (cs.getD k default).r)]) ++ lvC (ps.drop (k + 1)) (cs.drop (k + 1)) ∧
   ((ps.getD i default).2.2.2, (cs.getD i default).l) ∈ (lvC (ps.take k) (cs.take k) ++ [((ps.getD k default).2.2.1, (cs.getD k default).r)]) ++ lvC (ps.drop (k + 1)) (cs.drop (k + 1)) := fun i hi hne => by
  have hci : i < cs.length := by omega
  have f : ps.getD i default = ps[i] := by simp [List.getD, hi]
  have g : cs.getD i default = cs[i] := by simp [List.getD, hci]
  by_cases hlt : i < k
  ·have hm := sC (ps := (ps.take k).map vv4) (ns := (cs.take k).map ndC) (i := i) (p := vv4 ps[i]) (n := ndC cs[i]) (by rw [List.getElem?_map, List.getElem?_take, if_pos hlt, List.getElem?_eq_getElem hi]; rfl) (by rw [List.getElem?_map, List.getElem?_take, if_pos hlt, List.getElem?_eq_getElem hci]; rfl)
   rw [f, g]
   exact ⟨List.mem_append_left _ (List.mem_append_left _ hm.1), List.mem_append_left _ (List.mem_append_left _ hm.2)⟩
  ·have q : k + 1 + (i - (k + 1)) = i := by omega
   have hm := sC (ps := (ps.drop (k + 1)).map vv4) (ns := (cs.drop (k + 1)).map ndC) (i := i - (k + 1)) (p := vv4 ps[i]) (n := ndC cs[i]) (by rw [List.getElem?_map, List.getElem?_drop, q, List.getElem?_eq_getElem hi]; rfl) (by rw [List.getElem?_map, List.getElem?_drop, q, List.getElem?_eq_getElem hci]; rfl)
   rw [f, g]
   exact ⟨List.mem_append_right _ hm.1, List.mem_append_right _ hm.2⟩
 have hy : ((ps.getD k default).2.2.1, (cs.getD k default).r) ∈ (lvC (ps.take k) (cs.take k) ++ [((ps.getD k default).2.2.1, (cs.getD k default).r)]) ++ lvC (ps.drop (k + 1)) (cs.drop (k + 1)) :=
  List.mem_append_left _ (List.mem_append_right _ List.mem_cons_self)
 refine ⟨GLv G w _, ps, _, _, rfl, rfl, GLv.le, GLv.pins hP, s, m.moreL hav, hou.moreL hau, fun j hj => ⟨(m.lt j hj).1, t j hj⟩, fun j hj => ⟨(hou.lt j hj).1, c.hi _ hmu j hj⟩, d _ hmu, hS.read hy, fun i hi => ?_, fun i hi hne => hS.read (hin i hi hne).2, fun b o x hx => GLv.new hS hx⟩
 by_cases hik : i = k
 ·subst hik; exact hS.read hy
 ·exact hS.read (hin i hi hik).1
end
theorem claims_of {G : Pin} {v : Value} {ps : List C4} (h : RSl eCl4 G v ps) (hr : ∀ i, i < ps.length → ∃ xs, RSl eInt G (ps.getD i default).2.2.1 xs) (hl : ∀ i, i < ps.length → ∃ xs, RSl eInt G (ps.getD i default).2.2.2 xs) : ∃ cs, RSl eClaim G v cs := by
 classical
 refine ⟨(List.range ps.length).map fun i => ⟨(ps.getD i default).1, (ps.getD i default).2.1, if q : i < ps.length then (hr i q).choose else [], if q : i < ps.length then (hl i q).choose else []⟩, h.conv (by simp) rfl fun i p c cells hp hc hq => ?_⟩
 have hi : i < ps.length := (List.getElem?_eq_some_iff.1 hp).1
 have e1 : ps.getD i default = p := by simp [List.getD, hp]
 rw [List.getElem?_map, List.getElem?_range hi] at hc
 cases hc
 obtain ⟨rfl, _, _⟩ := hq
 have a := (hr i hi).choose_spec
 have b := (hl i hi).choose_spec
 simp only [dif_pos hi]
 subst e1
 exact ⟨_, _, rfl, a, b⟩
def newR (u : Value) (p : C4) : C4 := (p.1, p.2.1, u, p.2.2.2)
section
variable {P : Program} {ρ : Operand → Value} {w : World} {K : Value → World → Prop} {d : Option Nat} {t ty e : Nat} {pos : String} {aft : Array Edge} {g : Option (Nat × Bool)} {x y : Operand} {G : Pin} {v : Value}
variable {base : Nat} {xs : List C4} {z : Int} {q : Value}
theorem run_setV (ho : q.oneCell' = true) (hs : (P.info? t).map (·.size) = some 1) (hx : ρ x = eptr v z 4 2) (hy : ρ y = q) (hP : Pins G w) (hv : Own eCl4 e G w base v xs) (h0 : 0 ≤ z) (h1 : z < xs.length) :
  ∃ w', (execOp ρ ⟨d, .store t x y, ty, pos, aft, g⟩).run P w = .ok .skip w' ∧ Own eCl4 e G w' base v (xs.set z.toNat (newR q (xs.getD z.toNat default))) ∧ Pins G w' ∧ w.grownBy w' v.ownBlock ∧ w'.heap.size = w.heap.size := by
 have hz : z.toNat < xs.length := by omega
 obtain ⟨cells, hown, hr⟩ := hv.ex
 have n : xs[z.toNat] = xs.getD z.toNat default := by simp [List.getD, hz]
 have a := hr z.toNat _ (List.getElem?_eq_getElem hz)
 rw [n] at a
 obtain ⟨gb, w', hb, hp, hrun, i, o, p, r⟩ := hv.setAt (P := P) h0 h1 (q := newR q (xs.getD z.toNat default)) (cs := [Value.int .i64 (xs.getD z.toNat default).1, Value.int .i64 (xs.getD z.toNat default).2.1, q, (xs.getD z.toNat default).2.2.2])
  ⟨rfl, ho, a.2.2⟩ hP
 rcases hown.2 with ⟨rfl, ao⟩ | ⟨g', cap, cur, rfl, hbg, hg, hnc, hcm, hcs, htake⟩
 ·omega
 ·have hgb : gb = g' := by simpa [Value.ownBlock] using hb.symm
  subst hgb
  have j : eCl4.size = 4 := rfl
  rw [j] at hrun hcs htake hr hp
  have s : z.toNat * 4 + 4 ≤ cur.size := by omega
  have hel := a.1
  rw [j, ← htake] at hel
  have l := a.2.2
  have hc : ∀ k u, ([Value.int .i64 (xs.getD z.toNat default).1, .int .i64 (xs.getD z.toNat default).2.1, (xs.getD z.toNat default).2.2.1, (xs.getD z.toNat default).2.2.2] : List Value)[k]? = some u → cur.toList[z.toNat * 4 + k]? = some u := fun k u hu => by
   have hk : k < 4 := by have := (List.getElem?_eq_some_iff.1 hu).1; simpa using this
   have b : ((((cur.toList.take (xs.length * 4)).drop (z.toNat * 4)).take 4)[k]?) = some u := by rw [show ((cur.toList.take (xs.length * 4)).drop (z.toNat * 4)).take 4 = _ from hel]; exact hu
   rw [List.getElem?_take, if_pos hk, List.getElem?_drop, List.getElem?_take, if_pos (by omega)] at b
   exact b
  have f := hc 0 _ rfl
  have m := hc 1 _ rfl
  have c2 := hc 2 _ rfl
  have c3 := hc 3 _ rfl
  rw [Nat.add_zero] at f
  have c := run_storeCells_at P gb (z.toNat * 4) e [.int .i64 (xs.getD z.toNat default).1, .int .i64 (xs.getD z.toNat default).2.1, q, (xs.getD z.toNat default).2.2.2] 0 cur w hg (by simpa using s)
   (by
    intro u hu
    rcases List.mem_cons.1 hu with rfl | hu
    ·rfl
    rcases List.mem_cons.1 hu with rfl | hu
    ·rfl
    rcases List.mem_cons.1 hu with rfl | hu
    ·exact ho
    rcases List.mem_cons.1 hu with rfl | hu
    ·exact l
    ·cases hu)
  have h := run_storeCells_at P gb (z.toNat * 4 + 2) e [q] 0 cur w hg (by simp; omega) (by intro u hu; simp at hu; subst hu; exact ho)
  simp only [Nat.add_zero] at c h
  have hw : w' = w.setRow gb (cur.toList.take (z.toNat * 4 + 2) ++ [q] ++ cur.toList.drop (z.toNat * 4 + 2 + [q].length)).toArray := by
   rw [hrun] at c
   have ac := (Result.ok.inj c).2
   rw [ac]
   congr 2
   have ad : cur.toList.drop (z.toNat * 4) = .int .i64 (xs.getD z.toNat default).1 :: .int .i64 (xs.getD z.toNat default).2.1 :: (xs.getD z.toNat default).2.2.1 :: (xs.getD z.toNat default).2.2.2 :: cur.toList.drop (z.toNat * 4 + 4) := by
    obtain ⟨h5, h6⟩ := List.getElem?_eq_some_iff.1 f
    obtain ⟨h7, h8⟩ := List.getElem?_eq_some_iff.1 m
    obtain ⟨h9, aj⟩ := List.getElem?_eq_some_iff.1 c2
    obtain ⟨ak, al⟩ := List.getElem?_eq_some_iff.1 c3
    rw [List.drop_eq_getElem_cons h5, List.drop_eq_getElem_cons h7, List.drop_eq_getElem_cons h9, List.drop_eq_getElem_cons ak, h6, h8, aj, al]
   have h2 : cur.toList.drop (z.toNat * 4 + 3) = (xs.getD z.toNat default).2.2.2 :: cur.toList.drop (z.toNat * 4 + 4) := by
    have := cgA (List.drop 3) ad
    rw [List.drop_drop] at this
    simpa using this
   have b : cur.toList.take (z.toNat * 4 + 2) = cur.toList.take (z.toNat * 4) ++ [.int .i64 (xs.getD z.toNat default).1, .int .i64 (xs.getD z.toNat default).2.1] := by
    rw [show z.toNat * 4 + 2 = (z.toNat * 4 + 1) + 1 from rfl, List.take_add_one, m, List.take_add_one, f]; simp
   simp [h2, b]
  have hpt : eptr (.slice (some ⟨gb, 0, none⟩) xs.length cap) z 4 2 = .pointer (some ⟨gb, z.toNat * 4 + 2, none⟩) := by
   clear hx hrun c h hw hr hc hel hp i hv hown a l
   simp only [eptr, Addr.add]; split <;> simp_all
  rw [hpt] at hx
  refine ⟨w', ?_, i, o, p, r⟩
  have hce : q.cells = #[q] := by cases q <;> simp_all [Value.oneCell', Value.cells]
  have hlv : (storeVar t ⟨gb, z.toNat * 4 + 2, none⟩ q).run P w = .ok () w' := by
   unfold storeVar
   simp only [Sem.run_bind, xP hs, Result.andThen_ok]
   have : q.cells.size = 1 := by rw [hce]; rfl
   simp only [this, ne_eq, not_true_eq_false, if_false]
   have an : q.cells.toList = [q] := by rw [hce]
   rw [an, h, hw]
  simp only [execOp, hx, hy, Instr.storeAt, Instr.sureAddr, Sem.run_bind, Sem.run_pure, Result.andThen_ok, hlv]
theorem o_setV (ho : q.oneCell' = true) (hs : (P.info? t).map (·.size) = some 1) (hx : ρ x = eptr v z 4 2) (hy : ρ y = q) (hP : Pins G w) (hv : Own eCl4 e G w base v xs) (h0 : 0 ≤ z) (h1 : z < xs.length)
  (h : ∀ w', Own eCl4 e G w' base v (xs.set z.toNat (newR q (xs.getD z.toNat default))) → Pins G w' → w.grownBy w' v.ownBlock → w'.heap.size = w.heap.size → K undef w') :
  EO P ρ ⟨d, .store t x y, ty, pos, aft, g⟩ w K := by
 obtain ⟨w', h2, h3, h4, h5, h6⟩ := run_setV (d := d) (ty := ty) (pos := pos) (aft := aft) (g := g) ho hs hx hy hP hv h0 h1
 exact EO.skip h2 (h w' h3 h4 h5 h6)
end
variable {ps : List C4} {k b : Nat} {G1 : Pin}
theorem set_at {i : Nat} {q : C4} (hk : k < ps.length) : (ps.set k q).getD i default = if i = k then q else ps.getD i default := by
 by_cases h : i = k
 ·subst h; simp [List.getD, hk]
 ·rw [if_neg h]; simp only [List.getD, List.getElem?_set_ne (fun e => h e.symm)]
theorem kK {G : Pin} {v u : Value} {qs : List C4} {cs : List Cl} {ls : List Int} (hle : Pin.le G1 G) (hu : u = (ps.getD k default).2.2.2) (hla : ∀ i, i < ps.length → i ≠ k → RSl eInt G1 (ps.getD i default).2.2.2 (cs.getD i default).l) (hul : RSl eInt G u ls) (hq : qs.length = ps.length)
  (hv : ∀ i, i < ps.length → (∃ xs, RSl eInt G (qs.getD i default).2.2.1 xs) ∧ (qs.getD i default).2.2.2 = (ps.getD i default).2.2.2) (h : RSl eCl4 G v qs) : ∃ cs, RSl eClaim G v cs :=
 claims_of h (fun i hi => (hv i (by omega)).1) fun i hi => by
  rw [(hv i (by omega)).2]
  by_cases e : i = k
  ·subst e; rw [← hu]; exact ⟨_, hul⟩
  ·exact ⟨_, (hla i (by omega) e).mono hle⟩
theorem pB {G : Pin} {cs : List Cl} (hle : Pin.le G1 G) (hra : ∀ i, i < ps.length → RSl eInt G1 (ps.getD i default).2.2.1 (cs.getD i default).r) : ∀ i, i < ps.length → (∃ xs, RSl eInt G (ps.getD i default).2.2.1 xs) ∧ (ps.getD i default).2.2.2 = (ps.getD i default).2.2.2 := fun i hi => ⟨⟨_, (hra i hi).mono hle⟩, rfl⟩
theorem done_num {G : Pin} {cs : List Cl} {f : Nat} {q : Int} (hle : Pin.le G1 G) (hra : ∀ i, i < ps.length → RSl eInt G1 (ps.getD i default).2.2.1 (cs.getD i default).r) :
  ∀ i, i < ps.length → (∃ xs, RSl eInt G ((ps.set k (new4 f q (ps.getD k default))).getD i default).2.2.1 xs) ∧ ((ps.set k (new4 f q (ps.getD k default))).getD i default).2.2.2 = (ps.getD i default).2.2.2 := fun i hi => by
 have e := vv_at (set_vv (ys := ps) (j := k) (f := f) (q := q)) i
 exact ⟨⟨_, by rw [e]; exact (hra i hi).mono hle⟩, by rw [e]⟩
theorem done_row {G : Pin} {cs : List Cl} {q : Value} {xs : List Int} (hk : k < ps.length) (hle : Pin.le G1 G) (hra : ∀ i, i < ps.length → RSl eInt G1 (ps.getD i default).2.2.1 (cs.getD i default).r) (hq : RSl eInt G q xs) :
  ∀ i, i < ps.length → (∃ xs, RSl eInt G ((ps.set k (newR q (ps.getD k default))).getD i default).2.2.1 xs) ∧ ((ps.set k (newR q (ps.getD k default))).getD i default).2.2.2 = (ps.getD i default).2.2.2 := fun i hi => by
 rw [set_at hk]
 by_cases e : i = k
 ·subst e; rw [if_pos rfl]; exact ⟨⟨_, hq⟩, rfl⟩
 ·rw [if_neg e]; exact ⟨⟨_, (hra i hi).mono hle⟩, rfl⟩
theorem BxL.nil {G : Pin} {w : World} : BxL G w [] := fun _ hp => (List.not_mem_nil hp).elim
theorem BxL.cons {G : Pin} {w : World} {cs : List Value} {bs : List (Nat × List Value)} (h : Bx G w b cs) (h2 : BxL G w bs) : BxL G w ((b, cs) :: bs) := fun p hp => by
 rcases List.mem_cons.1 hp with rfl | hp
 ·exact h
 ·exact h2 p hp
theorem NotB.nil {x : Option Nat} : NotB [] x := fun _ hp => (List.not_mem_nil hp).elim
theorem NotB.cons {cs : List Value} {bs : List (Nat × List Value)} {x : Option Nat} (h : Apart (some b) x) (h2 : NotB bs x) : NotB ((b, cs) :: bs) x := fun p hp => by
 rcases List.mem_cons.1 hp with rfl | hp
 ·exact h
 ·exact h2 p hp
theorem rng_nil {lo hi : Nat} : ∀ p ∈ ([] : List (Nat × List Value)), hi ≤ p.1 ∨ p.1 < lo := fun _ hp => (List.not_mem_nil hp).elim
theorem qP {lo hi : Nat} {cs : List Value} {bs : List (Nat × List Value)} (h : hi ≤ b ∨ b < lo) (h2 : ∀ p ∈ bs, hi ≤ p.1 ∨ p.1 < lo) : ∀ p ∈ (b, cs) :: bs, hi ≤ p.1 ∨ p.1 < lo := fun p hp => by
 rcases List.mem_cons.1 hp with rfl | hp
 ·exact h
 ·exact h2 p hp
end Go.GL
namespace Go.Proofs
open Go.Shelf
def Tryz.lays189_ren : Go.Shelf.Ren := ⟨fun | 189 => 85 | 125 => 89 | 257 => 88 | 128 => 100 | 129 => 101 | 294 => 91 | 295 => 92 | 296 => 93 | 297 => 94 | 298 => 95 | 299 => 96 | 216 => 97 | 300 => 98 | 301 => 99 | 328 => 106 | 329 => 107 | 330 => 108 | 331 => 109 | 332 => 110 | 215 => 67 | 343 => 115 | n => n, fun | 28 => 40 | 3 => 3 | 46 => 118 | 0 => 0 | 51 => 133 | 53 => 44 | 4 => 4 | 183 => 128 | 182 => 127 | 131 => 115 | 5 => 5 | 9 => 9 | 218 => 140 | 222 => 144 | 228 => 149 | 229 => 150 | n => n, fun | n => n⟩
theorem Tryz.lays189 : Go.Proofs.Lays.n189 Tryz.prog Tryz.lays189_ren := {
 mixed := by kernel_rfl
 f125 := Tryz.func89.trans (congrArg some (by kernel_rfl))
 f128 := Tryz.func100.trans (congrArg some (by kernel_rfl))
 f129 := Tryz.func101.trans (congrArg some (by kernel_rfl))
 f189 := Tryz.func85.trans (congrArg some (by kernel_rfl))
 f215 := Tryz.func67.trans (congrArg some (by kernel_rfl))
 f216 := Tryz.func97.trans (congrArg some (by kernel_rfl))
 f257 := Tryz.func88.trans (congrArg some (by kernel_rfl))
 f294 := Tryz.func91.trans (congrArg some (by kernel_rfl))
 f295 := Tryz.func92.trans (congrArg some (by kernel_rfl))
 f296 := Tryz.func93.trans (congrArg some (by kernel_rfl))
 f297 := Tryz.func94.trans (congrArg some (by kernel_rfl))
 f298 := Tryz.func95.trans (congrArg some (by kernel_rfl))
 f299 := Tryz.func96.trans (congrArg some (by kernel_rfl))
 f300 := Tryz.func98.trans (congrArg some (by kernel_rfl))
 f301 := Tryz.func99.trans (congrArg some (by kernel_rfl))
 f328 := Tryz.func106.trans (congrArg some (by kernel_rfl))
 f329 := Tryz.func107.trans (congrArg some (by kernel_rfl))
 f330 := Tryz.func108.trans (congrArg some (by kernel_rfl))
 f331 := Tryz.func109.trans (congrArg some (by kernel_rfl))
 f332 := Tryz.func110.trans (congrArg some (by kernel_rfl))
 f343 := Tryz.func115.trans (congrArg some (by kernel_rfl))
 t0 := Tryz.underlying0
 a0 := Tryz.isAgg0
 z0 := Tryz.sizeOf0
 v0 := Tryz.zeroValue0
 t3 := Tryz.underlying3
 a3 := Tryz.isAgg3
 z3 := Tryz.sizeOf3
 v3 := Tryz.zeroValue3
 t4 := Tryz.underlying4
 a4 := Tryz.isAgg4
 z4 := Tryz.sizeOf4
 v4 := Tryz.zeroValue4
 t5 := Tryz.underlying5
 a5 := Tryz.isAgg5
 z5 := Tryz.sizeOf5
 v5 := Tryz.zeroValue5
 t9 := Tryz.underlying9
 a9 := Tryz.isAgg9
 z9 := Tryz.sizeOf9
 v9 := Tryz.zeroValue9
 t28 := Tryz.underlying40
 a28 := Tryz.isAgg40
 z28 := Tryz.sizeOf40
 v28 := Tryz.zeroValue40
 t46 := Tryz.underlying118
 a46 := Tryz.isAgg118
 z46 := Tryz.sizeOf118
 v46 := Tryz.zeroValue118
 t51 := Tryz.underlying133
 a51 := Tryz.isAgg133
 z51 := Tryz.sizeOf133
 v51 := Tryz.zeroValue133
 t53 := Tryz.underlying44
 a53 := Tryz.isAgg44
 z53 := Tryz.sizeOf44
 v53 := Tryz.zeroValue44
 t131 := Tryz.underlying115
 a131 := Tryz.isAgg115
 z131 := Tryz.sizeOf115
 v131 := Tryz.zeroValue115
 t182 := Tryz.underlying127
 a182 := Tryz.isAgg127
 z182 := Tryz.sizeOf127
 v182 := Tryz.zeroValue127
 t183 := Tryz.underlying128
 a183 := Tryz.isAgg128
 z183 := Tryz.sizeOf128
 v183 := Tryz.zeroValue128
 t218 := Tryz.underlying140
 a218 := Tryz.isAgg140
 z218 := Tryz.sizeOf140
 v218 := Tryz.zeroValue140
 t222 := Tryz.underlying144
 a222 := Tryz.isAgg144
 z222 := Tryz.sizeOf144
 v222 := Tryz.zeroValue144
 t228 := Tryz.underlying149
 a228 := Tryz.isAgg149
 z228 := Tryz.sizeOf149
 v228 := Tryz.zeroValue149
 t229 := Tryz.underlying150
 a229 := Tryz.isAgg150
 z229 := Tryz.sizeOf150
 v229 := Tryz.zeroValue150 }
open Go.Sort Go.RowKit in
theorem Tryz.slices_Sort_int (blk off cap : Nat) (zs : List Int) (w : World) (hH : Holds (Value.int .i64) w blk off zs.toArray) (hblk : blk < w.heap.size) (hsz : zs.length < 4611686018427387904) :
  Calls Tryz.prog 85 #[.slice (some ⟨blk, off, none⟩) zs.length cap] w fun e w' =>
   e = .returned (.tuple #[]) ∧ ∃ n os, w' = grow (putRow (Value.int .i64) (Sort.ahead w n) blk off (zs.mergeSort fun x y => decide (x ≤ y)).toArray) os := Any.slices_Sort_int Tryz.lays189 blk off cap zs w hH hblk hsz
def Tryz.laysNm220_ren : Go.Shelf.Ren := ⟨fun | 20 => 86 | n => n, fun | 22 => 40 | 3 => 3 | 4 => 4 | 0 => 0 | n => n, fun | n => n⟩
theorem Tryz.laysNm220 : Go.Proofs.Lays2.n20 Tryz.prog Tryz.laysNm220_ren := {
 mixed := by kernel_rfl
 f20 := Tryz.func86.trans (congrArg some (by kernel_rfl))
 t0 := Tryz.underlying0
 a0 := Tryz.isAgg0
 z0 := Tryz.sizeOf0
 v0 := Tryz.zeroValue0
 t3 := Tryz.underlying3
 a3 := Tryz.isAgg3
 z3 := Tryz.sizeOf3
 v3 := Tryz.zeroValue3
 t4 := Tryz.underlying4
 a4 := Tryz.isAgg4
 z4 := Tryz.sizeOf4
 v4 := Tryz.zeroValue4
 t22 := Tryz.underlying40
 a22 := Tryz.isAgg40
 z22 := Tryz.sizeOf40
 v22 := Tryz.zeroValue40
 i3 := by kernel_rfl }
open Go.RowKit Go.Lib Go.Sort in
theorem Tryz.slices_Compact_int (blk off cap : Nat) (zs : List Int) (w : World) (hH : Holds (Value.int .i64) w blk off zs.toArray) (hsz : zs.length ≤ 9223372036854775807) (hcap : zs.length ≤ cap) :
  Calls Tryz.prog 86 #[.slice (some ⟨blk, off, none⟩) zs.length cap] w fun e w' => e = .returned (.slice (some ⟨blk, off, none⟩) (Lib.compact zs).length cap) ∧ ∃ q, w' = putRow (Value.int .i64) (Sort.ahead w q) blk off (Lib.compact zs ++ List.replicate (zs.length - (Lib.compact zs).length) 0).toArray := Any.slices_Compact_int Tryz.laysNm220 blk off cap zs w hH hsz hcap
open Go.RowKit Go.Lib Go.Sort in
theorem Tryz.slices_Compact_int_empty (a : Option Addr) (cap : Nat) (w : World) :
  Calls Tryz.prog 86 #[.slice a 0 cap] w fun e w' => e = .returned (.slice a 0 cap) ∧ w' = w := Any.slices_Compact_int_empty Tryz.laysNm220 a cap w
open Go.RowKit Go.Sort in
theorem Tryz.slices_Sort_int_none (p : Option Addr) (cap : Nat) (w : World) :
  Calls Tryz.prog 85 #[.slice p 0 cap] w fun e w' => e = .returned (.tuple #[]) ∧ w' = w := Any.slices_Sort_int_none Tryz.lays189 p cap w
end Go.Proofs
