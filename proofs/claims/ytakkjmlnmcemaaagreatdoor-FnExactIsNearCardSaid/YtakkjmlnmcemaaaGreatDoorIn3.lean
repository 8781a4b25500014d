/- Texts of this claim. -/
import Derived.Test.YtakkjmlnmcemaaaGreatDoorIn2
import Derived.Lib.SliceRun
import Derived.Lib.Join
import Derived.Carry
import Derived.MapKept
import Derived.Laws.BytesString
import Derived.Sort.Row
import Derived.Sort.Grow
import Derived.Lib.SlicesCompact
import Derived.Shelf.SlSortCmp.NoneTotal
import Derived.Lib.QuietBelow
namespace Go.GL
open Go Go.RowKit
def eVal2 : Elt (Value × Value) where
 size := 2
 rep := fun _ cs p => cs = [p.1, p.2] ∧ p.1.oneCell' = true ∧ p.2.oneCell' = true
 mono := fun _ h => h
 len := fun h => by rw [h.1]; rfl
 one := fun h u hu => by
  rw [h.1] at hu; simp at hu
  rcases hu with rfl | rfl
  ·exact h.2.1
  ·exact h.2.2
def Flat {α : Type} (E : Elt α) : Prop := ∀ {G G' : Pin} {cs : List Value} {x : α}, E.rep G cs x → E.rep G' cs x
theorem flat_int : Flat eInt := fun h => h
theorem Own.anti {α : Type} {E : Elt α} {e base : Nat} {G G' : Pin} {w : World} {v : Value} {xs : List α} (hE : Flat E) (h : Own E e G' w base v xs) (hg : Pin.le G G') : Own E e G w base v xs := by
 obtain ⟨cells, h1, h2⟩ := h.ex
 exact ⟨⟨cells, h1, fun i x hx => hE (h2 i x hx)⟩, fun k hk o u hu => h.free k hk o u (hg _ _ _ hu)⟩
abbrev Leaf := Value × List Int
structure Lvs (e : Nat) (G : Pin) (w : World) (lo hi : Nat) (L : List Leaf) : Prop where
 own : ∀ p ∈ L, Own eInt e G w lo p.1 p.2
 hi : ∀ p ∈ L, ∀ k, p.1.ownBlock = some k → k < hi
 ap : L.Pairwise fun p q => Apart p.1.ownBlock q.1.ownBlock
def ApL (L : List Leaf) (x : Option Nat) : Prop := ∀ p ∈ L, Apart p.1.ownBlock x
section
variable {e lo hi : Nat} {G G' : Pin} {w w' : World} {L L' : List Leaf}
theorem Lvs.map (h : Lvs e G w lo hi L) (f : ∀ p ∈ L, Own eInt e G w lo p.1 p.2 → Own eInt e G' w' lo p.1 p.2) : Lvs e G' w' lo hi L := ⟨fun p hp => f p hp (h.own p hp), h.hi, h.ap⟩
theorem Lvs.extS {S : Nat → Prop} (h : Lvs e G w lo hi L) (hx : Ext S G w G' w') (hS : ∀ k, lo ≤ k → k < hi → ¬ S k) : Lvs e G' w' lo hi L :=
 h.map fun p hp ho => ho.extS hx fun k hk => hS k (ho.lt k hk).1 (h.hi p hp k hk)
end
def lvN (ps : List (Value × Value)) (ns : List Nd) : List Leaf := (ps.zip ns).flatMap fun q => [(q.1.1, q.2.l), (q.1.2, q.2.r)]
structure DForm (en e : Nat) (G : Pin) (w : World) (lo hi : Nat) (v : Value) (ns : List Nd) : Prop where
 ex : ∃ ps, ps.length = ns.length ∧ Own eVal2 en G w lo v ps ∧ (∀ k, v.ownBlock = some k → k < hi) ∧ Lvs e G w lo hi (lvN ps ns) ∧ ApL (lvN ps ns) v.ownBlock
theorem Own.up {α : Type} {E : Elt α} {e base lo : Nat} {G : Pin} {w : World} {v : Value} {xs : List α} (h : Own E e G w base v xs) (hl : ∀ k, v.ownBlock = some k → lo ≤ k) : Own E e G w lo v xs := by
 obtain ⟨cells, ⟨hc, hown⟩, hr⟩ := h.ex
 refine ⟨⟨cells, ⟨hc, ?_⟩, hr⟩, h.free⟩
 rcases hown with hn | ⟨g, cap, cur, h1, h2, h3⟩
 ·exact .inl hn
 ·exact .inr ⟨g, cap, cur, h1, hl g (by rw [h1]; rfl), h3⟩
def inR (lo hi : Nat) (k : Nat) : Prop := lo ≤ k ∧ k < hi
section
variable {P : Program} {ρ : Operand → Value} {w : World} {d : Option Nat} {t e ty t' : Nat} {pos : String} {aft : Array Edge} {g : Option (Nat × Bool)} {x y : Operand}
def nilSl : Value → Bool
 | .slice none _ _ => true
 | _ => false
theorem r_eqlNil {α : Type} {E : Elt α} {G : Pin} {v : Value} {xs : List α} (ht : P.underlying t = some (.slice e)) (hv : RSl E G v xs) (hx : ρ x = v) (hy : ρ y = .slice none 0 0) :
  (execOp ρ ⟨d, .binOp .eql t x y t', ty, pos, aft, g⟩).run P w = .ok (.value (.bool (nilSl v))) w := by
 obtain ⟨a, c, rfl, _⟩ := hv.sl
 have h := Go.Lib.run_eql_slice_nil (P := P) w t e a xs.length c 0 0 ht
 simp only [execOp, hx, hy]
 cases a <;> simp [eqGuard, nilSl, h]
theorem nil_of {α : Type} {E : Elt α} {G : Pin} {v : Value} {xs : List α} (hv : RSl E G v xs) (h : nilSl v = true) : xs = [] := by
 match xs, hv with
 | [], _ => rfl
 | x :: r, hv =>
  obtain ⟨a, b, o, n, c, cs, h1, _⟩ := hv.at_ 0 x rfl
  rw [h1] at h; cases h
end
theorem xF {P : Program} {n : Nat} {env : Nat → Value} {w : World} {fn : Func} {R : Ending → World → Prop} {s t b i : Nat} {cs : List Value} {v : Value} (hr : fn.results = #[.cell s t, .tmp i]) (hs : Nat.blt s n = true) (hi : Nat.blt i n = true) (hv : env s = .pointer (some ⟨b, 0, none⟩)) (hiv : env i = v) (ha : (P.underlying t).map aggD = some true) (hz : (P.info? t).map (·.size) = some cs.length)
  (hc : ∀ j u, cs[j]? = some u → w.cell? ⟨b, 0 + j, none⟩ = some u) (h : R (.returned (.tuple #[.agg cs.toArray, v])) w) : bodyPost P fn R .ret (F n env) w := by
 have h2 : s < n := by simpa [Nat.blt_eq] using hs
 have h3 : i < n := by simpa [Nat.blt_eq] using hi
 have hcell : ∀ j u, cs[j]? = some u → w.cell? ((⟨b, 0, none⟩ : Addr).add j) = some u := fun j u hj => by
  have := hc j u hj
  simp only [Addr.add]
  split
  ·simp_all
  ·exact this
 have hlv : (loadVar t ⟨b, 0, none⟩).run P w = .ok (.agg cs.toArray) w := by
  unfold loadVar
  simp only [Sem.run_bind, jG ha, Result.andThen_ok, if_true, qC hz, run_loadCells_list (P := P) w ⟨b, 0, none⟩ cs hcell, Sem.run_pure]
 refine bodyPost_ret (v := .tuple #[.agg cs.toArray, v]) ?_ rfl h
 have he : (F n env).tmps[s]?.getD undef = .pointer (some ⟨b, 0, none⟩) := by simp [F, h2, hv]
 have he2 : (F n env).tmps[i]?.getD undef = v := by simp [F, h3, hiv]
 simp [results, hr, he, he2, asAddr, hlv]
section
variable {en er e lo hi lo' hi' : Nat} {G Gx G' : Pin} {w w' : World} {u v : Value} {ns : List Nd} {ls rs : List (List Int)}
theorem vH (hP : Pins G w) (hx : Ext noS Gx w G' w') : Ext noS G w G w' := ⟨cJ _, hP.below hx.below, fun _ _ _ h => cF h, hx.os, hx.tape, hx.output, hx.size, hx.block⟩
end
section
variable {P : Program} {ρ : Operand → Value} {w : World} {d : Option Nat} {t e ty : Nat} {pos : String} {aft : Array Edge} {g : Option (Nat × Bool)} {x y : Operand}
variable {m : Nat}
theorem nR {t' : Nat} {p : Bool} (ht : P.underlying t = some .bool) (hx : ρ x = .bool p) (hy : ρ y = .bool p) : (execOp ρ ⟨d, .binOp .neq t x y t', ty, pos, aft, g⟩).run P w = .ok (.value (.bool false)) w := by
 rw [r_neqB ht hx hy]; simp
theorem r_buildA {parts : Array (Nat × Operand)} {n : Nat} {z : Value} (zs cs : List Value) (ps : List (Nat × Value × List Value)) (ht : P.underlying t = some (.array n e)) (hz : (P.info? t).bind (·.zero) = some z) (hzc : z.cells.toList = zs)
  (he : (P.info? e).map (·.size) = some m) (hpt : (parts.toList.map fun (i, x) => (i, ρ x)) = ps.map fun p => (p.1, p.2.1)) (hc : ∀ p ∈ ps, p.2.1.cells = p.2.2.toArray)
  (hf : fillL (fun i => some (i * m, m)) zs (ps.map fun p => (p.1, p.2.2)) = some cs) :
  (execOp ρ ⟨d, .build t parts, ty, pos, aft, g⟩).run P w = .ok (.value (.agg cs.toArray)) w := by
 obtain ⟨it, hit, hzz⟩ := Option.bind_eq_some_iff.1 hz
 obtain ⟨ie, hie, hm⟩ := Option.map_eq_some_iff.1 he
 subst hm
 have hb : P.built t (parts.map fun (i, x) => (i, ρ x)).toList = some cs.toArray := by
  unfold Program.built
  rw [hit, ht]
  simp only [hzz, hie]
  rw [Array.toList_map, hpt]
  have := rD hc hf
  rw [← hzc] at this
  exact this
 have := Go.run_build (P := P) w t (parts.map fun (i, x) => (i, ρ x)) cs.toArray hb
 simp [execOp, this]
theorem r_idxb {b o n k : Nat} {z : Int} (ht : P.underlying t = some (.array n e)) (hs : (P.info? e).map (·.size) = some m) (hx : ρ x = .pointer (some ⟨b, o, none⟩)) (hy : ρ y = .int .i64 z) (h0 : 0 ≤ z) (h1 : z < n) (hk : o + z.toNat * m = k) :
  (execOp ρ ⟨d, .indexAddr t x y, ty, pos, aft, g⟩).run P w = .ok (.value (.pointer (some ⟨b, k, none⟩))) w := by
 subst hk
 have hadd : (⟨b, o, none⟩ : Addr).add (z.toNat * m) = ⟨b, o + z.toNat * m, none⟩ := by
  simp only [Addr.add]
  split <;> simp_all
 simp [execOp, hx, hy, Instr.indexAt, asIntOf, Instr.sureAddr, run_underlying ht, h0, h1, qC hs, hadd]
end
variable {ns : List Nd} {i : Nat}
theorem mC {l : List Int} {b : Int} (h : goodOpts l b = true) : l.length ≤ 24 := by
 unfold goodOpts at h
 split at h
 ·cases h
 ·omega
theorem GoodP.lenl (hg : GoodP ns) (hi : i < ns.length) : (ns.getD i default).l.length ≤ 24 := mC (hg.opts i hi).1
theorem GoodP.lenr (hg : GoodP ns) (hi : i < ns.length) : (ns.getD i default).r.length ≤ 24 := mC (hg.opts i hi).2
end Go.GL
namespace Go.GL
open Go Go.RowKit
section
variable {en e lo hi : Nat} {G G' : Pin} {w w' : World} {v : Value} {ns : List Nd}
theorem DForm.extS {S : Nat → Prop} (h : DForm en e G w lo hi v ns) (hx : Ext S G w G' w') (hS : ∀ k, lo ≤ k → k < hi → ¬ S k) : DForm en e G' w' lo hi v ns := by
 obtain ⟨ps, h1, h2, h3, h4, h5⟩ := h.ex
 exact ⟨⟨ps, h1, h2.extS hx (fun k hk => hS k (h2.lt k hk).1 (h3 k hk)), h3, h4.extS hx hS, h5⟩⟩
end
def DCh (en e : Nat) (G : Pin) (w : World) (R : Option Nat) : Nat → Nat → List Value → List (List Nd) → Prop
 | lo, hi, [], [] => lo ≤ hi
 | lo, hi, u :: us, f :: fs => ∃ l m, lo ≤ l ∧ l ≤ m ∧ (∀ b, R = some b → m ≤ b ∨ b < l) ∧ DForm en e G w l m u f ∧ DCh en e G w R m hi us fs
 | _, _, _, _ => False
section
variable {en e : Nat} {G G' : Pin} {w w' : World} {R R' : Option Nat}
theorem DCh.le : ∀ {lo hi : Nat} {us : List Value} {fs : List (List Nd)}, DCh en e G w R lo hi us fs → lo ≤ hi
 | _, _, [], [], h => h
 | _, _, _ :: _, _ :: _, ⟨_, _, h1, h2, _, _, h3⟩ => cR (cR h1 h2) h3.le
 | _, _, [], _ :: _, h => h.elim
 | _, _, _ :: _, [], h => h.elim
theorem DCh.map : ∀ {lo hi : Nat} {us : List Value} {fs : List (List Nd)}, DCh en e G w R lo hi us fs → (∀ l m u f, lo ≤ l → m ≤ hi → (∀ b, R = some b → m ≤ b ∨ b < l) → DForm en e G w l m u f → DForm en e G' w' l m u f) → DCh en e G' w' R lo hi us fs
 | _, _, [], [], h, _ => h
 | lo, hi, u :: us, f :: fs, ⟨l, m, h1, h0, hr, h2, h3⟩, hf => ⟨l, m, h1, h0, hr, hf _ _ _ _ h1 h3.le hr h2, h3.map fun l k u f hl hk hd => hf l k u f (by omega) hk hd⟩
 | _, _, [], _ :: _, h, _ => h.elim
 | _, _, _ :: _, [], h, _ => h.elim
end
def lastN (ns : List Nd) : Nd := ns.getD (ns.length - 1) default
def partS (ns : List Nd) (i : Int) : List Nd := formM (addM [] [] ns).2.1 (addM [] [] ns).2.2 ((addM [] [] ns).1.getD i.toNat 0).toNat
theorem jV {ns : List Nd} (hg : GoodP ns) : FormOk ns := fH (good_iff.2 hg).fits (good_iff.2 hg).rise
section
variable {en ef e lo hi lo' hi' : Nat} {G G' : Pin} {w w' : World} {v : Value} {ns : List Nd} {us : List Value} {fs : List (List Nd)} {R : Option Nat}
theorem DCh.at : ∀ {lo hi j : Nat} {us : List Value} {fs : List (List Nd)}, DCh en e G w R lo hi us fs → j < fs.length → ∃ l m, lo ≤ l ∧ m ≤ hi ∧ (∀ b, R = some b → m ≤ b ∨ b < l) ∧ DForm en e G w l m (us.getD j default) (fs.getD j []) ∧
  ∀ {w' : World} {f' : List Nd}, Ext (inR l m) G w G w' → DForm en e G w' l m (us.getD j default) f' → DCh en e G w' R lo hi us (fs.set j f')
 | lo, hi, 0, u :: us, f :: fs, ⟨l, m, h1, h0, hr, h2, h3⟩, _ => ⟨l, m, h1, h3.le, hr, h2, fun hx hd => ⟨l, m, h1, h0, hr, hd, h3.map fun _ _ _ _ hl _ _ hq => hq.extS hx fun k n _ a => by have := a.2; omega⟩⟩
 | lo, hi, j + 1, u :: us, f :: fs, ⟨l0, m0, h1, h0, hr, h2, h3⟩, hj => by
  obtain ⟨l, k, o, c, d, g, i⟩ := h3.at (j := j) (by simpa using hj)
  exact ⟨l, k, by omega, c, d, by simpa using g, fun hx hd => ⟨l0, m0, h1, h0, hr, h2.extS hx fun q _ p a => by have := a.1; omega, i hx (by simpa using hd)⟩⟩
 | _, _, _, [], [], _, hj => (by simp at hj)
 | _, _, _, [], _ :: _, h, _ => h.elim
 | _, _, _, _ :: _, [], h, _ => h.elim
end
variable {j : Nat}
theorem cur_set {α : Type} {A B : List α} {x : α} (d : α) (hl : A.length = B.length) (h : j < B.length) (hx : A.getD j d = x) : (A.take j ++ B.drop j).set j x = A.take (j + 1) ++ B.drop (j + 1) := by
 subst hx
 rw [List.set_append_right _ _ (by simp; omega), xA B d h, jF A d (by omega), show j - (List.take j A).length = 0 by simp; omega, List.set_cons_zero, List.append_assoc]; rfl
theorem cur_end {α : Type} {A B : List α} (hl : A.length = B.length) (h : B.length ≤ j) : A.take j ++ B.drop j = A := by
 rw [List.drop_eq_nil_of_le h, List.append_nil, List.take_of_length_le (by omega)]
end Go.GL
namespace Go.GL
variable {l : List Int} {k : Nat}
theorem kO : ∀ {is : List Bool}, is.getD k false = true → (setAll is l).getD k false = true := by
 induction l with
 | nil => intro is h; exact h
 | cons x r ih =>
  intro is h
  refine ih (is := is.set x.toNat true) ?_
  rw [List.getD, List.getElem?_set]
  split
  ·split
   ·rfl
   ·rename_i h1 h2; subst h1; simp [List.getD, Nat.le_of_not_lt h2] at h
  ·exact h
theorem sI {k : Int} : ∀ {is : List Bool}, k ∈ l → k.toNat < is.length → (setAll is l).getD k.toNat false = true := by
 induction l with
 | nil => intro is h; cases h
 | cons x r ih =>
  intro is h hk
  cases h with
  | head => exact kO (is := is.set k.toNat true) (by simp [List.getD, hk])
  | tail _ h => exact ih (is := is.set x.toNat true) h (by simpa using hk)
theorem rO {z : Nat} : ∀ {is : List Bool}, (∀ k ∈ l, k.toNat ≠ z) → (setAll is l).getD z false = is.getD z false := by
 induction l with
 | nil => intro is _; rfl
 | cons x r ih =>
  intro is h
  have h1 := ih (is := is.set x.toNat true) fun k hk => h k (List.mem_cons_of_mem _ hk)
  have h2 := h x List.mem_cons_self
  refine h1.trans ?_
  simp [List.getD, List.getElem?_set_ne h2]
theorem sJ {B : List Bool} : ∀ {A : List Bool}, (∀ k ∈ l, k.toNat < A.length) → setAll (A ++ B) l = setAll A l ++ B := by
 induction l with
 | nil => intro A _; rfl
 | cons x r ih =>
  intro A h
  have h1 : (A ++ B).set x.toNat true = A.set x.toNat true ++ B := List.set_append_left _ _ (h x List.mem_cons_self)
  show setAll ((A ++ B).set x.toNat true) r = setAll (A.set x.toNat true) r ++ B
  rw [h1]
  exact ih fun k hk => by rw [cT]; exact h k (List.mem_cons_of_mem _ hk)
theorem ustep_mono {ns : List Nd} {is : List Bool} {i : Nat} (h : is.getD k false = true) : (ustep ns is i).getD k false = true := by
 unfold ustep; split
 ·exact kO (kO h)
 ·exact h
theorem gH {ns : List Nd} : ∀ {q : Nat} {is : List Bool} {k : Nat}, is.getD k false = true → (ugo ns q is).getD k false = true
 | 0, _, _, h => h
 | q + 1, is, _, h => gH (q := q) (is := ustep ns is q) (ustep_mono h)
section
variable {ns : List Nd} (ho : OptsOk ns)
include ho
variable {i z m : Nat}
theorem sB {is : List Bool} (hi : i < ns.length) (hz : i ≤ z) : (ustep ns is i).getD z false = is.getD z false := by
 have o := xB ho hi
 unfold ustep; split
 ·rw [rO fun k hk => by have := o.2 k hk; omega, rO fun k hk => by have := o.1 k hk; omega]
 ·rfl
theorem ugo_keep : ∀ {q : Nat} {is : List Bool} {z : Nat}, q ≤ ns.length → q ≤ z + 1 → (ugo ns q is).getD z false = is.getD z false
 | 0, _, _, _, _ => rfl
 | q + 1, is, z, h, hz => (ugo_keep (q := q) (is := ustep ns is q) (by omega) (by omega)).trans (sB ho (by omega) (by omega))
theorem tY : ∀ {q : Nat} {is : List Bool}, q ≤ ns.length → q ≤ is.length → ∀ z, z < q → (ugo ns q is).getD z false = true →
  (∀ o ∈ (ns.getD z default).l, (ugo ns q is).getD o.toNat false = true) ∧ (∀ o ∈ (ns.getD z default).r, (ugo ns q is).getD o.toNat false = true)
 | 0, _, _, _, z, hz, _ => absurd hz (cK z)
 | q + 1, is, h, hl, z, hz, hu => by
  have hul : (ustep ns is q).length = is.length := by
   unfold ustep; split
   ·rw [xZ, xZ]
   ·rfl
  by_cases he : z = q
  ·subst he
   have hu2 : is.getD z false = true := by
    rw [← sB ho (i := z) (z := z) (is := is) (by omega) (cH _), ← ugo_keep ho (q := z) (is := ustep ns is z) (by omega) (by omega)]
    exact hu
   have o := xB ho (k := z) (by omega)
   have e : ustep ns is z = setAll (setAll is (ns.getD z default).l) (ns.getD z default).r := tF hu2
   refine ⟨fun x hx => gH (q := z) (is := ustep ns is z) ?_, fun x hx => gH (q := z) (is := ustep ns is z) ?_⟩
   ·rw [e]; exact kO (sI hx (by have := o.1 x hx; omega))
   ·rw [e]; exact sI hx (by rw [xZ]; have := o.2 x hx; omega)
  ·exact tY (q := q) (is := ustep ns is q) (by omega) (by omega) z (by omega) hu
theorem ustep_app {A B : List Bool} (hi : i < ns.length) (hA : i < A.length) : ustep ns (A ++ B) i = ustep ns A i ++ B := by
 have o := xB ho hi
 have e : (A ++ B).getD i false = A.getD i false := by simp [List.getD, List.getElem?_append_left hA]
 unfold ustep
 rw [e]; split
 ·rw [sJ fun k hk => by have := o.1 k hk; omega, sJ fun k hk => by rw [xZ]; have := o.2 k hk; omega]
 ·rfl
theorem ugo_app : ∀ {q : Nat} {A B : List Bool}, q ≤ ns.length → q ≤ A.length → ugo ns q (A ++ B) = ugo ns q A ++ B
 | 0, _, _, _, _ => rfl
 | q + 1, A, B, h, hA => by
  have hul : (ustep ns A q).length = A.length := by
   unfold ustep; split
   ·rw [xZ, xZ]
   ·rfl
  show ugo ns q (ustep ns (A ++ B) q) = ugo ns q (ustep ns A q) ++ B
  rw [ustep_app ho (by omega) (by omega)]
  exact ugo_app (by omega) (by omega)
theorem used_reach (hm : m < ns.length) (hz : z ≤ m) : (usedM ns m).getD z false = (reachM ns m).getD z false := by
 have e : (List.replicate ns.length false).set m true = (List.replicate (m + 1) false).set m true ++ List.replicate (ns.length - (m + 1)) false := by
  rw [← List.set_append_left _ _ (by simp), List.replicate_append_replicate]
  congr 2; omega
 unfold usedM reachM
 rw [e, ugo_app ho (by omega) (by simp)]
 have hl : z < (ugo ns (m + 1) ((List.replicate (m + 1) false).set m true)).length := by rw [sC]; simp; omega
 simp [List.getD, List.getElem?_append_left hl]
theorem used_closed (hm : m < ns.length) (hz : z ≤ m) (hu : (usedM ns m).getD z false = true) :
  (∀ o ∈ (ns.getD z default).l, (usedM ns m).getD o.toNat false = true) ∧ (∀ o ∈ (ns.getD z default).r, (usedM ns m).getD o.toNat false = true) :=
 tY ho (by omega) (by simp; omega) z (by omega) hu
end
def posU (u : Nat → Bool) (z : Nat) : Nat := (List.range z).countP u
def renL (u : Nat → Bool) (l : List Int) : List Int := l.map fun k => (posU u k.toNat : Int)
def nodeU (u : Nat → Bool) (ns : List Nd) (z : Nat) : Nd := ⟨renL u (ns.getD z default).l, renL u (ns.getD z default).r⟩
def partN (u : Nat → Bool) (ns : List Nd) (k : Nat) : List Nd := ((List.range k).filter u).map (nodeU u ns)
theorem posU_succ (u : Nat → Bool) (z : Nat) : posU u (z + 1) = posU u z + (if u z = true then 1 else 0) := by
 unfold posU; rw [List.range_succ, List.countP_append]; simp [List.countP_cons]
variable {u : Nat → Bool} {x y m : Nat}
theorem posU_le (h : x ≤ y) : posU u x ≤ posU u y := by
 induction y with
 | zero => rw [Nat.le_zero.1 h]; exact cH _
 | succ y ih =>
  by_cases he : x = y + 1
  ·rw [he]; exact cH _
  ·have := ih (by omega); rw [posU_succ]; omega
theorem posU_lt (h : x < y) (hu : u x = true) : posU u x < posU u y := by
 have h1 := posU_succ u x
 rw [if_pos hu] at h1
 have := posU_le (u := u) (show x + 1 ≤ y by omega)
 omega
theorem sS (u : Nat → Bool) (z : Nat) : posU u z ≤ z := by
 have := List.countP_le_length (p := u) (l := List.range z)
 simpa [posU] using this
theorem rT (u : Nat → Bool) (ns : List Nd) (k : Nat) : (partN u ns k).length = posU u k := by
 unfold partN posU; rw [List.length_map, List.countP_eq_length_filter]
theorem sel_pos : ∀ n i, i < ((List.range n).filter u).length → posU u (((List.range n).filter u).getD i 0) = i := by
 intro n
 induction n with
 | zero => intro i hi; simp at hi
 | succ n ih =>
  intro i hi
  rw [List.range_succ, List.filter_append] at hi ⊢
  have hln : ((List.range n).filter u).length = posU u n := (List.countP_eq_length_filter ..).symm
  by_cases h : i < ((List.range n).filter u).length
  ·have e : ((List.range n).filter u ++ [n].filter u).getD i 0 = ((List.range n).filter u).getD i 0 := by simp only [List.getD, List.getElem?_append_left h]
   rw [e]; exact ih i h
  ·by_cases hu : u n = true
   ·have e1 : [n].filter u = [n] := by simp [hu]
    rw [e1] at hi ⊢
    have hi2 : i = ((List.range n).filter u).length := by rw [List.length_append] at hi; simp only [List.length_cons, List.length_nil] at hi; omega
    have e : ((List.range n).filter u ++ [n]).getD i 0 = n := by rw [hi2]; simp [List.getD]
    rw [e, hi2, hln]
   ·have e1 : [n].filter u = [] := by simp [hu]
    rw [e1, List.append_nil] at hi; exact absurd hi h
theorem eM {u : Nat → Bool} : ∀ {a b : List Int}, (∀ x ∈ a, 0 ≤ x ∧ u x.toNat = true) → (∀ x ∈ b, 0 ≤ x ∧ u x.toNat = true) → cmpL (renL u a) (renL u b) = cmpL a b
 | [], [], _, _ => rfl
 | [], _ :: _, _, _ => rfl
 | _ :: _, [], _, _ => rfl
 | x :: a, y :: b, ha, hb => by
  have ih := eM (a := a) (b := b) (fun z hz => ha z (List.mem_cons_of_mem _ hz)) (fun z hz => hb z (List.mem_cons_of_mem _ hz))
  have hx := ha x List.mem_cons_self; have hy := hb y List.mem_cons_self
  have e : cmpI (posU u x.toNat : Int) (posU u y.toNat : Int) = cmpI x y := by
   by_cases h1 : x < y
   ·have := posU_lt (u := u) (show x.toNat < y.toNat by omega) hx.2
    unfold cmpI; rw [if_pos (by omega), if_pos h1]
   ·by_cases h2 : y < x
    ·have := posU_lt (u := u) (show y.toNat < x.toNat by omega) hy.2
     unfold cmpI; rw [if_neg (by omega), if_pos (by omega), if_neg h1, if_pos h2]
    ·have : x = y := by omega
     subst this
     rw [cmpI_zero.2 rfl, cmpI_zero.2 rfl]
  show cmpL ((posU u x.toNat : Int) :: renL u a) ((posU u y.toNat : Int) :: renL u b) = _
  rw [cmpL, cmpL, e, ih]
theorem ahead_ren {ns : List Nd} (hx : (∀ o ∈ (ns.getD x default).l, 0 ≤ o ∧ u o.toNat = true) ∧ (∀ o ∈ (ns.getD x default).r, 0 ≤ o ∧ u o.toNat = true))
  (hy : (∀ o ∈ (ns.getD y default).l, 0 ≤ o ∧ u o.toNat = true) ∧ (∀ o ∈ (ns.getD y default).r, 0 ≤ o ∧ u o.toNat = true)) : aheadI (nodeU u ns x) (nodeU u ns y) = aheadI (ns.getD x default) (ns.getD y default) := by
 unfold aheadI nodeU
 simp only [eM hx.1 hy.1, eM hx.2 hy.2]
theorem renL_rise {l : List Int} {hi : Int} (hr : Rise l 0 hi) (hu : ∀ x ∈ l, u x.toNat = true) : Rise (renL u l) 0 hi := fun i h => by
 have hl : i < l.length := by simpa [renL] using h
 have e : ∀ j, j < l.length → (renL u l).getD j 0 = (posU u (l.getD j 0).toNat : Int) := fun j hj => by simp [renL, List.getD, hj]
 have h1 := hr i hl
 have h2 := sS u (l.getD i 0).toNat
 rw [e i hl]
 refine ⟨⟨by omega, by omega⟩, fun h0 => ?_⟩
 have h3 := h1.2 h0
 have h4 := hr (i - 1) (by omega)
 rw [e (i - 1) (by omega)]
 have := posU_lt (u := u) (show (l.getD (i - 1) 0).toNat < (l.getD i 0).toNat by omega) (hu _ (yE (by omega)))
 omega
theorem gC : ∀ {a b : List Int}, a.Pairwise (· < ·) → b.Pairwise (· < ·) → (∀ z, z ∈ a ↔ z ∈ b) → a = b
 | [], [], _, _, _ => rfl
 | [], y :: b, _, _, h => by have := (h y).2 List.mem_cons_self; cases this
 | x :: a, [], _, _, h => by have := (h x).1 List.mem_cons_self; cases this
 | x :: a, y :: b, ha, hb, h => by
  have ha' := List.pairwise_cons.1 ha; have hb' := List.pairwise_cons.1 hb
  have e : x = y := by
   have h1 := (h x).1 List.mem_cons_self; have h2 := (h y).2 List.mem_cons_self
   cases h1 with
   | head => rfl
   | tail _ h1 =>
    cases h2 with
    | head => rfl
    | tail _ h2 => have := ha'.1 y h2; have := hb'.1 x h1; omega
  subst e
  congr 1
  refine gC ha'.2 hb'.2 fun z => ⟨fun hz => ?_, fun hz => ?_⟩
  ·have := (h z).1 (List.mem_cons_of_mem _ hz)
   cases this with
   | head => have := ha'.1 _ hz; omega
   | tail _ h1 => exact h1
  ·have := (h z).2 (List.mem_cons_of_mem _ hz)
   cases this with
   | head => have := hb'.1 _ hz; omega
   | tail _ h1 => exact h1
theorem eZ {p : Nat → Prop} : ∀ {n : Nat}, (∀ i j, i < j → j < n → p j → p i) → ∃ s, s ≤ n ∧ ∀ k, k < n → (p k ↔ k < s)
 | 0, _ => ⟨0, cH _, fun k hk => absurd hk (cK k)⟩
 | n + 1, h => by
  obtain ⟨s, h1, h2⟩ := eZ (n := n) fun i j hi hj => h i j hi (by omega)
  by_cases hp : p n
  ·refine ⟨n + 1, cH _, fun k hk => ⟨fun _ => hk, fun _ => ?_⟩⟩
   by_cases he : k = n
   ·subst he; exact hp
   ·exact h k n (by omega) (by omega) hp
  ·refine ⟨s, by omega, fun k hk => ?_⟩
   by_cases he : k = n
   ·subst he; exact ⟨fun h3 => absurd h3 hp, fun h3 => by omega⟩
   ·exact h2 k (by omega)
theorem go_part {ns : List Nd} {need : List Bool} (w : Wf ns) (hs : SortedB ns (births ns)) (hm : m < ns.length) (hu : ∀ z, z ≤ m → need.getD z false = u z)
  (hc : ∀ z, z ≤ m → u z = true → (∀ o ∈ (ns.getD z default).l, u o.toNat = true) ∧ (∀ o ∈ (ns.getD z default).r, u o.toNat = true)) :
  ∀ q : Nat, ∃ s, s ≤ m + 1 ∧ (formGo ns (births ns) need (m + 1) q).2 = partN u ns s ∧ (∀ k, k < s → u k = true → (formGo ns (births ns) need (m + 1) q).1.getD k 0 = posU u k) ∧ (∀ k, k < m + 1 → ((births ns).getD k 0 < q ↔ k < s)) := by
 intro q
 induction q with
 | zero => exact ⟨0, cI _, rfl, fun k hk => absurd hk (cK k), fun k hk => by have := kW w.ok.opts (show k < ns.length by omega); omega⟩
 | succ q ih =>
  obtain ⟨s, hsl, ho, ha, hb⟩ := ih
  rw [kC]
  unfold formStep
  have hlen := go_len (ns := ns) (bs := births ns) (need := need) (m := m + 1) q
  generalize hg : formGo ns (births ns) need (m + 1) q = t at ho ha hlen
  obtain ⟨a, o⟩ := t
  simp only at ho ha hlen ⊢
  have lv := lv_ok (ns := ns) (bs := births ns) (need := need) (a := a) (b := (q : Int)) (m + 1)
  have ll := sW (ns := ns) (bs := births ns) (need := need) (a := a) (b := (q : Int)) (k := m + 1)
  generalize hr : lvM ns (births ns) need a q (m + 1) = t at lv ll
  obtain ⟨ls, fr⟩ := t
  have lm : ls = fr.map (ndz ns a) := lv.map
  have lmem : ∀ z ∈ fr, 0 ≤ z ∧ z.toNat ≤ m ∧ u z.toNat = true ∧ (births ns).getD z.toNat 0 = q := fun z hz => by
   have := lv.mem z hz; exact ⟨this.1, by omega, by rw [← hu z.toNat (by omega)]; exact this.2.2.1, this.2.2.2⟩
  have lall : ∀ j : Nat, j ≤ m → u j = true → (births ns).getD j 0 = q → (j : Int) ∈ fr := fun j hj c h => lv.all j (by omega) (by rw [hu j hj]; exact c) h
  have lnd : fr.Nodup := lv.nodup
  have lso : ls.Pairwise (fun x y => aheadI x y ≤ 0) := lv.sorted
  simp only at ll ⊢
  have hlow := kA w.ok.opts
  have hcl : ∀ z, z ≤ m → u z = true → (∀ x ∈ (ns.getD z default).l, 0 ≤ x ∧ u x.toNat = true) ∧ (∀ x ∈ (ns.getD z default).r, 0 ≤ x ∧ u x.toNat = true) := fun z hz h => by
   have c := hc z hz h; have d := hlow z (by omega)
   exact ⟨fun x hx => ⟨(d.1 x hx).1, c.1 x hx⟩, fun x hx => ⟨(d.2 x hx).1, c.2 x hx⟩⟩
  have hnd : ∀ z ∈ fr, ndz ns a z = nodeU u ns z.toNat := fun z hz => by
   have c := lmem z hz
   have d := hlow z.toNat (by omega)
   have f := hc z.toNat c.2.1 c.2.2.1
   have hri := w.rise z.toNat (by omega)
   have key : ∀ l : List Int, Rise l 0 ((z.toNat : Int) - 1) → (∀ x ∈ l, u x.toNat = true) → (∀ x ∈ l, 0 ≤ x ∧ x < z.toNat ∧ (births ns).getD x.toNat 0 < (births ns).getD z.toNat 0) → sortL (atL a l) = renL u l := fun l hr' hul hll => by
    have e : atL a l = renL u l := by
     unfold atL renL
     refine List.map_congr_left fun x hx => ?_
     have p := hll x hx
     exact ha x.toNat ((hb x.toNat (by omega)).1 (by omega)) (hul x hx)
    rw [e]; exact mP (renL_rise hr' hul)
   unfold ndz ndAt nodeU
   rw [key _ hri.1 f.1 d.1, key _ hri.2 f.2 d.2]
  have hasc : fr.Pairwise (· < ·) := by
   rw [lm, List.pairwise_map] at lso
   refine (lso.and lnd).imp_of_mem fun {x y} hx hy h => ?_
   have v := lmem x hx; have a2 := lmem y hy
   rw [hnd x hx, hnd y hy, ahead_ren (hcl _ v.2.1 v.2.2.1) (hcl _ a2.2.1 a2.2.2.1)] at h
   by_cases hxy : x < y
   ·exact hxy
   ·exfalso
    have hne : x ≠ y := h.2
    rcases hs y.toNat x.toNat (by omega) (by omega) with f | ⟨_, f⟩
    ·omega
    ·have := tN (ns.getD x.toNat default) (ns.getD y.toNat default); have := h.1; omega
  have hmono : ∀ i j, i < j → j < m + 1 → (births ns).getD j 0 < ((q + 1 : Nat) : Int) → (births ns).getD i 0 < ((q + 1 : Nat) : Int) := fun i j hij hj h => by
   rcases hs i j hij (by omega) with c | ⟨c, _⟩ <;> omega
  obtain ⟨s', ab, g⟩ := eZ hmono
  have hss : s ≤ s' := by
   by_cases h : s ≤ s'
   ·exact h
   ·have c := (hb s' (by omega)).2 (by omega)
    have d := (g s' (by omega)).1 (by omega)
    omega
  have hrange : List.range s' = List.range s ++ List.range' s (s' - s) := by
   rw [List.range_eq_range', List.range_eq_range']
   have := List.range'_append_1 (s := 0) (m := s) (n := s' - s)
   rw [cS, show s + (s' - s) = s' by omega] at this
   exact this.symm
  have hfr : fr = ((List.range' s (s' - s)).filter u).map fun z : Nat => (z : Int) := by
   refine gC hasc ?_ fun z => ?_
   ·rw [List.pairwise_map]
    exact ((List.pairwise_lt_range' ..).filter _).imp fun h => by omega
   ·rw [List.mem_map]
    constructor
    ·intro hz
     have c := lmem z hz
     refine ⟨z.toNat, List.mem_filter.2 ⟨List.mem_range'_1.2 ?_, c.2.2.1⟩, by omega⟩
     have d := hb z.toNat (by omega)
     have f := (g z.toNat (by omega)).1 (by omega)
     refine ⟨?_, by omega⟩
     by_cases p : s ≤ z.toNat
     ·exact p
     ·have := d.2 (by omega); omega
    ·rintro ⟨x, hx, rfl⟩
     have c := List.mem_filter.1 hx
     have d := List.mem_range'_1.1 c.1
     have f := hb x (by omega)
     have p := (g x (by omega)).2 (by omega)
     refine lall x (by omega) c.2 ?_
     have : ¬ (births ns).getD x 0 < q := fun h => by have := f.1 h; omega
     omega
  have hpart : partN u ns s' = partN u ns s ++ ls := by
   have e : ls = ((List.range' s (s' - s)).filter u).map (nodeU u ns) := by
    rw [lm, List.map_congr_left hnd, hfr, List.map_map]; rfl
   rw [e]; unfold partN
   rw [hrange, List.filter_append, List.map_append]
  refine ⟨s', ab, ?_, fun k hk huk => ?_, g⟩
  ·rw [fA ll, ho, hpart]
  ·by_cases hks : k < s
   ·rw [vR fun z hz he => by have c := lmem z hz; have d := (hb k (by omega)).2 hks; rw [he] at c; omega]
    exact ha k hks huk
   ·have hkm : k ∈ (List.range' s (s' - s)).filter u := List.mem_filter.2 ⟨List.mem_range'_1.2 ⟨by omega, by omega⟩, huk⟩
    obtain ⟨i, hi, hik⟩ := List.getElem_of_mem hkm
    have hfi : fr.getD i 0 = (k : Int) := by rw [hfr]; simp [List.getD, hi, hik]
    have hil : i < fr.length := by rw [hfr]; simpa using hi
    have d := rS (o := o) (a := a) ll lnd (fun z hz => by have := lmem z hz; omega) hil
    rw [hfi] at d
    have f : o.length = posU u s := by rw [ho, rT]
    rw [show ((k : Int)).toNat = k by omega] at d
    rw [d, f]
    have hsel := sel_pos (u := u) s' (posU u s + i) (by
     rw [hrange, List.filter_append, List.length_append, ← List.countP_eq_length_filter]
     exact Nat.add_lt_add_left hi _)
    have e : ((List.range s').filter u).getD (posU u s + i) 0 = k := by
     rw [hrange, List.filter_append]
     have hl : ((List.range s).filter u).length = posU u s := (List.countP_eq_length_filter ..).symm
     rw [List.getD, List.getElem?_append_right (by omega), hl]
     simp [hi, hik]
    rw [e] at hsel
    omega
noncomputable def useU (ns : List Nd) (m : Nat) : Nat → Bool := fun j => (usedM ns m).getD j false
noncomputable def partI (ns : List Nd) (m : Nat) : List Nd := partN (useU ns m) ns (m + 1)
theorem wf_good {ns : List Nd} (h : GoodP ns) : Wf ns ∧ SortedB ns (births ns) ∧ Diff ns := by
 have hg := good_iff.2 h
 have w : Wf ns := ⟨fH hg.fits hg.rise, hg.rise⟩
 have hs := sH h.sorted
 refine ⟨w, hs, fun i j hij hj he => ?_⟩
 have hb := qL w.ok.opts
 rcases hs i j hij hj with h1 | ⟨_, h1⟩
 ·rw [hb.2 i (by omega), hb.2 j hj, he] at h1; omega
 ·rw [ahead_zero.2 he] at h1; omega
theorem part_form {ns : List Nd} (h : GoodP ns) (hm : m < ns.length) : formM ns (births ns) m = partI ns m := by
 obtain ⟨w, hs, hd⟩ := wf_good h
 obtain ⟨s, h1, h2, _, h4⟩ := go_part (u := useU ns m) w hs hm (fun z hz => (used_reach w.ok.opts hm hz).symm) (fun z hz hu => used_closed w.ok.opts hm hz hu) (((births ns).getD m 0).toNat + 1)
 have hn := kW w.ok.opts hm
 have h5 := (h4 m (by omega)).1 (by omega)
 unfold formM partI
 rw [h2, show s = m + 1 by omega]
theorem part_eq {ns : List Nd} (h : GoodP ns) {z : Int} (hz : 0 ≤ z ∧ z < ns.length) : partS ns z = partI ns z.toNat := by
 obtain ⟨w, hs, hd⟩ := wf_good h
 unfold partS
 rw [fK w hd]
 simp only
 rw [gU (show z.toNat < ns.length by omega), show ((z.toNat : Int)).toNat = z.toNat by omega]
 exact part_form h (by omega)
theorem partI_len (ns : List Nd) (m : Nat) : (partI ns m).length ≤ m + 1 := by
 unfold partI; rw [rT]; exact sS _ _
end Go.GL
namespace Go.GL
def loG (g i : Nat) : Prop := g.testBit (2 * i) = true
def roG (g i : Nat) : Prop := g.testBit (2 * i + 1) = true
variable {g i a b : Nat} {l r : List Nat}
theorem bit_lt {k : Nat} (h : g.testBit k = true) : k < g := Nat.lt_of_lt_of_le Nat.lt_two_pow_self (Nat.ge_two_pow_of_testBit h)
theorem loG.lt (h : loG g i) : i < g := by have := bit_lt h; omega
theorem roG.lt (h : roG g i) : i < g := by have := bit_lt h; omega
theorem gext (hl : ∀ i, loG a i ↔ loG b i) (hr : ∀ i, roG a i ↔ roG b i) : a = b := by
 apply Nat.eq_of_testBit_eq
 intro k
 rcases Nat.mod_two_eq_zero_or_one k with h | h
 ·have e : k = 2 * (k / 2) := by omega
  have := hl (k / 2)
  unfold loG at this
  rw [← e] at this
  exact Bool.eq_iff_iff.2 this
 ·have e : k = 2 * (k / 2) + 1 := by omega
  have := hr (k / 2)
  unfold roG at this
  rw [← e] at this
  exact Bool.eq_iff_iff.2 this
def lefts (g : Nat) : List Nat := (List.range g).filter fun i => g.testBit (2 * i)
def rights (g : Nat) : List Nat := (List.range g).filter fun i => g.testBit (2 * i + 1)
theorem memG_l : i ∈ lefts g ↔ loG g i := by
 unfold lefts
 rw [List.mem_filter, List.mem_range]
 exact ⟨fun h => h.2, fun h => ⟨loG.lt h, h⟩⟩
theorem memG_r : i ∈ rights g ↔ roG g i := by
 unfold rights
 rw [List.mem_filter, List.mem_range]
 exact ⟨fun h => h.2, fun h => ⟨roG.lt h, h⟩⟩
def bitsG : List Nat → Nat
 | [] => 0
 | k :: l => 2 ^ k ||| bitsG l
theorem bits_at {k : Nat} : ∀ {l : List Nat}, (bitsG l).testBit k = true ↔ k ∈ l
 | [] => by simp [bitsG]
 | x :: l => by
  unfold bitsG
  rw [Nat.testBit_or, Bool.or_eq_true, bits_at (l := l), Nat.testBit_two_pow]
  simp only [decide_eq_true_eq, List.mem_cons]
  constructor
  ·rintro (h | h)
   ·exact cF h.symm
   ·exact cG h
  ·rintro (h | h)
   ·exact cF h.symm
   ·exact cG h
def mkG (l r : List Nat) : Nat := bitsG (l.map (2 * ·) ++ r.map (2 * · + 1))
theorem lo_mk : loG (mkG l r) i ↔ i ∈ l := by
 unfold loG mkG
 rw [bits_at, List.mem_append, List.mem_map, List.mem_map]
 constructor
 ·rintro (⟨a, ha, e⟩ | ⟨a, ha, e⟩)
  ·have : a = i := by omega
   rwa [← this]
  ·omega
 ·exact fun h => cF ⟨i, h, rfl⟩
theorem ro_mk : roG (mkG l r) i ↔ i ∈ r := by
 unfold roG mkG
 rw [bits_at, List.mem_append, List.mem_map, List.mem_map]
 constructor
 ·rintro (⟨a, ha, e⟩ | ⟨a, ha, e⟩)
  ·omega
  ·have : a = i := by omega
   rwa [← this]
 ·exact fun h => cG ⟨i, h, rfl⟩
theorem sV {l' r' : List Nat} (hl : ∀ i, i ∈ l ↔ i ∈ l') (hr : ∀ i, i ∈ r ↔ i ∈ r') : mkG l r = mkG l' r' :=
 gext (fun i => by rw [lo_mk, lo_mk]; exact hl i) (fun i => by rw [ro_mk, ro_mk]; exact hr i)
def geG (a b : Nat) : Prop := (∀ r, (_h : roG a r) → ¬ geG b r) ∧ (∀ l, (_h : loG b l) → ¬ geG l a)
termination_by a + b
decreasing_by
 ·have := _h.lt; omega
 ·have := _h.lt; omega
theorem ge_iff : geG a b ↔ (∀ r, roG a r → ¬ geG b r) ∧ (∀ l, loG b l → ¬ geG l a) := by
 rw [geG]
theorem ge_not (h : ¬ geG a b) : (∃ r, roG a r ∧ geG b r) ∨ ∃ l, loG b l ∧ geG l a := by
 rw [ge_iff] at h
 by_cases h1 : ∃ r, roG a r ∧ geG b r
 ·exact cF h1
 ·right
  apply Classical.byContradiction
  intro h2
  exact h ⟨fun r hr hg => h1 ⟨r, hr, hg⟩, fun l hl hg => h2 ⟨l, hl, hg⟩⟩
theorem jM (a : Nat) : geG a a := by
 induction a using Nat.strongRecOn with
 | _ a ih =>
  rw [ge_iff]
  refine ⟨fun r hr hg => ?_, fun l hl hg => ?_⟩
  ·exact (ge_iff.1 hg).1 r hr (ih r hr.lt)
  ·exact (ge_iff.1 hg).2 l hl (ih l hl.lt)
theorem rC : ∀ (n a b c : Nat), a + b + c ≤ n → geG a b → geG b c → geG a c
 | 0, a, b, c, hn, h, k => by
  have : a = 0 := by omega
  have : c = 0 := by omega
  subst a c; exact jM 0
 | n + 1, a, b, c, hn, h, k => by
  rw [ge_iff]
  refine ⟨fun r hr hg => ?_, fun l hl hg => ?_⟩
  ·have := hr.lt
   exact (ge_iff.1 h).1 r hr (rC n b c r (by omega) k hg)
  ·have := hl.lt
   exact (ge_iff.1 k).2 l hl (rC n l a b (by omega) hg h)
theorem xI {c : Nat} (h : geG a b) (k : geG b c) : geG a c := rC _ a b c (cH _) h k
def eqG (a b : Nat) : Prop := geG a b ∧ geG b a
theorem eqG.refl (a : Nat) : eqG a a := ⟨jM a, jM a⟩
theorem eqG.symm (h : eqG a b) : eqG b a := ⟨h.2, h.1⟩
theorem eqG.trans {c : Nat} (h : eqG a b) (k : eqG b c) : eqG a c := ⟨xI h.1 k.1, xI k.2 h.2⟩
theorem vS {l : Nat} (h : loG g l) : ¬ geG l g := (ge_iff.1 (jM g)).2 l h
theorem vY {r : Nat} (h : roG g r) : ¬ geG g r := (ge_iff.1 (jM g)).1 r h
def negG (g : Nat) : Nat := mkG ((rights g).attach.map fun ⟨i, _h⟩ => negG i) ((lefts g).attach.map fun ⟨i, _h⟩ => negG i)
termination_by g
decreasing_by
 ·exact (memG_r.1 _h).lt
 ·exact (memG_l.1 _h).lt
def addG (a b : Nat) : Nat :=
 mkG (((lefts a).attach.map fun ⟨i, _h⟩ => addG i b) ++ (lefts b).attach.map fun ⟨i, _h⟩ => addG a i)
  (((rights a).attach.map fun ⟨i, _h⟩ => addG i b) ++ (rights b).attach.map fun ⟨i, _h⟩ => addG a i)
termination_by a + b
decreasing_by
 ·have := (memG_l.1 _h).lt; omega
 ·have := (memG_l.1 _h).lt; omega
 ·have := (memG_r.1 _h).lt; omega
 ·have := (memG_r.1 _h).lt; omega
def NoDom (g : Nat) : Prop := (∀ a b, loG g a → loG g b → geG a b → a = b) ∧ (∀ a b, roG g a → roG g b → geG a b → a = b)
def NoRev (g : Nat) : Prop := (∀ l r, loG g l → roG l r → ¬ geG g r) ∧ (∀ r l, roG g r → loG r l → ¬ geG l g)
def CanonG (g : Nat) : Prop := NoDom g ∧ NoRev g ∧ (∀ l, (_h : loG g l) → CanonG l) ∧ (∀ r, (_h : roG g r) → CanonG r)
termination_by g
decreasing_by
 ·exact _h.lt
 ·exact _h.lt
theorem canon_iff : CanonG g ↔ NoDom g ∧ NoRev g ∧ (∀ l, loG g l → CanonG l) ∧ (∀ r, roG g r → CanonG r) := by rw [CanonG]
theorem CanonG.left {l : Nat} (h : CanonG g) (hl : loG g l) : CanonG l := (canon_iff.1 h).2.2.1 l hl
theorem CanonG.right {l : Nat} (h : CanonG g) (hl : roG g l) : CanonG l := (canon_iff.1 h).2.2.2 l hl
theorem kJ : ∀ (n a b : Nat), a + b ≤ n → CanonG a → CanonG b → eqG a b → a = b
 | 0, a, b, hn, _, _, _ => by omega
 | n + 1, a, b, hn, ha, hb, he => by
  have key : ∀ x y, x + y ≤ n + 1 → CanonG x → CanonG y → eqG x y → (∀ l, loG x l → loG y l) ∧ (∀ r, roG x r → roG y r) := by
   intro x y hxy hx hy e
   obtain ⟨dx, rx, lx, qx⟩ := canon_iff.1 hx
   obtain ⟨dy, ry, ly, qy⟩ := canon_iff.1 hy
   have stepL : ∀ u v, NoRev u → eqG u v → ∀ l, loG u l → ∃ l', loG v l' ∧ geG l' l := by
    intro u v ru e l hl
    have c : ¬ geG l v := (ge_iff.1 e.2).2 l hl
    rcases ge_not c with ⟨r, hr, hg⟩ | ⟨l', d, f⟩
    ·exact (ru.1 l r hl hr (xI e.1 hg)).elim
    ·exact ⟨l', d, f⟩
   have stepR : ∀ u v, NoRev u → eqG u v → ∀ r, roG u r → ∃ r', roG v r' ∧ geG r r' := by
    intro u v ru e r hr
    have c : ¬ geG v r := (ge_iff.1 e.1).1 r hr
    rcases ge_not c with ⟨r', d, f⟩ | ⟨l, hl, hg⟩
    ·exact ⟨r', d, f⟩
    ·exact (ru.2 r l hr hl (xI hg e.2)).elim
   constructor
   ·intro l hl
    obtain ⟨l', c, d⟩ := stepL x y rx e l hl
    obtain ⟨l'', f, g⟩ := stepL y x ry e.symm l' c
    have h := dx.1 l'' l f hl (xI g d)
    subst h
    have := hl.lt; have := c.lt
    have j := kJ n l'' l' (by omega) (lx l'' hl) (ly l' c) ⟨g, d⟩
    rwa [j]
   ·intro r hr
    obtain ⟨r', c, d⟩ := stepR x y rx e r hr
    obtain ⟨r'', f, g⟩ := stepR y x ry e.symm r' c
    have h := dx.2 r r'' hr f (xI d g)
    subst h
    have := hr.lt; have := c.lt
    have j := kJ n r r' (by omega) (qx r hr) (qy r' c) ⟨d, g⟩
    rwa [j]
  have k := key a b hn ha hb he
  have m := key b a (by omega) hb ha he.symm
  exact gext (fun i => ⟨k.1 i, m.1 i⟩) (fun i => ⟨k.2 i, m.2 i⟩)
theorem vC (ha : CanonG a) (hb : CanonG b) (he : eqG a b) : a = b := kJ _ a b (cH _) ha hb he
end Go.GL
namespace Go.GL
def stepD (acc : List Nat) (n : Nd) : List Nat := acc ++ [mkG (n.l.map fun z => acc.getD z.toNat 0) (n.r.map fun z => acc.getD z.toNat 0)]
def dens (ns : List Nd) : List Nat := ns.foldl stepD []
def den (ns : List Nd) (k : Nat) : Nat := (dens ns).getD k 0
theorem eH : ∀ (ns : List Nd) (acc : List Nat), (ns.foldl stepD acc).length = acc.length + ns.length
 | [], acc => by simp
 | n :: ns, acc => by rw [List.foldl_cons, eH ns]; simp [stepD]; omega
theorem fold_pre : ∀ (ns : List Nd) (acc : List Nat) (k : Nat), k < acc.length → (ns.foldl stepD acc).getD k 0 = acc.getD k 0
 | [], acc, k, h => rfl
 | n :: ns, acc, k, h => by
  rw [List.foldl_cons, fold_pre ns _ k (by simp [stepD]; omega)]
  exact yX h
variable {ns fs : List Nd} {k x : Nat} {bs l r : List Int}
theorem den_app {ms : List Nd} (h : k < ns.length) : den (ns ++ ms) k = den ns k := by
 unfold den dens
 rw [List.foldl_append]
 exact fold_pre _ _ _ (by rw [eH]; simpa using h)
theorem den_take {m : Nat} (h : k < m) (hm : m ≤ ns.length) : den (ns.take m) k = den ns k := by
 have := den_app (ns := ns.take m) (ms := ns.drop m) (k := k) (by simp; omega)
 rw [List.take_append_drop] at this
 exact this.symm
theorem den_at (hk : k < ns.length) (hl : ∀ z ∈ (ns.getD k default).l, 0 ≤ z ∧ z < k) (hr : ∀ z ∈ (ns.getD k default).r, 0 ≤ z ∧ z < k) :
  den ns k = mkG ((ns.getD k default).l.map fun z => den ns z.toNat) ((ns.getD k default).r.map fun z => den ns z.toNat) := by
 rw [← den_take (m := k + 1) (by omega) (by omega), jF ns default hk]
 unfold den dens
 rw [List.foldl_append]
 have hlen : ((ns.take k).foldl stepD []).length = k := by rw [eH]; simp; omega
 have e0 : ∀ (A : List Nat) (n : Nd), List.foldl stepD A [n] = A ++ [mkG (n.l.map fun z => A.getD z.toNat 0) (n.r.map fun z => A.getD z.toNat 0)] := fun _ _ => rfl
 rw [e0, xJ hlen.symm]
 have e : ∀ z : Int, 0 ≤ z ∧ z < k → (List.foldl stepD [] (ns.take k)).getD z.toNat 0 = (List.foldl stepD [] ns).getD z.toNat 0 := fun z hz => den_take (ns := ns) (k := z.toNat) (m := k) (by omega) (by omega)
 rw [List.map_congr_left (g := fun z => (List.foldl stepD [] ns).getD z.toNat 0) fun z hz => e z (hl z hz)]
 rw [List.map_congr_left (l := (ns.getD k default).r) (g := fun z => (List.foldl stepD [] ns).getD z.toNat 0) fun z hz => e z (hr z hz)]
theorem jN (ho : OptsOk ns) (hk : k < ns.length) :
  den ns k = mkG ((ns.getD k default).l.map fun z => den ns z.toNat) ((ns.getD k default).r.map fun z => den ns z.toNat) := den_at hk (xB ho hk).1 (xB ho hk).2
theorem qH (ho : OptsOk ns) (hk : k < ns.length) : loG (den ns k) x ↔ ∃ z ∈ (ns.getD k default).l, x = den ns z.toNat := by
 rw [jN ho hk, lo_mk, List.mem_map]
 exact ⟨fun ⟨z, h1, h2⟩ => ⟨z, h1, h2.symm⟩, fun ⟨z, h1, h2⟩ => ⟨z, h1, h2.symm⟩⟩
theorem qE (ho : OptsOk ns) (hk : k < ns.length) : roG (den ns k) x ↔ ∃ z ∈ (ns.getD k default).r, x = den ns z.toNat := by
 rw [jN ho hk, ro_mk, List.mem_map]
 exact ⟨fun ⟨z, h1, h2⟩ => ⟨z, h1, h2.symm⟩, fun ⟨z, h1, h2⟩ => ⟨z, h1, h2.symm⟩⟩
structure Ar (ns : List Nd) (bs : List Int) : Prop where
 ok : BookOk ns bs
 rise : ∀ i, i < ns.length → (ns.getD i default).l.Pairwise (· < ·) ∧ (ns.getD i default).r.Pairwise (· < ·)
 diff : Diff ns
 born : BirthsOf ns bs
theorem Ar.opts (h : Ar ns bs) : OptsOk ns := h.ok.optsOk
theorem Ar.empty : Ar [] [] := ⟨qY, fun i hi => absurd hi (cK i), fun _ j _ hj => absurd hj (cK j), rfl, fun k hk => absurd hk (cK k)⟩
theorem tL {ns : List Nd} (ho : OptsOk ns) (hr : ∀ i, i < ns.length → (ns.getD i default).l.Pairwise (· < ·) ∧ (ns.getD i default).r.Pairwise (· < ·)) (hd : Diff ns) :
  ∀ (n i j : Nat), i + j ≤ n → i < ns.length → j < ns.length → den ns i = den ns j → i = j
 | 0, i, j, hn, _, _, _ => by omega
 | n + 1, i, j, hn, hi, hj, he => by
  have key : ∀ a b, a + b ≤ n + 1 → a < ns.length → b < ns.length → den ns a = den ns b → (∀ z ∈ (ns.getD a default).l, z ∈ (ns.getD b default).l) ∧ (∀ z ∈ (ns.getD a default).r, z ∈ (ns.getD b default).r) := by
   intro a b hab ha hb e
   have oa := xB ho ha
   have ob := xB ho hb
   constructor
   ·intro z hz
    have h1 : loG (den ns a) (den ns z.toNat) := (qH ho ha).2 ⟨z, hz, rfl⟩
    rw [e] at h1
    obtain ⟨y, hy, e2⟩ := (qH ho hb).1 h1
    have z1 := oa.1 z hz
    have y1 := ob.1 y hy
    have := tL ho hr hd n z.toNat y.toNat (by omega) (by omega) (by omega) e2
    have : z = y := by omega
    rwa [this]
   ·intro z hz
    have h1 : roG (den ns a) (den ns z.toNat) := (qE ho ha).2 ⟨z, hz, rfl⟩
    rw [e] at h1
    obtain ⟨y, hy, e2⟩ := (qE ho hb).1 h1
    have z1 := oa.2 z hz
    have y1 := ob.2 y hy
    have := tL ho hr hd n z.toNat y.toNat (by omega) (by omega) (by omega) e2
    have : z = y := by omega
    rwa [this]
  have k1 := key i j hn hi hj he
  have k2 := key j i (by omega) hj hi he.symm
  have el := gC (hr i hi).1 (hr j hj).1 fun z => ⟨k1.1 z, k2.1 z⟩
  have er := gC (hr i hi).2 (hr j hj).2 fun z => ⟨k1.2 z, k2.2 z⟩
  have e := mX el er
  rcases Nat.lt_trichotomy i j with h | h | h
  ·exact absurd e (hd i j h hj)
  ·exact h
  ·exact absurd e.symm (hd j i h hi)
theorem Ar.inj (h : Ar ns bs) {i j : Nat} (hi : i < ns.length) (hj : j < ns.length) (he : den ns i = den ns j) : i = j := tL h.opts h.rise h.diff _ i j (cH _) hi hj he
theorem tG {n : Int} : ∀ {l : List Int}, l.Pairwise (· < ·) → (putL l n).Pairwise (· < ·)
 | [], _ => by simp [putL]
 | x :: r, h => by
  have h' := List.pairwise_cons.1 h
  unfold putL
  split
  ·rename_i hx
   refine List.pairwise_cons.2 ⟨fun k hk => ?_, tG h'.2⟩
   rcases mem_putL.1 hk with rfl | hk
   ·exact hx
   ·exact h'.1 k hk
  ·split
   ·exact h
   ·rename_i h1 h2
    refine List.pairwise_cons.2 ⟨fun k hk => ?_, h⟩
    rcases List.mem_cons.1 hk with rfl | hk
    ·omega
    ·have := h'.1 k hk; omega
theorem kG (l : List Int) : (sortL l).Pairwise (· < ·) := by
 have key : ∀ (l a : List Int), a.Pairwise (· < ·) → (l.foldl putL a).Pairwise (· < ·) := by
  intro l
  induction l with
  | nil => intro a h; exact h
  | cons x r ih => intro a h; exact ih _ (tG h)
 exact key l [] List.Pairwise.nil
theorem nJ {bs : List Int} {m : Int} : ∀ {l : List Int} {b : Int}, bornOf bs l b ≤ m ↔ b ≤ m ∧ ∀ k ∈ l, bs.getD k.toNat 0 + 1 ≤ m
 | [], b => by simp [bornOf]
 | x :: r, b => by
  have e : bornOf bs (x :: r) b = bornOf bs r (max b (bs.getD x.toNat 0 + 1)) := rfl
  rw [e, nJ (l := r)]
  simp only [List.mem_cons, forall_eq_or_imp]
  constructor
  ·rintro ⟨h1, h2⟩; exact ⟨by omega, by omega, h2⟩
  ·rintro ⟨h1, h2, h3⟩; exact ⟨by omega, h3⟩
theorem putBorn_le {m : Int} : putBorn bs l r ≤ m ↔ 0 ≤ m ∧ (∀ k ∈ l, bs.getD k.toNat 0 + 1 ≤ m) ∧ ∀ k ∈ r, bs.getD k.toNat 0 + 1 ≤ m := by
 unfold putBorn
 rw [nJ, nJ, and_assoc]
theorem putBorn_sort : putBorn bs (sortL l) (sortL r) = putBorn bs l r := by
 apply Int.le_antisymm
 ·rw [putBorn_le]
  have := putBorn_le (bs := bs) (l := l) (r := r).1 (Int.le_refl _)
  exact ⟨this.1, fun k hk => this.2.1 k (mem_sortL.1 hk), fun k hk => this.2.2 k (mem_sortL.1 hk)⟩
 ·rw [putBorn_le]
  have := putBorn_le (bs := bs) (l := sortL l) (r := sortL r).1 (Int.le_refl _)
  exact ⟨this.1, fun k hk => this.2.1 k (mem_sortL.2 hk), fun k hk => this.2.2 k (mem_sortL.2 hk)⟩
theorem Ar.put {xs ys : List Int} (h : Ar ns bs) (hl : ns.length + 1 ≤ 1048576) (hls : xs.length ≤ 1048576 ∧ ys.length ≤ 1048576) (h1 : ∀ i, i < xs.length → 0 ≤ xs.getD i 0 ∧ xs.getD i 0 < ns.length) (h2 : ∀ i, i < ys.length → 0 ≤ ys.getD i 0 ∧ ys.getD i 0 < ns.length) :
  Ar (putN ns bs xs ys) (putB ns bs xs ys) ∧ den (putN ns bs xs ys) (putK ns bs xs ys).toNat = mkG (xs.map fun z => den ns z.toNat) (ys.map fun z => den ns z.toNat) ∧ ∀ k, k < ns.length → den (putN ns bs xs ys) k = den ns k := by
 have hb := h.ok.put hl hls h1 h2
 have hm1 := xV (P := fun k => 0 ≤ k ∧ k < (ns.length : Int)) h1
 have hm2 := xV (P := fun k => 0 ≤ k ∧ k < (ns.length : Int)) h2
 have hsort : ∀ (f : Int → Nat), mkG ((sortL xs).map f) ((sortL ys).map f) = mkG (xs.map f) (ys.map f) := fun f => sV
  (fun i => by simp only [List.mem_map, mem_sortL]) (fun i => by simp only [List.mem_map, mem_sortL])
 unfold putN putB putK at hb ⊢
 cases hf : findK ns bs (putNd xs ys) (putBorn bs xs ys) with
 | some k =>
  rw [hf] at hb
  simp only at hb ⊢
  have hmem := List.mem_of_find?_eq_some hf
  have hdec := List.find?_some hf
  have hk : k < ns.length := by simpa using hmem
  have hd : bs.getD k 0 = putBorn bs xs ys ∧ (ns.getD k default).l = sortL xs ∧ (ns.getD k default).r = sortL ys := of_decide_eq_true hdec
  refine ⟨h, ?_, fun k _ => by trivial⟩
  rw [Int.toNat_natCast, jN h.opts hk, hd.2.1, hd.2.2]
  exact hsort _
 | none =>
  rw [hf] at hb
  simp only at hb ⊢
  have hlen := h.ok.len
  have hnew : ∀ i, i < ns.length → ns.getD i default ≠ putNd xs ys := fun i hi e => by
   have hn := List.find?_eq_none.1 hf i (List.mem_range.2 hi)
   apply hn
   refine decide_eq_true ⟨?_, by rw [e], by rw [e]⟩
   rw [h.born.2 i hi, e]
   exact putBorn_sort
  have hat : ∀ i, i < ns.length → (ns ++ [putNd xs ys]).getD i default = ns.getD i default := fun i hi => yX hi
  have hself : (ns ++ [putNd xs ys]).getD ns.length default = putNd xs ys := xJ rfl
  have hlast : ∀ i, i < (ns ++ [putNd xs ys]).length → i < ns.length ∨ i = ns.length := fun i hi => by simp at hi; omega
  have hbat : ∀ i, i < ns.length → (bs ++ [putBorn bs xs ys]).getD i 0 = bs.getD i 0 := fun i hi => yX (by omega)
  refine ⟨⟨hb.1, fun i hi => ?_, fun i j hij hj => ?_, by simp [hlen], fun k hk => ?_⟩, ?_, fun k hk => den_app hk⟩
  ·rcases hlast i hi with hi' | rfl
   ·rw [hat i hi']; exact h.rise i hi'
   ·rw [hself]; exact ⟨kG _, kG _⟩
  ·rcases hlast j hj with hj' | rfl
   ·rw [hat i (by omega), hat j hj']; exact h.diff i j hij hj'
   ·rw [hat i hij, hself]; exact hnew i hij
  ·rcases hlast k hk with hk' | rfl
   ·have ho := xB h.opts hk'
    rw [hat k hk', hbat k hk', h.born.2 k hk']
    exact vL (fun z hz => (hbat z.toNat (by have := ho.1 z hz; omega)).symm) (fun z hz => (hbat z.toNat (by have := ho.2 z hz; omega)).symm)
   ·rw [hself, xJ hlen.symm]
    refine putBorn_sort.symm.trans (vL (fun z hz => (hbat z.toNat ?_).symm) (fun z hz => (hbat z.toNat ?_).symm))
    ·have := hm1 z (mem_sortL.1 hz); omega
    ·have := hm2 z (mem_sortL.1 hz); omega
  ·rw [Int.toNat_natCast, den_at (by simp) (by rw [hself]; exact fun z hz => hm1 z (mem_sortL.1 hz)) (by rw [hself]; exact fun z hz => hm2 z (mem_sortL.1 hz)), hself]
   have e : ∀ l : List Int, (∀ z ∈ l, 0 ≤ z ∧ z < (ns.length : Int)) → (sortL l).map (fun z => den (ns ++ [putNd xs ys]) z.toNat) = (sortL l).map fun z => den ns z.toNat := fun l hm =>
    List.map_congr_left fun z hz => den_app (by have := hm z (mem_sortL.1 hz); omega)
   have e1 : (putNd xs ys).l = sortL xs := rfl
   have e2 : (putNd xs ys).r = sortL ys := rfl
   rw [e1, e2, e xs hm1, e ys hm2]
   exact hsort _
structure AddD (ns : List Nd) (fs : List Nd) (k : Nat) (s : List Int × List Nd × List Int) : Prop where
 ar : Ar s.2.1 s.2.2
 is : ∀ i, i < k → den s.2.1 (s.1.getD i 0).toNat = den fs i
 old : ∀ i, i < ns.length → den s.2.1 i = den ns i
theorem addM_den (h : Ar ns bs) (hf : FormOk fs) (hl : ns.length + fs.length ≤ 1048576) : ∀ k, k ≤ fs.length → AddD ns fs k (addM ns bs (fs.take k)) := by
 intro k
 induction k with
 | zero => intro _; exact ⟨h, fun i hi => absurd hi (cK i), fun i _ => rfl⟩
 | succ k ih =>
  intro hk
  have ih := ih (by omega)
  have ha := addM_ok h.ok hf hl k (by omega)
  rw [vI (by omega)]
  generalize addM ns bs (fs.take k) = s at ih ha
  obtain ⟨asx, ns2, bs2⟩ := s
  have a1 := ha.at1 hf (show k < fs.length by omega)
  have hhi := ha.hi
  simp only at hhi
  have hp := ih.ar.put (xs := atL asx (fs.getD k default).l) (ys := atL asx (fs.getD k default).r) (by simp only; omega) (by have := hf.lens k (by omega); rw [xG, xG]; omega) (kD ha.places a1.1) (kD ha.places a1.2)
  have hlo := ha.lo
  have hal := ha.len
  simp only at hp ih hlo hal
  refine ⟨hp.1, fun i hi => ?_, fun i hi => ?_⟩
  ·show den (putN ns2 bs2 _ _) ((asx ++ [_]).getD i 0).toNat = den fs i
   by_cases he : i < k
   ·rw [yX (by omega), hp.2.2 _ (by have := ha.places i (by simp only; omega); simp only at this; omega)]
    exact ih.is i he
   ·have e : i = k := by omega
    subst e
    rw [xJ hal.symm, hp.2.1, jN hf.opts (by omega)]
    have oo := xB hf.opts (show i < fs.length by omega)
    have em : ∀ l : List Int, (∀ z ∈ l, 0 ≤ z ∧ z < (i : Int)) → (atL asx l).map (fun z => den ns2 z.toNat) = l.map fun z => den fs z.toNat := fun l hm => by
     unfold atL
     rw [List.map_map]
     exact List.map_congr_left fun z hz => ih.is z.toNat (by have := hm z hz; omega)
    rw [em _ oo.1, em _ oo.2]
  ·show den (putN ns2 bs2 _ _) i = den ns i
   rw [hp.2.2 i (by omega)]
   exact ih.old i hi
theorem Ar.add (h : Ar ns bs) (hf : FormOk fs) (hl : ns.length + fs.length ≤ 1048576) : AddD ns fs fs.length (addM ns bs fs) := by
 have := addM_den h hf hl fs.length (cH _)
 rwa [List.take_length] at this
def gOf (fs : List Nd) : Nat := den fs (fs.length - 1)
end Go.GL
namespace Go.GL
open Go Go.RowKit
def inO (x : Option Nat) (k : Nat) : Prop := x = some k
variable {x y : Int} {ns : List Nd} {ks k1 k2 : List Int} {m m' k i j : Nat}
theorem notO {x y : Option Nat} (h : Apart x y) : ∀ k, x = some k → ¬ inO y k := fun k hx hy => h k hx hy
theorem xX {c : Nat} {y : Option Nat} (h : Apart (some c) y) : ¬ inO y c := fun hy => h c rfl hy
theorem xN {w : World} {x : Option Nat} : Lo w (inO x) x := fun _ hk => cG hk
noncomputable def geB (ns : List Nd) (x y : Int) : Bool := decP (geG (den ns x.toNat) (den ns y.toNat))
def KOk (ns : List Nd) (ks : List Int) (m : Nat) : Prop := ∀ i j : Nat, i < ns.length → j < ns.length → i + j < m → ks.getD (i * ns.length + j) 0 = 0 ∨ ks.getD (i * ns.length + j) 0 = if geB ns i j = true then 1 else 2
def KSame (ns : List Nd) (ks ks' : List Int) (m : Nat) : Prop := ∀ i j : Nat, i < ns.length → j < ns.length → m ≤ i + j → ks'.getD (i * ns.length + j) 0 = ks.getD (i * ns.length + j) 0
structure KRes (ns : List Nd) (ks ks' : List Int) (m : Nat) : Prop where
 len : ks'.length = ks.length
 ok : KOk ns ks' m
 same : KSame ns ks ks' m
theorem KOk.mono (h : KOk ns ks m) (hm : m' ≤ m) : KOk ns ks m' := fun i j hi hj hs => h i j hi hj (by omega)
theorem KOk.zero : KOk ns (List.replicate k 0) m := fun i j _ _ _ => cF (by simp [List.getD, List.getElem?_replicate]; split <;> rfl)
theorem KRes.refl (h : KOk ns ks m) : KRes ns ks ks m := ⟨rfl, h, fun _ _ _ _ _ => rfl⟩
theorem KRes.wide (h : KRes ns ks k1 m) (k : KRes ns k1 k2 m') (hm : m' ≤ m) : KRes ns ks k2 m := by
 refine ⟨k.len.trans h.len, fun i j hi hj hs => ?_, fun i j hi hj hs => ?_⟩
 ·by_cases hlt : i + j < m'
  ·exact k.ok i j hi hj hlt
  ·rw [k.same i j hi hj (by omega)]; exact h.ok i j hi hj hs
 ·rw [k.same i j hi hj (by omega), h.same i j hi hj hs]
theorem idx_lt {n : Nat} (hi : i < n) (hj : j < n) : i * n + j < n * n := by
 have h : (i + 1) * n ≤ n * n := Nat.mul_le_mul_right n hi
 rw [Nat.add_mul] at h; omega
theorem idx_eq {n l : Nat} (hj : j < n) (hl : l < n) (h : i * n + j = k * n + l) : i = k ∧ j = l := by
 have hn : 0 < n := by omega
 have h1 : (n * i + j) / n = i := by rw [Nat.mul_add_div hn, Nat.div_eq_of_lt hj]; rfl
 have h2 : (n * k + l) / n = k := by rw [Nat.mul_add_div hn, Nat.div_eq_of_lt hl]; rfl
 rw [Nat.mul_comm, Nat.mul_comm k] at h
 rw [h] at h1
 have : i = k := h1.symm.trans h2
 subst this
 exact ⟨rfl, by omega⟩
theorem idx_int (hx : 0 ≤ x ∧ x < ns.length) (hy : 0 ≤ y ∧ y < ns.length) : (x * (ns.length : Int) + y).toNat = x.toNat * ns.length + y.toNat := by
 have e : x * (ns.length : Int) + y = ((x.toNat * ns.length + y.toNat : Nat) : Int) := by
  rw [Int.natCast_add, Int.natCast_mul]
  rw [Int.toNat_of_nonneg hx.1, Int.toNat_of_nonneg hy.1]
 rw [e, Int.toNat_natCast]
theorem idx_bd (hx : 0 ≤ x ∧ x < ns.length) (hy : 0 ≤ y ∧ y < ns.length) (hn : ns.length ≤ 1048576) :
  (0 ≤ x * (ns.length : Int) ∧ x * (ns.length : Int) ≤ 1099511627776) ∧ x * (ns.length : Int) + y < (ns.length * ns.length : Nat) := by
 have h1 := idx_lt (n := ns.length) (i := x.toNat) (j := y.toNat) (by omega) (by omega)
 have e : x * (ns.length : Int) = ((x.toNat * ns.length : Nat) : Int) := by rw [Int.natCast_mul, Int.toNat_of_nonneg hx.1]
 have h2 : x.toNat * ns.length ≤ 1048576 * 1048576 := Nat.mul_le_mul (by omega) hn
 refine ⟨⟨by omega, by omega⟩, by omega⟩
theorem kB {l : List Int} (h : j ≠ i) : (l.set i x).getD j 0 = l.getD j 0 := by simp [List.getD, Ne.symm h]
theorem KRes.prov {v : Int} (hx : 0 ≤ x ∧ x < ns.length) (hy : 0 ≤ y ∧ y < ns.length) (h : KOk ns ks (x.toNat + y.toNat + 1)) :
  KOk ns (ks.set (x * (ns.length : Int) + y).toNat v) (x.toNat + y.toNat) ∧ ∀ i j : Nat, i < ns.length → j < ns.length → x.toNat + y.toNat < i + j → (ks.set (x * (ns.length : Int) + y).toNat v).getD (i * ns.length + j) 0 = ks.getD (i * ns.length + j) 0 := by
 rw [idx_int hx hy]
 refine ⟨fun i j hi hj hs => ?_, fun i j hi hj hs => ?_⟩
 ·rw [kB fun e => by have := idx_eq hj (by omega) e; omega]
  exact h i j hi hj (by omega)
 ·rw [kB fun e => by have := idx_eq hj (by omega) e; omega]
theorem KRes.told (hx : 0 ≤ x ∧ x < ns.length) (hy : 0 ≤ y ∧ y < ns.length) (hl : ks.length = ns.length * ns.length) (h : KOk ns ks (x.toNat + y.toNat + 1)) (k : KRes ns (ks.set (x * (ns.length : Int) + y).toNat 2) k1 (x.toNat + y.toNat))
  (hk : k2 = if geB ns x y = true then k1.set (x * (ns.length : Int) + y).toNat 1 else k1) :
  KRes ns ks k2 (x.toNat + y.toNat + 1) ∧ decide (k2.getD (x * (ns.length : Int) + y).toNat 0 = 1) = geB ns x y := by
 have hp := KRes.prov (v := 2) hx hy h
 rw [idx_int hx hy] at k hk hp ⊢
 have hlt := idx_lt (n := ns.length) (i := x.toNat) (j := y.toNat) (by omega) (by omega)
 have hl1 : k1.length = ns.length * ns.length := by rw [k.len, cT, hl]
 have hself : k1.getD (x.toNat * ns.length + y.toNat) 0 = 2 := by
  rw [k.same x.toNat y.toNat (by omega) (by omega) (cH _)]
  simp [List.getD, hl, hlt]
 have hgn : geB ns (x.toNat : Int) (y.toNat : Int) = geB ns x y := by rw [Int.toNat_of_nonneg hx.1, Int.toNat_of_nonneg hy.1]
 have hother : ∀ q, q ≠ x.toNat * ns.length + y.toNat → k2.getD q 0 = k1.getD q 0 := fun q hq => by
  rw [hk]; split
  ·exact kB hq
  ·rfl
 have hat : k2.getD (x.toNat * ns.length + y.toNat) 0 = if geB ns x y = true then 1 else 2 := by
  rw [hk]; split
  ·simp [List.getD, hl1, hlt]
  ·exact hself
 refine ⟨⟨?_, fun i j hi hj hs => ?_, fun i j hi hj hs => ?_⟩, ?_⟩
 ·rw [hk]; split
  ·rw [cT, hl1, hl]
  ·rw [hl1, hl]
 ·by_cases he : i * ns.length + j = x.toNat * ns.length + y.toNat
  ·obtain ⟨rfl, rfl⟩ := idx_eq hj (by omega) he
   right; rw [hat, hgn]
  ·rw [hother _ he]
   by_cases hlt2 : i + j < x.toNat + y.toNat
   ·exact k.ok i j hi hj hlt2
   ·rw [k.same i j hi hj (by omega), kB he]; exact h i j hi hj hs
 ·rw [hother _ fun e => by have := idx_eq hj (by omega) e; omega, k.same i j hi hj (by omega), hp.2 i j hi hj (by omega)]
 ·rw [hat]
  split
  ·rename_i hg; rw [hg]; rfl
  ·rename_i hg; rw [Bool.not_eq_true] at hg; rw [hg]; rfl
theorem KOk.known (hx : 0 ≤ x ∧ x < ns.length) (hy : 0 ≤ y ∧ y < ns.length) (h : KOk ns ks (x.toNat + y.toNat + 1)) (h0 : ¬ ks.getD (x * (ns.length : Int) + y).toNat 0 = 0) :
  decide (ks.getD (x * (ns.length : Int) + y).toNat 0 = 1) = geB ns x y := by
 rw [idx_int hx hy] at h0 ⊢
 have hgn : geB ns (x.toNat : Int) (y.toNat : Int) = geB ns x y := by rw [Int.toNat_of_nonneg hx.1, Int.toNat_of_nonneg hy.1]
 rcases h x.toNat y.toNat (by omega) (by omega) (by omega) with h1 | h1
 ·exact absurd h1 h0
 ·rw [h1, hgn]
  split
  ·rename_i hg; rw [hg]; rfl
  ·rename_i hg; rw [Bool.not_eq_true] at hg; rw [hg]; rfl
theorem mI (ho : OptsOk ns) (hx : 0 ≤ x ∧ x < ns.length) (hi : i < (ns.getD x.toNat default).r.length) (h : geB ns y ((ns.getD x.toNat default).r.getD i 0) = true) : geB ns x y = false := by
 refine decP_false.2 fun g => (ge_iff.1 g).1 _ ((qE ho (by omega)).2 ⟨_, yE (d := (0 : Int)) hi, rfl⟩) (decP_true.1 h)
theorem nY (ho : OptsOk ns) (hy : 0 ≤ y ∧ y < ns.length) (hi : i < (ns.getD y.toNat default).l.length) (h : geB ns ((ns.getD y.toNat default).l.getD i 0) x = true) : geB ns x y = false := by
 refine decP_false.2 fun g => (ge_iff.1 g).2 _ ((qH ho (by omega)).2 ⟨_, yE (d := (0 : Int)) hi, rfl⟩) (decP_true.1 h)
theorem geB_yes (ho : OptsOk ns) (hx : 0 ≤ x ∧ x < ns.length) (hy : 0 ≤ y ∧ y < ns.length) (h1 : ∀ i, i < (ns.getD x.toNat default).r.length → geB ns y ((ns.getD x.toNat default).r.getD i 0) = false) (h2 : ∀ i, i < (ns.getD y.toNat default).l.length → geB ns ((ns.getD y.toNat default).l.getD i 0) x = false) : geB ns x y = true := by
 refine decP_true.2 (ge_iff.2 ⟨fun r hr => ?_, fun l hl => ?_⟩)
 ·obtain ⟨z, hz, rfl⟩ := (qE ho (by omega)).1 hr
  obtain ⟨i, hi, rfl⟩ := List.getElem_of_mem hz
  have e : (ns.getD x.toNat default).r.getD i 0 = (ns.getD x.toNat default).r[i] := by rw [List.getD, List.getElem?_eq_getElem hi]; rfl
  have := h1 i hi
  rw [e] at this
  exact decP_false.1 this
 ·obtain ⟨z, hz, rfl⟩ := (qH ho (by omega)).1 hl
  obtain ⟨i, hi, rfl⟩ := List.getElem_of_mem hz
  have e : (ns.getD y.toNat default).l.getD i 0 = (ns.getD y.toNat default).l[i] := by rw [List.getD, List.getElem?_eq_getElem hi]; rfl
  have := h2 i hi
  rw [e] at this
  exact decP_false.1 this
theorem vZ {w : World} {base c : Nat} {v : Value} (h : w.heap.size ≤ c) (hl : ∀ k, v.ownBlock = some k → base ≤ k ∧ k < w.heap.size) : Apart (some c) v.ownBlock := fun k a e => by
 cases a; have := hl _ e; omega
theorem rY {w : World} {c d : Nat} (h : w.heap.size ≤ c) (hl : d < w.heap.size) : Apart (some c) (some d) := fun k a e => by
 cases a; cases e; omega
theorem sq_bd {n : Nat} (h : n ≤ 1048576) : 0 ≤ (n : Int) * (n : Int) ∧ (n : Int) * (n : Int) ≤ 1099511627776 := by
 have h1 : n * n ≤ 1048576 * 1048576 := Nat.mul_le_mul h h
 rw [← Int.natCast_mul]; omega
theorem sq_nat (n : Nat) : ((n : Int) * (n : Int)).toNat = n * n := by rw [← Int.natCast_mul]; rfl
structure Od (e1 e2 : Nat) (G : Pin) (w : World) (o b : Nat) (bu bv kv : Value) (ns : List Nd) (bs ks : List Int) : Prop where
 bk : Bk e1 e2 G w b bu bv ns bs
 ox : Bx G w o [.pointer (some ⟨b, 0, none⟩), kv]
 ok : Own eInt e2 G w 0 kv ks
 aok : Apart (some o) kv.ownBlock
 abk : Apart (some b) kv.ownBlock
 auk : Apart bu.ownBlock kv.ownBlock
 avk : Apart bv.ownBlock kv.ownBlock
end Go.GL
namespace Go.GL
open Go Go.RowKit
section
variable {κ ν : Type} [DecidableEq κ]
def look (l : List (κ × ν)) (k : κ) : Option ν := (l.find? fun p => decide (p.1 = k)).map (·.2)
def putE : List (κ × ν) → κ → ν → List (κ × ν)
 | [], k, v => [(k, v)]
 | p :: r, k, v => if k = p.1 then (k, v) :: r else p :: putE r k v
def findE : List (κ × ν) → κ → Nat → Option (Nat × ν)
 | [], _, _ => none
 | p :: r, k, i => if k = p.1 then some (i, p.2) else findE r k (i + 1)
theorem fV (k : κ) : ∀ (l : List (κ × ν)) (i : Nat), (findE l k i).map (·.2) = look l k
 | [], _ => rfl
 | p :: r, i => by
  unfold findE look
  by_cases h : k = p.1
  ·rw [if_pos h, List.find?_cons_of_pos (by simp [h])]; rfl
  ·rw [if_neg h, List.find?_cons_of_neg (by simp [Ne.symm h])]; exact fV k r (i + 1)
theorem fC (p : κ × ν) (r : List (κ × ν)) (k : κ) : look (p :: r) k = if k = p.1 then some p.2 else look r k := by
 unfold look
 by_cases h : k = p.1
 ·rw [List.find?_cons_of_pos (by simp [h]), if_pos h]; rfl
 ·rw [List.find?_cons_of_neg (by simp [Ne.symm h]), if_neg h]
theorem jL (k k' : κ) (v : ν) : ∀ (l : List (κ × ν)), look (putE l k v) k' = if k' = k then some v else look l k'
 | [] => by
  unfold putE
  rw [fC]
 | p :: r => by
  unfold putE
  by_cases h : k = p.1
  ·rw [if_pos h, fC, fC]
   by_cases h2 : k' = k
   ·rw [if_pos h2, if_pos h2]
   ·rw [if_neg h2, if_neg h2, if_neg (by rw [← h]; exact h2)]
  ·rw [if_neg h, fC, fC, jL k k' v r]
   by_cases h2 : k' = p.1
   ·rw [if_pos h2, if_pos h2, if_neg (by rw [h2]; exact Ne.symm h)]
   ·rw [if_neg h2, if_neg h2]
theorem putE_none {k : κ} {v : ν} : ∀ {l : List (κ × ν)} {i : Nat}, findE l k i = none → putE l k v = l ++ [(k, v)]
 | [], _, _ => rfl
 | p :: r, i, h => by
  unfold findE at h
  split at h
  ·cases h
  ·rename_i hk
   unfold putE
   rw [if_neg hk, putE_none h]; rfl
theorem putE_some {k : κ} {v : ν} : ∀ {l : List (κ × ν)} {i j : Nat} {u : ν}, findE l k i = some (j, u) → i ≤ j ∧ (∃ p, l[j - i]? = some p ∧ p.1 = k) ∧ putE l k v = l.set (j - i) (k, v)
 | [], _, _, _, h => by cases h
 | p :: r, i, j, u, h => by
  unfold findE at h
  split at h
  ·rename_i hk
   simp only [Option.some.injEq, Prod.mk.injEq] at h
   obtain ⟨rfl, rfl⟩ := h
   refine ⟨cH _, ⟨p, by simp, hk.symm⟩, ?_⟩
   unfold putE
   rw [if_pos hk, Nat.sub_self]; rfl
  ·rename_i hk
   obtain ⟨h1, ⟨q, h2, h3⟩, h4⟩ := putE_some (v := v) h
   have e : j - i = (j - (i + 1)) + 1 := by omega
   refine ⟨by omega, ⟨q, by rw [e, List.getElem?_cons_succ]; exact h2, h3⟩, ?_⟩
   unfold putE
   rw [if_neg hk, h4, e]; rfl
theorem putE_map {μ : Type} {f : ν → μ} (k : κ) (v : ν) : ∀ (l : List (κ × ν)), putE (l.map fun p => (p.1, f p.2)) k (f v) = (putE l k v).map fun p => (p.1, f p.2)
 | [] => rfl
 | p :: r => by
  rw [List.map_cons]
  unfold putE
  by_cases h : k = p.1
  ·rw [if_pos h, if_pos h]; rfl
  ·rw [if_neg h, if_neg h, putE_map k v r]; rfl
end
structure KeyK {κ : Type} [DecidableEq κ] (P : Program) (kt : TypeId) (enc : κ → Value) : Prop where
 check : ∀ (b : Bool) (k : κ) (w : World), (Instr.checkKey b 10000 kt (enc k)).run P w = .ok () w
 find : ∀ (k : κ) (es : List MapEntry) (l : List (κ × Value)) (w : World), es.map (fun e => (e.key, e.val)) = l.map (fun p => (enc p.1, p.2)) → (Instr.findKey kt (enc k) es).run P w = .ok (findE l k 0) w
 same : ∀ (k : κ), Instr.sameBits 10000 (enc k) (enc k) = true
theorem ba_beq (a b : ByteArray) : (a == b) = decide (a = b) := by
 cases a with
 | mk x =>
  cases b with
  | mk y =>
   have e : ((⟨x⟩ : ByteArray) == ⟨y⟩) = (x == y) := rfl
   rw [e]
   by_cases h : x = y
   ·subst h; simp
   ·rw [decide_eq_false (by simpa using h)]
    simpa using h
section
variable {P : Program}
theorem check_int {kt : TypeId} (h : P.underlying kt = some (.int .i64)) (b : Bool) (n : Nat) (k : Int) (w : World) : (Instr.checkKey b (n + 1) kt (.int .i64 k)).run P w = .ok () w := by
 rw [Instr.checkKey]
 simp only [Sem.run_bind, run_underlying h, Result.andThen_ok]
 rfl
theorem check_str {kt : TypeId} (h : P.underlying kt = some .string) (b : Bool) (n : Nat) (k : ByteArray) (w : World) : (Instr.checkKey b (n + 1) kt (.string k)).run P w = .ok () w := by
 rw [Instr.checkKey]
 simp only [Sem.run_bind, run_underlying h, Result.andThen_ok]
 rfl
variable {e : TypeId}
theorem tI {w : World} {r : Nat} {es : Array MapEntry} {c : Nat} (h : w.heap[r]? = some (.map es c)) : (getObj r).run P w = .ok (.map es c) w := by simp [getObj, Sem.run, h]
theorem fT {kt : TypeId} (h : P.underlying kt = some (.int .i64)) : KeyK P kt (fun k : Int => Value.int .i64 k) where
 check := fun b k w => check_int h b 9999 k w
 find := fun k es l w hl => by
  have key : ∀ (es : List MapEntry) (l : List (Int × Value)) (i : Nat), es.map (fun e => (e.key, e.val)) = l.map (fun p => (Value.int .i64 p.1, p.2)) → Instr.findNow (.int .i64) (.int .i64 k) es i = some (findE l k i) := by
   intro es
   induction es with
   | nil => intro l i hl; cases l with | nil => rfl | cons p r => cases hl
   | cons e r ih =>
    intro l i hl
    cases l with
    | nil => cases hl
    | cons p q =>
     simp only [List.map_cons, List.cons.injEq, Prod.mk.injEq] at hl
     obtain ⟨⟨h1, h2⟩, h3⟩ := hl
     unfold Instr.findNow findE
     rw [h1]
     simp only [Instr.sameNow, if_true]
     by_cases hk : k = p.1
     ·subst hk; simp [h2]
     ·have : (k == p.1) = false := by simpa using hk
      rw [this, if_neg hk]
      exact ih q (i + 1) h3
  simp [Instr.findKey, run_underlying h, key es l 0 hl]
 same := fun k => by show Instr.sameBits (9999 + 1) _ _ = true; simp [Instr.sameBits]
theorem key_str {kt : TypeId} (h : P.underlying kt = some .string) : KeyK P kt (fun k : ByteArray => Value.string k) where
 check := fun b k w => check_str h b 9999 k w
 find := fun k es l w hl => by
  have key : ∀ (es : List MapEntry) (l : List (ByteArray × Value)) (i : Nat), es.map (fun e => (e.key, e.val)) = l.map (fun p => (Value.string p.1, p.2)) → Instr.findNow .string (.string k) es i = some (findE l k i) := by
   intro es
   induction es with
   | nil => intro l i hl; cases l with | nil => rfl | cons p r => cases hl
   | cons e r ih =>
    intro l i hl
    cases l with
    | nil => cases hl
    | cons p q =>
     simp only [List.map_cons, List.cons.injEq, Prod.mk.injEq] at hl
     obtain ⟨⟨h1, h2⟩, h3⟩ := hl
     unfold Instr.findNow findE
     rw [h1]
     simp only [Instr.sameNow, ba_beq]
     by_cases hk : k = p.1
     ·subst hk; simp [h2]
     ·rw [decide_eq_false hk, if_neg hk]
      exact ih q (i + 1) h3
  simp [Instr.findKey, run_underlying h, key es l 0 hl]
 same := fun k => by show Instr.sameBits (9999 + 1) _ _ = true; simp [Instr.sameBits, ba_beq]
theorem check_pair {kt : TypeId} (h : P.underlying kt = some (.array 2 e)) (he : P.underlying e = some (.int .i64)) (hs : (P.info? e).map (·.size) = some 1) (b : Bool) (n : Nat) (k : Int × Int) (w : World) :
  (Instr.checkKey b (n + 1 + 1) kt (.agg #[.int .i64 k.1, .int .i64 k.2])).run P w = .ok () w := by
 have ha : (P.underlying e).map aggD = some false := by rw [he]; rfl
 have hpart : ∀ (u v : Int) (i : Nat) (z : Int), (#[Value.int .i64 u, .int .i64 v] : Array Value)[i]? = some (.int .i64 z) → (part e #[.int .i64 u, .int .i64 v] i).run P w = .ok (.int .i64 z) w := fun u v i z hk => by
  unfold part
  simp only [Sem.run_bind, jG ha, Result.andThen_ok]
  simp [hk]
 have hin : ∀ z : Int, (Instr.checkKey b (n + 1) e (.int .i64 z)).run P w = .ok () w := fun z => check_int he b n z w
 rw [Instr.checkKey]
 simp only [Sem.run_bind, run_underlying h, Result.andThen_ok]
 simp [Std.Legacy.Range.forIn_eq_forIn_range', Std.Legacy.Range.size, List.range', qC hs, hpart k.1 k.2 0 k.1 rfl, hpart k.1 k.2 1 k.2 rfl, hin]
def encP2 (k : Int × Int) : Value := .agg #[.int .i64 k.1, .int .i64 k.2]
theorem mB {kt : TypeId} (h : P.underlying kt = some (.array 2 e)) (he : P.underlying e = some (.int .i64)) (hs : (P.info? e).map (·.size) = some 1) : KeyK P kt encP2 where
 check := fun b k w => check_pair h he hs b 9998 k w
 find := fun k es l w hl => by
  have hask : ∀ (es : List MapEntry) (l : List ((Int × Int) × Value)) (i : Nat), es.map (fun e => (e.key, e.val)) = l.map (fun p => (encP2 p.1, p.2)) → (Instr.findAsking kt (encP2 k) es i).run P w = .ok (findE l k i) w := by
   intro es
   induction es with
   | nil => intro l i hl; cases l with | nil => rfl | cons p r => cases hl
   | cons x r ih =>
    intro l i hl
    cases l with
    | nil => cases hl
    | cons p q =>
     simp only [List.map_cons, List.cons.injEq, Prod.mk.injEq] at hl
     obtain ⟨⟨h1, h2⟩, h3⟩ := hl
     have heq : (Op.equal kt (encP2 k) (encP2 p.1)).run P w = .ok (decide (k = p.1)) w := mS (w := w) 9998 h he hs
     unfold Instr.findAsking findE
     rw [h1]
     simp only [Sem.run_bind, heq, Result.andThen_ok]
     by_cases hk : k = p.1
     ·simp [hk, h2]
     ·simp only [hk, decide_false, if_false, Bool.false_eq_true]
      exact ih q (i + 1) h3
  unfold Instr.findKey
  simp only [Sem.run_bind, run_underlying h, Result.andThen_ok]
  match es, l, hl with
  | [], [], _ => rfl
  | x :: r, p :: q, hl =>
   have hx : x.key = encP2 p.1 := by simp only [List.map_cons, List.cons.injEq, Prod.mk.injEq] at hl; exact hl.1.1
   have : Instr.findNow (.array 2 e) (encP2 k) (x :: r) 0 = none := by
    unfold Instr.findNow
    rw [hx]; rfl
   rw [this]
   exact hask (x :: r) (p :: q) 0 hl
  | [], p :: q, hl => cases hl
  | x :: r, [], hl => cases hl
 same := fun k => by show Instr.sameBits (9998 + 1 + 1) _ _ = true; simp [encP2, Instr.sameBits]
end
structure Mp {κ ν : Type} (enc : κ → Value) (val : ν → Value) (w : World) (m : Nat) (l : List (κ × ν)) : Prop where
 heap : ∃ es clock, w.heap[m]? = some (.map es clock) ∧ es.toList.map (fun e => (e.key, e.val)) = l.map fun p => (enc p.1, val p.2)
section
variable {κ ν : Type} {enc : κ → Value} {val : ν → Value} {w w' : World} {m : Nat} {l : List (κ × ν)}
theorem Mp.lt (h : Mp enc val w m l) : m < w.heap.size := by
 obtain ⟨es, c, h1, _⟩ := h.heap
 exact (Array.getElem?_eq_some_iff.1 h1).1
theorem Mp.keep (h : Mp enc val w m l) (hb : w'.heap[m]? = w.heap[m]?) : Mp enc val w' m l := by
 obtain ⟨es, c, h1, h2⟩ := h.heap
 exact ⟨es, c, hb.trans h1, h2⟩
theorem Mp.below (h : Mp enc val w m l) (hb : Below w.heap.size w w') : Mp enc val w' m l := h.keep (hb.block m h.lt)
theorem Mp.kept {row : Option Nat} (h : Mp enc val w m l) (hg : w.grownBy w' row) (hne : Apart (some m) row) : Mp enc val w' m l :=
 h.keep (hg.block m h.lt fun e => hne m rfl e.symm)
theorem Mp.free {G : Pin} (h : Mp enc val w m l) (hP : Pins G w) : ∀ o u, ¬ G m o u := fun o u hg => by
 obtain ⟨es, c, h1, _⟩ := h.heap
 have := hP m o u hg
 simp [World.cell?, h1] at this
end
theorem yT {α : Type} {E : Elt α} {e : Nat} {G : Pin} {w : World} {base : Nat} {v : Value} {xs : List α} {κ ν : Type} {enc : κ → Value} {val : ν → Value} {m : Nat} {l : List (κ × ν)} (h : Mp enc val w m l) (ho : Own E e G w base v xs) : Apart (some m) v.ownBlock := fun k hk hv => by
 cases hk
 obtain ⟨es, c, h1, _⟩ := h.heap
 obtain ⟨cells, ⟨hl, hown⟩, hr⟩ := ho.ex
 rcases hown with ⟨rfl, _⟩ | ⟨g, cap, cur, rfl, _, hg, _⟩
 ·cases hv
 ·have : g = m := by simpa [Value.ownBlock] using hv
  subst this
  rw [h1] at hg; cases hg
theorem xL {G : Pin} {w : World} {b : Nat} {cs : List Value} {κ ν : Type} {enc : κ → Value} {val : ν → Value} {m : Nat} {l : List (κ × ν)} (h : Mp enc val w m l) (hb : Bx G w b cs) : Apart (some m) (some b) := fun k hk hv => by
 cases hk; cases hv
 obtain ⟨es, c, h1, _⟩ := h.heap
 obtain ⟨T, hT⟩ := hb.heap
 rw [h1] at hT; cases hT
section
variable {P : Program} {ρ : Operand → Value} {w : World} {K : Value → World → Prop} {d : Option Nat} {t kt et ty : Nat} {pos : String} {aft : Array Edge} {g : Option (Nat × Bool)} {x y z : Operand} {G : Pin}
 {κ ν : Type} [DecidableEq κ] {enc : κ → Value} {val : ν → Value} {m : Nat} {l : List (κ × ν)}
omit [DecidableEq κ] in
theorem vD (enc : κ → Value) (val : ν → Value) (hP : Pins G w) (h : ∀ m w', m = w.heap.size → Mp enc val w' m [] → Pins G w' → Below w.heap.size w w' → K (.map (some m)) w') : EO P ρ ⟨d, .makeMap t none, ty, pos, aft, g⟩ w K := by
 have hb : Below w.heap.size w (w.alloc (.map #[] 0)) := (Below.refl _ _).alloc (cH _) _
 refine EO.run (v := .map (some w.heap.size)) (w' := w.alloc (.map #[] 0)) ?_ (h _ _ rfl ⟨#[], 0, ?_, rfl⟩ (hP.below hb) hb)
 ·simp [execOp, run_makeMap]
 ·exact heap_alloc_new w _
variable {zv : Value}
theorem run_look (hk : KeyK P kt enc) (ht : P.underlying t = some (.map kt et)) (hz : (P.info? et).bind (·.zero) = some zv) (hm : Mp enc val w m l) {k : κ} (hx : ρ x = .map (some m)) (hy : ρ y = enc k) :
  (execOp ρ ⟨d, .lookup t x y true, ty, pos, aft, g⟩).run P w = .ok (.value (.tuple #[((look l k).map val).getD zv, .bool (look l k).isSome])) w := by
 obtain ⟨es, c, h1, h2⟩ := hm.heap
 obtain ⟨it, hit, hzz⟩ := Option.bind_eq_some_iff.1 hz
 have hzv : (zeroValue et).run P w = .ok zv w := by simp [zeroValue, typeInfo, hit, hzz]
 have h2' : es.toList.map (fun e => (e.key, e.val)) = (l.map fun p => (p.1, val p.2)).map fun p => (enc p.1, p.2) := by rw [h2, List.map_map]; rfl
 have hf := hk.find k es.toList _ w h2'
 have hl : look (l.map fun p => (p.1, val p.2)) k = (look l k).map val := by
  unfold look
  rw [List.find?_map, Option.map_map, Option.map_map]; rfl
 have hfl := fV k (l.map fun p => (p.1, val p.2)) 0
 rw [hl] at hfl
 have hrun : (Instr.lookup t (.map (some m)) (enc k) true).run P w = .ok (.tuple #[((look l k).map val).getD zv, .bool (look l k).isSome]) w := by
  unfold Instr.lookup
  simp only [Sem.run_bind, run_underlying ht, Result.andThen_ok, tI h1, Sem.run_pure, hk.check, hf]
  cases hq : findE (l.map fun p => (p.1, val p.2)) k 0 with
  | none =>
   rw [hq] at hfl
   have hn : look l k = none := by
    cases hh : look l k with
    | none => rfl
    | some v => rw [hh] at hfl; cases hfl
   simp [hzv, hn]
  | some r =>
   rw [hq] at hfl
   cases hh : look l k with
   | none => rw [hh] at hfl; cases hfl
   | some v =>
    rw [hh] at hfl
    simp only [Option.map_some, Option.some.injEq] at hfl
    simp [hfl]
 simp [execOp, hx, hy, hrun]
theorem run_look1 (hk : KeyK P kt enc) (ht : P.underlying t = some (.map kt et)) (hz : (P.info? et).bind (·.zero) = some zv) (hm : Mp enc val w m l) {k : κ} (hx : ρ x = .map (some m)) (hy : ρ y = enc k) :
  (execOp ρ ⟨d, .lookup t x y false, ty, pos, aft, g⟩).run P w = .ok (.value (((look l k).map val).getD zv)) w := by
 obtain ⟨es, c, h1, h2⟩ := hm.heap
 obtain ⟨it, hit, hzz⟩ := Option.bind_eq_some_iff.1 hz
 have hzv : (zeroValue et).run P w = .ok zv w := by simp [zeroValue, typeInfo, hit, hzz]
 have h2' : es.toList.map (fun e => (e.key, e.val)) = (l.map fun p => (p.1, val p.2)).map fun p => (enc p.1, p.2) := by rw [h2, List.map_map]; rfl
 have hf := hk.find k es.toList _ w h2'
 have hl : look (l.map fun p => (p.1, val p.2)) k = (look l k).map val := by
  unfold look
  rw [List.find?_map, Option.map_map, Option.map_map]; rfl
 have hfl := fV k (l.map fun p => (p.1, val p.2)) 0
 rw [hl] at hfl
 have hrun : (Instr.lookup t (.map (some m)) (enc k) false).run P w = .ok (((look l k).map val).getD zv) w := by
  unfold Instr.lookup
  simp only [Sem.run_bind, run_underlying ht, Result.andThen_ok, tI h1, Sem.run_pure, hk.check, hf]
  cases hq : findE (l.map fun p => (p.1, val p.2)) k 0 with
  | none =>
   rw [hq] at hfl
   have hn : look l k = none := by
    cases hh : look l k with
    | none => rfl
    | some v => rw [hh] at hfl; cases hfl
   simp [hzv, hn]
  | some r =>
   rw [hq] at hfl
   cases hh : look l k with
   | none => rw [hh] at hfl; cases hfl
   | some v =>
    rw [hh] at hfl
    simp only [Option.map_some, Option.some.injEq] at hfl
    simp [hfl]
 simp [execOp, hx, hy, hrun]
theorem gL {l : List (κ × Bool)} (hk : KeyK P kt enc) (ht : P.underlying t = some (.map kt et)) (hz : (P.info? et).bind (·.zero) = some (.bool false)) (hm : Mp enc (fun v : Bool => Value.bool v) w m l) {k : κ} (hx : ρ x = .map (some m)) (hy : ρ y = enc k) :
  (execOp ρ ⟨d, .lookup t x y false, ty, pos, aft, g⟩).run P w = .ok (.value (.bool ((look l k).getD false))) w := by
 rw [run_look1 hk ht hz hm hx hy]
 cases look l k <;> rfl
theorem tQ {l : List (κ × Int)} (hk : KeyK P kt enc) (ht : P.underlying t = some (.map kt et)) (hz : (P.info? et).bind (·.zero) = some (.int .i64 0)) (hm : Mp enc (fun v : Int => Value.int .i64 v) w m l) {k : κ} (hx : ρ x = .map (some m)) (hy : ρ y = enc k) :
  (execOp ρ ⟨d, .lookup t x y true, ty, pos, aft, g⟩).run P w = .ok (.value (.tuple #[.int .i64 ((look l k).getD 0), .bool (look l k).isSome])) w := by
 rw [run_look hk ht hz hm hx hy]
 cases look l k <;> rfl
theorem sK {l : List (κ × Bool)} (hk : KeyK P kt enc) (ht : P.underlying t = some (.map kt et)) (hz : (P.info? et).bind (·.zero) = some (.bool false)) (hm : Mp enc (fun v : Bool => Value.bool v) w m l) {k : κ} (hx : ρ x = .map (some m)) (hy : ρ y = enc k) :
  (execOp ρ ⟨d, .lookup t x y true, ty, pos, aft, g⟩).run P w = .ok (.value (.tuple #[.bool ((look l k).getD false), .bool (look l k).isSome])) w := by
 rw [run_look hk ht hz hm hx hy]
 cases look l k <;> rfl
theorem qS (hk : KeyK P kt enc) (ht : P.underlying t = some (.map kt et)) {k : κ} {v : ν} (hx : ρ x = .map (some m)) (hy : ρ y = enc k) (hz : ρ z = val v) (hP : Pins G w) (hm : Mp enc val w m l)
  (h : ∀ w', Mp enc val w' m (putE l k v) → Pins G w' → w.grownBy w' (some m) → w'.heap.size = w.heap.size → K undef w') : EO P ρ ⟨d, .mapUpdate t x y z, ty, pos, aft, g⟩ w K := by
 obtain ⟨es, c, h1, h2⟩ := hm.heap
 have h2' : es.toList.map (fun e => (e.key, e.val)) = (l.map fun p => (p.1, val p.2)).map fun p => (enc p.1, p.2) := by rw [h2, List.map_map]; rfl
 have hf := hk.find k es.toList _ w h2'
 have hl : look (l.map fun p => (p.1, val p.2)) k = (look l k).map val := by
  unfold look
  rw [List.find?_map, Option.map_map, Option.map_map]; rfl
 have hfl := fV k (l.map fun p => (p.1, val p.2)) 0
 rw [hl] at hfl
 have hset : ∀ o : Obj, (setObj m o).run P w = .ok () { w with heap := w.heap.setIfInBounds m o } := fun o => by simp [setObj, Sem.run, h1]
 have hgrow : ∀ o : Obj, w.grownBy { w with heap := w.heap.setIfInBounds m o } (some m) := fun o =>
  ⟨rfl, rfl, rfl, by simp, fun j _ hj => by
   simp only [Array.getElem?_setIfInBounds]
   rw [if_neg (fun e => hj (by rw [e]))]⟩
 have hlt := hm.lt
 have hat : ∀ o : Obj, ({ w with heap := w.heap.setIfInBounds m o } : World).heap[m]? = some o := fun o => by
  simp [hlt]
 have hpins : ∀ o : Obj, Pins G { w with heap := w.heap.setIfInBounds m o } := fun o => hP.grown (hgrow o) (fun j hj o' u' => by cases hj; exact hm.free hP o' u')
 have fin : ∀ o : Obj, (Instr.mapUpdate t (.map (some m)) (enc k) (val v)).run P w = .ok () { w with heap := w.heap.setIfInBounds m o } → Mp enc val { w with heap := w.heap.setIfInBounds m o } m (putE l k v) → EO P ρ ⟨d, .mapUpdate t x y z, ty, pos, aft, g⟩ w K := fun o hr hmp =>
  EO.skip (w' := { w with heap := w.heap.setIfInBounds m o }) (by simp [execOp, hx, hy, hz, hr]) (h _ hmp (hpins o) (hgrow o) (by simp))
 have hpm := putE_map (f := val) k v l
 cases hq : findE (l.map fun p => (p.1, val p.2)) k 0 with
 | none =>
  rw [hq] at hf
  refine fin (.map (es.push { key := enc k, val := val v, born := c }) (c + 1)) ?_ ⟨_, _, hat _, ?_⟩
  ·unfold Instr.mapUpdate
   simp only [Sem.run_bind, run_underlying ht, Result.andThen_ok, tI h1, hk.check, hf, hset]
  ·rw [putE_none hq] at hpm
   have : (putE l k v).map (fun p => (enc p.1, val p.2)) = ((putE l k v).map fun p => (p.1, val p.2)).map fun p => (enc p.1, p.2) := by rw [List.map_map]; rfl
   rw [this, ← hpm, List.map_append, ← h2']
   simp
 | some r =>
  obtain ⟨i, u⟩ := r
  rw [hq] at hf
  obtain ⟨_, ⟨p, hp, hpk⟩, hset2⟩ := putE_some (v := val v) hq
  rw [Nat.sub_zero] at hp hset2
  have hei : (es.toList.map (fun e => (e.key, e.val)))[i]? = some (enc k, p.2) := by
   rw [h2', List.getElem?_map, hp]
   simp [hpk]
  obtain ⟨e, he, hek⟩ : ∃ e, es[i]? = some e ∧ e.key = enc k := by
   rw [List.getElem?_map] at hei
   cases hh : es.toList[i]? with
   | none => rw [hh] at hei; cases hei
   | some e =>
    rw [hh] at hei
    simp only [Option.map_some, Option.some.injEq, Prod.mk.injEq] at hei
    exact ⟨e, by rw [← Array.getElem?_toList]; exact hh, hei.1⟩
  have hstay : (Instr.keyThatStays (enc k) (enc k)).run P w = .ok (enc k) w := by
   unfold Instr.keyThatStays
   rw [if_pos (hk.same k)]; rfl
  refine fin (.map (es.modify i fun e => { e with key := enc k, val := val v }) c) ?_ ⟨_, _, hat _, ?_⟩
  ·unfold Instr.mapUpdate
   simp only [Sem.run_bind, run_underlying ht, Result.andThen_ok, tI h1, hk.check, hf, he, Option.map_some, Option.getD_some, hek, hstay, hset]
  ·have : (putE l k v).map (fun p => (enc p.1, val p.2)) = ((putE l k v).map fun p => (p.1, val p.2)).map fun p => (enc p.1, p.2) := by rw [List.map_map]; rfl
   rw [this, ← hpm, hset2, List.map_set, ← h2']
   rw [Array.toList_modify]
   apply List.ext_getElem?
   intro n
   simp only [List.getElem?_map, List.getElem?_set, List.getElem?_modify, List.length_map]
   by_cases hn : i = n
   ·subst hn
    have hlt2 : i < es.toList.length := by
     have := (Array.getElem?_eq_some_iff.1 he).1
     simpa using this
    have hlt3 : i < es.size := by simpa using hlt2
    simp [hlt3]
   ·simp [hn]
end
section
variable {P : Program} {ρ : Operand → Value} {w : World} {d : Option Nat} {t ty t' : Nat} {pos : String} {aft : Array Edge} {g : Option (Nat × Bool)} {x y c : Operand}
 {v u : Value} {i j : Int} {k : IntKind} {G : Pin} {K : Value → World → Prop}
theorem nL {n : Int} (h : 0 ≤ n ∧ n ≤ 18446744073709551615) : IntKind.u64.wrap n = n := by
 unfold IntKind.wrap
 simp only [IntKind.bits, IntKind.signed]
 have : n % (2 : Int) ^ 64 = n := Int.emod_eq_of_lt h.1 (by omega)
 simp only [this, Bool.false_and]
 rfl
theorem r_subX (hx : ρ x = .int .u64 i) (hy : ρ y = .int .u64 j) (h : 0 ≤ i - j ∧ i - j ≤ 18446744073709551615) : (execOp ρ ⟨d, .binOp .sub t x y t', ty, pos, aft, g⟩).run P w = .ok (.value (.int .u64 (i - j))) w := by
 simp [execOp, hx, hy, binOp, eqGuard, Op.intArith, nL h]
theorem r_mulX (hx : ρ x = .int .u64 i) (hy : ρ y = .int .u64 j) (h : 0 ≤ i * j ∧ i * j ≤ 18446744073709551615) : (execOp ρ ⟨d, .binOp .mul t x y t', ty, pos, aft, g⟩).run P w = .ok (.value (.int .u64 (i * j))) w := by
 simp [execOp, hx, hy, binOp, eqGuard, Op.intArith, nL h]
theorem r_quoX (hx : ρ x = .int .u64 i) (hy : ρ y = .int .u64 j) (h0 : 0 ≤ i) (h1 : 0 < j) (h2 : i ≤ 18446744073709551615) : (execOp ρ ⟨d, .binOp .quo t x y t', ty, pos, aft, g⟩).run P w = .ok (.value (.int .u64 (i / j))) w := by
 have hj : j ≠ 0 := by omega
 have he : i.tdiv j = i / j := Int.tdiv_eq_ediv_of_nonneg h0
 have hle : i / j ≤ i := Int.ediv_le_self j h0
 have hge : 0 ≤ i / j := Int.ediv_nonneg h0 (by omega)
 simp [execOp, hx, hy, binOp, eqGuard, Op.intDiv, hj, he, nL (n := i / j) ⟨by omega, by omega⟩]
def andW (k : IntKind) (i j : Int) : Int := k.wrap (BitVec.ofInt k.bits i &&& BitVec.ofInt k.bits j).toNat
theorem r_and (hx : ρ x = .int k i) (hy : ρ y = .int k j) : (execOp ρ ⟨d, .binOp .and t x y t', ty, pos, aft, g⟩).run P w = .ok (.value (.int k (andW k i j))) w := by
 simp [execOp, hx, hy, binOp, eqGuard, Op.intBits, andW]
variable {b e : Nat} {l : List UInt8}
theorem sO {t2 : Nat} {k2 : IntKind} {td : TypeDesc} (hs : P.underlying t = some td) (hd : P.underlying t2 = some (.int k2)) (hx : ρ x = .int k i) (hw : k2.wrap i = j) : (execOp ρ ⟨d, .convert t t2 x, ty, pos, aft, g⟩).run P w = .ok (.value (.int k2 j)) w := by
 subst hw
 simp [execOp, hx, convert, run_underlying hs, run_underlying hd, Conv.intToInt]
def arrV (l : List UInt8) : List Value := l.map fun x => .int .u8 x.toNat
theorem arrV_len (l : List UInt8) : (arrV l).length = l.length := by simp [arrV]
theorem o_stpk {k : Nat} {x0 : UInt8} (hs : (P.info? t).map (·.size) = some 1) (hx : ρ x = .pointer (some ⟨b, k, none⟩)) (hy : ρ y = .int .u8 (x0.toNat : Int)) (hk : k < l.length)
  (hP : Pins G w) (hb : Bx G w b (arrV l)) (h : ∀ w', Bx G w' b (arrV (l.set k x0)) → Pins G w' → w.grownBy w' (some b) → w'.heap.size = w.heap.size → K undef w') : EO P ρ ⟨d, .store t x y, ty, pos, aft, g⟩ w K :=
 o_stp (us := [.int .u8 (x0.toNat : Int)]) (cs := arrV l) (cs' := arrV (l.set k x0)) hs hx hy rfl (fun v hv => by simp at hv; subst hv; rfl) hP hb (by rw [arrV_len]; exact hk) (by
  unfold arrV
  rw [List.map_set, List.set_eq_take_append_cons_drop, if_pos (by simpa using hk), List.append_assoc]
  rfl) h
theorem name_arr {n : Nat} {z : Int} (hb : BxP G b (arrV l)) (hn : l.length = n) (hz : 0 ≤ z ∧ z < n) (hm : n ≤ 1000000) : ∃ v, RSl eByte G v (l.drop z.toNat) ∧
  ∀ {P : Program} {w : World} {d : Option Nat} {t ty e : Nat} {pos : String} {aft : Array Edge} {g : Option (Nat × Bool)} {x y : Operand} {ρ : Operand → Value} (_ : P.underlying t = some (.array n e)) (_ : (P.info? e).map (·.size) = some 1) (_ : ρ x = .pointer (some ⟨b, 0, none⟩)) (_ : ρ y = .int .i64 z),
   (execOp ρ ⟨d, .slice t x (some y) none none, ty, pos, aft, g⟩).run P w = .ok (.value v) w := by
 have hne : ¬ n = z.toNat := by omega
 refine ⟨.slice (some ⟨b, z.toNat, none⟩) (n - z.toNat) (n - z.toNat), ⟨⟨_, _, by rw [List.length_drop, hn], by rw [List.length_drop, hn]; exact cH _, by unfold maxLen; omega⟩, fun i q hi => ?_⟩, ?_⟩
 ·rw [List.getElem?_drop] at hi
  refine ⟨⟨b, z.toNat, none⟩, b, z.toNat + i, _, _, [.int .u8 (q.toNat : Int)], rfl, fun k => ?_, rfl, fun j u hj => ?_⟩
  ·show Addr.add ⟨b, z.toNat, none⟩ (i * 1 + k) = _
   by_cases h0 : i * 1 + k = 0
   ·have h1 : i = 0 := by omega
    have h2 : k = 0 := by omega
    subst h1 h2; rfl
   ·simp only [Addr.add, if_neg h0, Addr.mk.injEq, true_and, and_true]; omega
  ·have hj0 : j = 0 := by
    have := (List.getElem?_eq_some_iff.1 hj).1
    simpa using this
   subst hj0
   simp at hj
   subst hj
   exact hb _ _ (by unfold arrV; rw [Nat.add_zero, List.getElem?_map, hi]; rfl)
 ·intro P w d t ty e pos aft g x y ρ ht hs hx hy
  obtain ⟨inf, hinf, hsz⟩ := Option.map_eq_some_iff.1 hs
  have hzn : (z.toNat : Int) ≤ n := by omega
  simp only [execOp, hx, hy, Option.map, Instr.sliceAt, Sem.run_bind, run_underlying ht, Result.andThen_ok, Instr.sureAddr, Sem.run_pure]
  simp [Instr.sliceBounds, run_sliceBound, hz.1, show z ≤ (n : Int) by omega, sizeOf, typeInfo, hinf, hsz, hne, Addr.add]
  omega
theorem o_make0 {α : Type} {E : Elt α} {bytes : Nat} {z : Value} {n : Int} (ht : P.underlying t = some (.slice e)) (hi : (P.info? e).map (fun i => (i.size, i.bytes, i.zero)) = some (E.size, bytes, some z))
  (hx : ρ x = .int .i64 0) (hy : ρ y = .int .i64 n) (hP : Pins G w) (h0 : 0 ≤ n) (hb : (bytes : Int) * n ≤ 281474976710656) (hm : n ≤ 9223372036854775807)
  (h : ∀ v w', Own E e G w' w.heap.size v ([] : List α) → Pins G w' → Below w.heap.size w w' → v.ownBlock = some w.heap.size → K v w') : EO P ρ ⟨d, .makeSlice t x y, ty, pos, aft, g⟩ w K := by
 obtain ⟨inf, hinf, hsz⟩ := Option.map_eq_some_iff.1 hi
 simp only [Prod.mk.injEq] at hsz
 obtain ⟨hsz, hby, hz1⟩ := hsz
 have hr := _root_.Go.run_make (P := P) w t e inf z ht hinf hz1 .i64 .i64 0 n (Int.le_refl _) h0 (by rw [hby]; exact hb) hm
 have hbl : Below w.heap.size w (w.alloc (.cells (madeCells z.cells (n.toNat * inf.size)) e)) := (Below.refl _ _).alloc (cH _) _
 have hfree : ∀ k, Value.ownBlock (.slice (some ⟨w.heap.size, 0, none⟩) 0 n.toNat) = some k → ∀ o u, ¬ G k o u := by
  intro k hk o u hG
  simp [Value.ownBlock] at hk
  have := fJ (hP _ _ _ hG); omega
 refine EO.run (v := .slice (some ⟨w.heap.size, 0, none⟩) 0 n.toNat) ?_ (h _ _ ⟨⟨[], ⟨by simp, cG ⟨w.heap.size, n.toNat, madeCells z.cells (n.toNat * inf.size), rfl, cH _, heap_alloc_new w _, cI _, by unfold maxLen; omega, by rw [size_madeCells, hsz], by simp⟩⟩, fun i q hq => by simp at hq⟩, hfree⟩ (hP.below hbl) hbl rfl)
 simp only [execOp, hx, hy, Sem.run_bind, hr, Result.andThen_ok]
 rfl
def b2s (l : List UInt8) : ByteArray := ⟨l.toArray⟩
theorem b2s_inj {a b : List UInt8} (h : b2s a = b2s b) : a = b := by
 have := cgA (fun x => x.data.toList) h
 simpa [b2s] using this
theorem fold_push : ∀ (l : List UInt8) (s : ByteArray), (l.map fun x => (x.toNat : Int)).foldl (fun r n => r.push (UInt8.ofNat n.toNat)) s = ⟨(s.data.toList ++ l).toArray⟩
 | [], s => by cases s; simp
 | x :: l, s => by
  rw [List.map_cons, List.foldl_cons, fold_push l]
  simp [ByteArray.push]
theorem r_b2s {xs : List UInt8} (ht : P.underlying t = some (.slice e)) (he : P.underlying e = some (.int .u8)) (hs : P.underlying t' = some .string) (hx : ρ x = v) (hv : RSl eByte G v xs) (hP : Pins G w) :
  (execOp ρ ⟨d, .convert t t' x, ty, pos, aft, g⟩).run P w = .ok (.value (.string (b2s xs))) w := by
 obtain ⟨a, cp, rfl, _, _⟩ := hv.sl
 have key : (Conv.bytesToString (.slice a xs.length cp)).run P w = .ok (.string (b2s xs)) w := by
  cases a with
  | none =>
   have h0 : xs = [] := by
    cases xs with
    | nil => rfl
    | cons q r =>
     obtain ⟨a', _, _, _, _, _, h1, _⟩ := hv.at_ 0 q rfl
     cases h1
   subst h0; rfl
  | some a =>
   have hcell : ∀ j q, (xs.map fun x => Value.int .u8 (x.toNat : Int))[j]? = some q → w.cell? (a.add j) = some q := fun j q hj => by
    rw [List.getElem?_map] at hj
    obtain ⟨y, hy, rfl⟩ := Option.map_eq_some_iff.1 hj
    obtain ⟨a', b, o, n, c', cs, h1, h2, h3, h4⟩ := hv.at_ j y hy
    simp only [Value.slice.injEq, Option.some.injEq] at h1
    obtain ⟨rfl, _, _⟩ := h1
    have h5 := h2 0
    simp only [eByte, Nat.mul_one, Nat.add_zero] at h5 h3
    rw [h5]
    exact hP _ _ _ (by have := h4 0 _ (by rw [h3]; rfl); simpa using this)
   have hl := run_loadCells_list (P := P) w a (xs.map fun x => Value.int .u8 (x.toNat : Int)) hcell
   rw [List.length_map] at hl
   have e0 : (xs.map fun x => Value.int .u8 (x.toNat : Int)) = (xs.map fun x => (x.toNat : Int)).map (Value.int .u8) := by rw [List.map_map]; rfl
   rw [e0] at hl
   rw [run_bytesToString w a xs.length cp _ hl, fold_push]
   simp [b2s]
 simp only [execOp, hx, convert, Sem.run_bind, run_underlying ht, run_underlying hs, Result.andThen_ok, run_underlying he, key]
 rfl
def digC (n : Nat) : UInt8 := if n < 10 then UInt8.ofNat (48 + n) else UInt8.ofNat (87 + n)
def digs36 : ByteArray := ⟨#[48, 49, 50, 51, 52, 53, 54, 55, 56, 57, 97, 98, 99, 100, 101, 102, 103, 104, 105, 106, 107, 108, 109, 110, 111, 112, 113, 114, 115, 116, 117, 118, 119, 120, 121, 122]⟩
theorem digs_at : ∀ n : Fin 36, digs36[n.val]? = some (digC n.val) := by decide
theorem r_digit (ht : P.underlying t = some .string) (hx : ρ x = .string digs36) (hy : ρ y = .int k i) (h : 0 ≤ i ∧ i < 36) : (execOp ρ ⟨d, .index t x y, ty, pos, aft, g⟩).run P w = .ok (.value (.int .u8 ((digC i.toNat).toNat : Int))) w := by
 have e := digs_at ⟨i.toNat, by omega⟩
 simp only at e
 simp [execOp, hx, hy, Instr.index, asIntOf, run_underlying ht, h.1, e]
end
theorem digC_inj : ∀ a b : Fin 36, digC a.val = digC b.val → a = b := by decide
theorem digC_sep : ∀ a : Fin 36, digC a.val ≠ 44 ∧ digC a.val ≠ 124 := by decide
def dig36 (n : Nat) : List UInt8 := if _h : n < 36 then [digC n] else dig36 (n / 36) ++ [digC (n % 36)]
termination_by n
decreasing_by omega
theorem fX {n : Nat} (h : n < 36) : dig36 n = [digC n] := by rw [dig36, dif_pos h]
theorem tB {n : Nat} (h : ¬ n < 36) : dig36 n = dig36 (n / 36) ++ [digC (n % 36)] := by rw [dig36, dif_neg h]
theorem dig_pos (n : Nat) : 0 < (dig36 n).length := by
 by_cases h : n < 36
 ·rw [fX h]; simp
 ·rw [tB h]; simp
theorem dig_len : ∀ (k n : Nat), n < 36 ^ (k + 1) → (dig36 n).length ≤ k + 1
 | 0, n, h => by rw [fX (by simpa using h)]; simp
 | k + 1, n, h => by
  by_cases hn : n < 36
  ·rw [fX hn]; simp
  ·rw [tB hn]
   have := dig_len k (n / 36) (by rw [Nat.pow_succ] at h; omega)
   simp; omega
theorem dig13 {n : Nat} (h : n < 9223372036854775808) : (dig36 n).length ≤ 13 := by
 have h36 : (36 : Nat) ^ 13 = 170581728179578208256 := by decide
 exact dig_len 12 n (by omega)
theorem dig_sep (n : Nat) : ∀ x ∈ dig36 n, x ≠ 44 ∧ x ≠ 124 := by
 induction n using Nat.strongRecOn with
 | _ n ih =>
  intro x hx
  by_cases h : n < 36
  ·rw [fX h] at hx; simp at hx; subst hx; exact digC_sep ⟨n, h⟩
  ·rw [tB h] at hx
   rcases List.mem_append.1 hx with hx | hx
   ·exact ih _ (by omega) x hx
   ·simp at hx; subst hx; exact digC_sep ⟨n % 36, by omega⟩
theorem dig_inj : ∀ (a b : Nat), dig36 a = dig36 b → a = b := by
 intro a
 induction a using Nat.strongRecOn with
 | _ a ih =>
  intro b h
  by_cases ha : a < 36 <;> by_cases hb : b < 36
  ·rw [fX ha, fX hb] at h
   have := digC_inj ⟨a, ha⟩ ⟨b, hb⟩ (by simpa using h)
   simpa using this
  ·rw [fX ha, tB hb] at h
   have h1 := cgA List.length h
   have := dig_pos (b / 36)
   rw [List.length_append] at h1
   simp only [List.length_cons, List.length_nil] at h1; omega
  ·rw [tB ha, fX hb] at h
   have h1 := cgA List.length h
   have := dig_pos (a / 36)
   rw [List.length_append] at h1
   simp only [List.length_cons, List.length_nil] at h1; omega
  ·rw [tB ha, tB hb] at h
   obtain ⟨h1, h2⟩ := List.append_inj' h rfl
   have e1 := ih (a / 36) (by omega) _ h1
   have e2 := digC_inj ⟨a % 36, by omega⟩ ⟨b % 36, by omega⟩ (by simpa using h2)
   simp at e2; omega
variable {u0 : Nat} {uz iz : Int} {L : List UInt8} {l : List Int}
theorem dig_step (hd : dig36 u0 = dig36 uz.toNat ++ L.drop iz.toNat) (hL : L.length = 65) (hu : 36 ≤ uz) (hi : 1 ≤ iz ∧ iz ≤ 65) :
  dig36 u0 = dig36 (uz / 36).toNat ++ (L.set (iz - 1).toNat (digC (uz - (uz / 36 * 36)).toNat)).drop (iz - 1).toNat := by
 have e1 : (uz / 36).toNat = uz.toNat / 36 := by omega
 have e2 : (uz - (uz / 36 * 36)).toNat = uz.toNat % 36 := by omega
 have e3 : iz.toNat = (iz - 1).toNat + 1 := by omega
 rw [hd, tB (by omega), e1, e2, e3, List.append_assoc]
 congr 1
 rw [List.drop_set, if_neg (by omega), Nat.sub_self, List.drop_eq_getElem_cons (by omega : (iz - 1).toNat < L.length)]
 rfl
theorem dig_last (hd : dig36 u0 = dig36 uz.toNat ++ L.drop iz.toNat) (hL : L.length = 65) (hu : ¬ 36 ≤ uz) (hi : 1 ≤ iz ∧ iz ≤ 65) :
  (L.set (iz - 1).toNat (digC uz.toNat)).drop (iz - 1).toNat = dig36 u0 := by
 have e3 : iz.toNat = (iz - 1).toNat + 1 := by omega
 rw [hd, fX (by omega), e3]
 rw [List.drop_set, if_neg (by omega), Nat.sub_self, List.drop_eq_getElem_cons (by omega : (iz - 1).toNat < L.length)]
 rfl
theorem dig_place (hd : dig36 u0 = dig36 uz.toNat ++ L.drop iz.toNat) (hL : L.length = 65) (h0 : u0 < 9223372036854775808) : 53 ≤ iz := by
  have h1 := cgA List.length hd
  have h2 := dig_pos uz.toNat
  have h3 := dig_len 12 u0 (by have : (36 : Nat) ^ 13 = 170581728179578208256 := by decide
                               omega)
  rw [List.length_append, List.length_drop] at h1
  omega
theorem not_pow36 : decide (andW .i64 36 (36 - 1) = (0 : Int)) = false := by decide
def keyL (l : List Int) : List UInt8 := l.flatMap fun z => dig36 z.toNat ++ [44]
def keyN (l r : List Int) : List UInt8 := keyL l ++ [124] ++ keyL r
theorem key_next {j : Nat} (h : j < l.length) : keyL (l.take (j + 1)) = keyL (l.take j) ++ dig36 (l.getD j 0).toNat ++ [44] := by
 rw [jF l 0 h]; simp [keyL]
theorem cut_at {s : UInt8} : ∀ {a b x y : List UInt8}, (∀ z ∈ a, z ≠ s) → (∀ z ∈ b, z ≠ s) → a ++ s :: x = b ++ s :: y → a = b ∧ x = y
 | [], [], _, _, _, _, h => by simpa using h
 | [], q :: b, _, _, _, hb, h => by simp at h; exact absurd h.1.symm (hb q List.mem_cons_self)
 | p :: a, [], _, _, ha, _, h => by simp at h; exact absurd h.1 (ha p List.mem_cons_self)
 | p :: a, q :: b, x, y, ha, hb, h => by
  simp only [List.cons_append, List.cons.injEq] at h
  obtain ⟨h1, h2⟩ := cut_at (a := a) (b := b) (fun z hz => ha z (List.mem_cons_of_mem _ hz)) (fun z hz => hb z (List.mem_cons_of_mem _ hz)) h.2
  exact ⟨by rw [h.1, h1], h2⟩
theorem nE (z : Int) (l : List Int) (x : List UInt8) : keyL (z :: l) ++ x = dig36 z.toNat ++ 44 :: (keyL l ++ x) := by simp [keyL]
theorem keyL_sep (l : List Int) : ∀ x ∈ keyL l, x ≠ 124 := fun x hx => by
 obtain ⟨z, _, hz⟩ := List.mem_flatMap.1 hx
 rcases List.mem_append.1 hz with hz | hz
 ·exact (dig_sep _ x hz).2
 ·simp at hz; subst hz; decide
theorem eA : ∀ {a b : List Int}, (∀ z ∈ a, 0 ≤ z) → (∀ z ∈ b, 0 ≤ z) → keyL a = keyL b → a = b
 | [], [], _, _, _ => rfl
 | [], z :: b, _, _, h => by
  have := cgA List.length h
  simp [keyL] at this
 | z :: a, [], _, _, h => by
  have := cgA List.length h
  simp [keyL] at this
 | z :: a, y :: b, ha, hb, h => by
  have e1 := nE z a []
  have e2 := nE y b []
  rw [List.append_nil, List.append_nil] at e1 e2
  rw [e1, e2] at h
  obtain ⟨h1, h2⟩ := cut_at (fun q hq => (dig_sep _ q hq).1) (fun q hq => (dig_sep _ q hq).1) h
  have := dig_inj _ _ h1
  have z0 := ha z List.mem_cons_self; have y0 := hb y List.mem_cons_self
  rw [eA (fun q hq => ha q (List.mem_cons_of_mem _ hq)) (fun q hq => hb q (List.mem_cons_of_mem _ hq)) h2, show z = y by omega]
theorem sZ {a b c e : List Int} (ha : ∀ z ∈ a, 0 ≤ z) (hb : ∀ z ∈ b, 0 ≤ z) (hc : ∀ z ∈ c, 0 ≤ z) (he : ∀ z ∈ e, 0 ≤ z) (h : keyN a b = keyN c e) : a = c ∧ b = e := by
 unfold keyN at h
 rw [List.append_assoc, List.append_assoc] at h
 obtain ⟨h1, h2⟩ := cut_at (keyL_sep a) (keyL_sep c) h
 exact ⟨eA ha hc h1, eA hb he h2⟩
theorem key_len (h : ∀ z ∈ l, 0 ≤ z ∧ z < 9223372036854775808) : (keyL l).length ≤ 14 * l.length := by
  induction l with
  | nil => simp [keyL]
  | cons z l ih =>
    have e := nE z l []
    rw [List.append_nil] at e
    have h1 := h z List.mem_cons_self
    have := dig_len 12 z.toNat (by have : (36 : Nat) ^ 13 = 170581728179578208256 := by decide
                                   omega)
    have := ih fun y hy => h y (List.mem_cons_of_mem _ hy)
    rw [e]; simp; omega
theorem pY {w : World} {x y z : Option Nat} (h : Lo w (inO y) x) (ha : Apart z y) (hl : ∀ k, z = some k → k < w.heap.size) : Apart z x := fun k hz hx => by
 rcases h k hx with h1 | h1
 ·have := hl k hz; omega
 ·exact ha k hz h1
theorem lo_turn {w0 w : World} {S : Nat → Prop} {x y : Option Nat} (h : Lo w (inO y) x) (hy : Lo w0 S y) (hs : w0.heap.size ≤ w.heap.size) : Lo w0 S x := fun k hk => by
 rcases h k hk with h1 | h1
 ·exact cF (by omega)
 ·exact hy k h1
end Go.GL
namespace Go.GL
open Go Go.RowKit Go.Sort
variable {e base g cap : Nat} {G : Pin} {zs : List Int} {w' : World} {x : Int}
theorem own_holds {n : Nat} {w : World} (h : Own eInt e G w base (.slice (some ⟨g, 0, none⟩) n cap) zs) : n = zs.length ∧ g < w.heap.size ∧ zs.length ≤ cap ∧ Holds (Value.int .i64) w g 0 zs.toArray := by
 obtain ⟨cells, ⟨hl, hown⟩, hr⟩ := h.ex
 rcases hown with ⟨he, _⟩ | ⟨g', cap', cur, he, hb, hg, hnc, hcm, hcs, htake⟩
 ·cases he
 ·simp only [Value.slice.injEq, Option.some.injEq, Addr.mk.injEq] at he
  obtain ⟨⟨rfl, _⟩, rfl, rfl⟩ := he
  refine ⟨rfl, (Array.getElem?_eq_some_iff.1 hg).1, hnc, fun j hj => ?_⟩
  have hj' : j < zs.length := by simpa using hj
  have hz : zs[j]? = some zs[j] := List.getElem?_eq_getElem hj'
  have h1 := hr j _ hz
  have h2 : (List.drop (j * eInt.size) cells).take eInt.size = [.int .i64 zs[j]] := h1
  have h3 : cells[j]? = some (.int .i64 zs[j]) := by
   have := cgA (fun l => l[0]?) h2
   simp only [List.getElem?_take, List.getElem?_drop] at this
   simpa [eInt] using this
  rw [← htake, List.getElem?_take] at h3
  split at h3
  ·have h4 : cur[j]? = some (.int .i64 zs[j]) := by simpa using h3
   refine ⟨?_, ?_⟩
   ·rw [cell_of_row w g _ cur e (0, 0) hg, cS, h4]
    simp [hj']
   ·simp [World.frozen?, hg]
  ·cases h3
theorem own_put {n : Nat} {w : World} {ys : List Int} {d : Array Int} {os : Array Obj} {m : Nat} (h : Own eInt e G w base (.slice (some ⟨g, 0, none⟩) n cap) zs) (hP : Pins G w)
  (hw : w' = grow (putRow (Value.int .i64) (Go.Sort.ahead w m) g 0 d) os) (hd : d.size = zs.length) (hy : d.toList.take ys.length = ys) : Own eInt e G w' base (.slice (some ⟨g, 0, none⟩) ys.length cap) ys ∧ Pins G w' ∧ w.grownBy w' (some g) := by
 obtain ⟨cells, ⟨hl, hown⟩, hr⟩ := h.ex
 have hfree := h.free
 rcases hown with ⟨he, _⟩ | ⟨g', cap', cur, he, hb, hg, hnc, hcm, hcs, htake⟩
 ·cases he
 ·simp only [Value.slice.injEq, Option.some.injEq, Addr.mk.injEq] at he
  obtain ⟨⟨rfl, _⟩, rfl, rfl⟩ := he
  have hlt : g < w.heap.size := (Array.getElem?_eq_some_iff.1 hg).1
  have hle : ys.length ≤ d.size := by
   have := cgA List.length hy
   simp only [List.length_take, Array.length_toList] at this; omega
  have hh : w'.heap = w.heap.modify g (onCells (putCells (Value.int .i64) 0 d)) ++ os := by subst hw; rfl
  have hat : w'.heap[g]? = some (.cells (putCells (Value.int .i64) 0 d cur) e (0, 0)) := by
   rw [hh, Array.getElem?_append_left (by simpa using hlt), Array.getElem?_modify, if_pos rfl, hg]; rfl
  have hgr : w.grownBy w' (some g) := ⟨by subst hw; rfl, by subst hw; rfl, by subst hw; rfl, by rw [hh]; simp, fun k hk hne => by
   rw [hh, Array.getElem?_append_left (by simpa using hk), Array.getElem?_modify, if_neg (fun e => hne (by rw [e]))]⟩
  refine ⟨⟨⟨ys.map (Value.int .i64), ⟨by simp [eInt], cG ⟨g, cap, _, rfl, hb, hat, by omega, hcm, by rw [putCells, Array.size_mapIdx, hcs], ?_⟩⟩, fun i x hx => ?_⟩, hfree⟩, hP.grown hgr (fun k hk => by cases hk; exact hfree g rfl), hgr⟩
  ·apply List.ext_getElem?
   intro j
   simp only [eInt, Nat.mul_one, List.getElem?_take, Array.getElem?_toList, putCells, Array.getElem?_mapIdx, List.getElem?_map]
   by_cases hj : j < ys.length
   ·have hjc : j < cur.size := by rw [hcs]; simp only [eInt]; omega
    rw [if_pos hj, Array.getElem?_eq_getElem hjc, Option.map_some, if_pos (by omega), List.getElem?_eq_getElem hj]
    simp only [Option.map_some, Nat.sub_zero, Option.some.injEq, Value.int.injEq, true_and]
    have h5 : ys[j]? = d[j]? := by
     have := cgA (fun l => l[j]?) hy
     simp only [List.getElem?_take, if_pos hj, Array.getElem?_toList] at this
     exact this.symm
    rw [List.getElem?_eq_getElem hj, Array.getElem?_eq_getElem (show j < d.size by omega)] at h5
    rw [getElem!_pos d j (by omega)]
    simpa using h5.symm
   ·rw [if_neg hj, List.getElem?_eq_none (by omega)]; rfl
  ·show (List.drop (i * 1) (ys.map (Value.int .i64))).take 1 = [.int .i64 x]
   have hi := (List.getElem?_eq_some_iff.1 hx).1
   rw [Nat.mul_one, List.drop_eq_getElem_cons (by simpa using hi)]
   simp only [List.getElem_map, List.take_succ_cons, List.take_zero, List.cons.injEq, and_true, Value.int.injEq, true_and]
   rw [List.getElem?_eq_getElem hi] at hx
   simpa using hx
theorem Ext.one {w : World} {x : Option Nat} (hP : Pins G w') (hg : w.grownBy w' x) : Ext (inO x) G w G w' :=
 ⟨cJ _, hP, fun _ _ _ h => cF h, hg.os, hg.tape, hg.output, hg.size, fun k hk hs => hg.block k hk fun e => hs e.symm⟩
def sortM (zs : List Int) : List Int := zs.mergeSort fun x y => decide (x ≤ y)
theorem sortM_pw (zs : List Int) : (sortM zs).Pairwise (· ≤ ·) := by
 have := List.pairwise_mergeSort (le := fun x y : Int => decide (x ≤ y)) (fun a b c h1 h2 => by simp at *; omega) (fun a b => by simp; omega) zs
 exact this.imp fun h => by simpa using h
theorem mem_sortM : x ∈ sortM zs ↔ x ∈ zs := List.mem_mergeSort
theorem fO (zs : List Int) : (sortM zs).length = zs.length := List.length_mergeSort _
theorem compact_mem : x ∈ Lib.compact zs ↔ x ∈ zs := by
 unfold Lib.compact Lib.compactUpTo
 rw [List.mem_map]
 constructor
 ·rintro ⟨j, hj, rfl⟩
  have := List.mem_range.1 (List.mem_filter.1 hj).1
  simp [this]
 ·intro hx
  have key : ∀ j, j < zs.length → zs.getD j 0 = x → ∃ i, i ∈ (List.range zs.length).filter (Lib.keeps zs.toArray) ∧ zs.toArray[i]! = x := by
   intro j
   induction j with
   | zero => intro h1 h2; exact ⟨0, List.mem_filter.2 ⟨List.mem_range.2 h1, by simp [Lib.keeps]⟩, by simpa [List.getD, h1] using h2⟩
   | succ j ih =>
    intro h1 h2
    by_cases he : zs.getD j 0 = x
    ·exact ih (by omega) he
    ·refine ⟨j + 1, List.mem_filter.2 ⟨List.mem_range.2 h1, ?_⟩, by simpa [List.getD, h1] using h2⟩
     unfold Lib.keeps
     refine decide_eq_true (cG ?_)
     have e1 : zs.toArray[j + 1]! = x := by simpa [List.getD, h1] using h2
     have e2 : zs.toArray[j + 1 - 1]! = zs.getD j 0 := by simp [List.getD, show j < zs.length by omega]
     rw [e1, e2]; exact fun e => he e.symm
  obtain ⟨j, hj, e⟩ := List.getElem_of_mem hx
  exact key j hj (by simp [List.getD, hj, e])
theorem compact_pw (h : zs.Pairwise (· ≤ ·)) : (Lib.compact zs).Pairwise (· < ·) := by
 unfold Lib.compact Lib.compactUpTo
 rw [List.pairwise_map]
 have hs : ∀ i j, i ≤ j → j < zs.length → zs.toArray[i]! ≤ zs.toArray[j]! := fun i j hij hj => by
  have e1 : zs.toArray[i]! = zs[i]'(by omega) := by simp [show i < zs.length by omega]
  have e2 : zs.toArray[j]! = zs[j] := by simp [hj]
  rw [e1, e2]
  by_cases he : i = j
  ·subst he; exact Int.le_refl _
  ·exact List.pairwise_iff_getElem.1 h i j (by omega) hj (by omega)
 refine (List.Pairwise.filter _ List.pairwise_lt_range).imp_of_mem ?_
 intro a b ha hb hab
 have hb1 := List.mem_filter.1 hb
 have hbl := List.mem_range.1 hb1.1
 have hk := of_decide_eq_true hb1.2
 rcases hk with hk | hk
 ·omega
 ·have h1 := hs a (b - 1) (by omega) (by omega)
  have h2 := hs (b - 1) b (by omega) hbl
  omega
theorem distinct_eq (zs : List Int) : Lib.compact (sortM zs) = sortL zs :=
 gC (compact_pw (sortM_pw zs)) (kG zs) fun z => by rw [compact_mem, mem_sortM, mem_sortL]
theorem compact_len (zs : List Int) : (Lib.compact zs).length ≤ zs.length := by
 unfold Lib.compact Lib.compactUpTo
 rw [List.length_map]
 exact cR (List.length_filter_le _ _) (by simp)
theorem own_cases {w : World} {v : Value} (h : Own eInt e G w base v zs) : (v = .slice none 0 0 ∧ zs = []) ∨ ∃ g cap, v = .slice (some ⟨g, 0, none⟩) zs.length cap := by
 obtain ⟨cells, ⟨hl, hown⟩, hr⟩ := h.ex
 rcases hown with ⟨rfl, h0⟩ | ⟨g, cap, cur, rfl, _⟩
 ·exact cF ⟨rfl, List.eq_nil_of_length_eq_zero h0⟩
 ·exact cG ⟨g, cap, rfl⟩
end Go.GL
namespace Go.GL
structure SG (ns : List Nd) : Prop where
 lo : 1 ≤ ns.length
 wf : Wf ns
 srt : SortedB ns (births ns)
 last : ∀ k : Nat, k + 1 < ns.length → ∃ j, k < j ∧ j < ns.length ∧ ((k : Int) ∈ (ns.getD j default).l ∨ (k : Int) ∈ (ns.getD j default).r)
variable {l bs : List Int} {hi : Int} {ns : List Nd} {m z : Nat}
theorem rise_pw (h : l.Pairwise (· < ·)) (hb : ∀ z ∈ l, 0 ≤ z ∧ z ≤ hi) : Rise l 0 hi := fun i hi' => by
 refine ⟨hb _ (yE hi'), fun h0 => ?_⟩
 have := List.pairwise_iff_getElem.1 h (i - 1) i (by omega) hi' (by omega)
 simpa [List.getD, hi', show i - 1 < l.length by omega] using this
theorem pw_rise {lo : Int} (h : Rise l lo hi) : l.Pairwise (· < ·) := by
 rw [List.pairwise_iff_getElem]
 intro i j hi hj hij
 have key : ∀ j, i < j → j < l.length → l.getD i 0 < l.getD j 0 := by
  intro j
  induction j with
  | zero => intro h0; omega
  | succ j ih =>
   intro h1 h2
   have a := (h (j + 1) h2).2 (by omega)
   simp only [Nat.add_sub_cancel] at a
   by_cases he : i = j
   ·subst he; exact a
   ·have := ih (by omega) (by omega); omega
 have := key j hij hj
 simpa [List.getD, hi, hj] using this
theorem SG.opts (h : SG ns) : OptsOk ns := h.wf.ok.opts
theorem SG.pw (h : SG ns) : ∀ i, i < ns.length → (ns.getD i default).l.Pairwise (· < ·) ∧ (ns.getD i default).r.Pairwise (· < ·) := fun i hi => ⟨pw_rise (h.wf.rise i hi).1, pw_rise (h.wf.rise i hi).2⟩
theorem SG.diff (h : SG ns) : Diff ns := fun i j hij hj he => by
 have hb := qL h.opts
 rcases h.srt i j hij hj with h1 | ⟨_, h1⟩
 ·rw [hb.2 i (by omega), hb.2 j hj, he] at h1; omega
 ·rw [ahead_zero.2 he] at h1; omega
theorem SG.inj (h : SG ns) {i j : Nat} (hi : i < ns.length) (hj : j < ns.length) (he : den ns i = den ns j) : i = j := tL h.opts h.pw h.diff _ i j (cH _) hi hj he
theorem gK {k : Nat} : ∀ {l : List Int} {is : List Bool}, (setAll is l).getD k false = true → is.getD k false = true ∨ ∃ z ∈ l, z.toNat = k
 | [], _, h => cF h
 | x :: l, is, h => by
  rcases gK (l := l) (is := is.set x.toNat true) h with h1 | ⟨z, hz, e⟩
  ·by_cases he : x.toNat = k
   ·exact cG ⟨x, List.mem_cons_self, he⟩
   ·rw [qO he] at h1; exact cF h1
  ·exact cG ⟨z, List.mem_cons_of_mem _ hz, e⟩
theorem ugo_from {ns : List Nd} {k : Nat} : ∀ {q : Nat} {is : List Bool}, (ugo ns q is).getD k false = true → is.getD k false = true ∨ ∃ j, j < q ∧ (ugo ns q is).getD j false = true ∧ ∃ z, (z ∈ (ns.getD j default).l ∨ z ∈ (ns.getD j default).r) ∧ z.toNat = k
 | 0, _, h => cF h
 | q + 1, is, h => by
  rcases ugo_from (q := q) (is := ustep ns is q) h with h1 | ⟨j, hj, h2, h3⟩
  ·by_cases hq : is.getD q false = true
   ·rw [tF hq] at h1
    have hm : (ugo ns (q + 1) is).getD q false = true := gH hq
    rcases gK h1 with h1 | ⟨z, hz, e⟩
    ·rcases gK h1 with h1 | ⟨z, hz, e⟩
     ·exact cF h1
     ·exact cG ⟨q, by omega, hm, z, cF hz, e⟩
    ·exact cG ⟨q, by omega, hm, z, cG hz, e⟩
   ·rw [sA (by simpa using hq)] at h1; exact cF h1
  ·exact cG ⟨j, by omega, h2, h3⟩
theorem sN {k : Nat} (h : (reachM ns m).getD k false = true) : k = m ∨ ∃ j, j ≤ m ∧ (reachM ns m).getD j false = true ∧ ∃ z, (z ∈ (ns.getD j default).l ∨ z ∈ (ns.getD j default).r) ∧ z.toNat = k := by
 unfold reachM at h ⊢
 rcases ugo_from h with h1 | ⟨j, hj, h2⟩
 ·left
  by_cases he : m = k
  ·exact he.symm
  ·rw [qO he] at h1
   simp [List.getD, List.getElem?_replicate] at h1
   split at h1 <;> simp at h1
 ·exact cG ⟨j, by omega, h2⟩
theorem reach_self : (reachM ns m).getD m false = true := by
 unfold reachM
 exact gH (by simp [List.getD])
theorem reach_closed (ho : OptsOk ns) (hm : m < ns.length) (hz : z ≤ m) (hu : (reachM ns m).getD z false = true) :
  (∀ o ∈ (ns.getD z default).l, (reachM ns m).getD o.toNat false = true) ∧ (∀ o ∈ (ns.getD z default).r, (reachM ns m).getD o.toNat false = true) :=
 tY ho (by omega) (by simp) z (by omega) hu
theorem lower_of (ho : OptsOk ns) (hb : BirthsOf ns bs) : Lower ns bs := fun z hz => by
 have hb := hb.2 z hz
 have o := xB ho hz
 have h1 := gA (bs := bs) (l := (ns.getD z default).r) (b := bornOf bs (ns.getD z default).l 0)
 have h2 := gA (bs := bs) (l := (ns.getD z default).l) (b := 0)
 unfold putBorn at hb
 exact ⟨fun x hx => by have := o.1 x hx; have := h2.2 x hx; omega, fun x hx => by have := o.2 x hx; have := h1.2 x hx; omega⟩
theorem born_nn (hb : BirthsOf ns bs) (hz : z < ns.length) : 0 ≤ bs.getD z 0 := by
 rw [hb.2 z hz]
 exact (putBorn_le.1 (Int.le_refl _)).1
theorem nK {bs bs' A : List Int} : ∀ {l : List Int} {b : Int}, (∀ o ∈ l, bs'.getD (A.getD o.toNat 0).toNat 0 = bs.getD o.toNat 0) → bornOf bs' (atL A l) b = bornOf bs l b
 | [], _, _ => rfl
 | x :: l, b, h => by
  show bornOf bs' (atL A l) (max b (bs'.getD (A.getD x.toNat 0).toNat 0 + 1)) = bornOf bs l (max b (bs.getD x.toNat 0 + 1))
  rw [h x List.mem_cons_self]
  exact nK fun o ho => h o (List.mem_cons_of_mem _ ho)
theorem mem_atL {A : List Int} {x : Int} : x ∈ atL A l ↔ ∃ o ∈ l, A.getD o.toNat 0 = x := by simp [atL]
theorem form_sg (h : Ar ns bs) (hm : m < ns.length) : SG (formM ns bs m) ∧ gOf (formM ns bs m) = den ns m ∧ (formM ns bs m).length ≤ m + 1 := by
  have ho := h.opts
  have hlw := lower_of ho h.born
  have hlen : (formM ns bs m).length ≤ m + 1 := by
    unfold formM
    rw [eF]
    exact cR List.countP_le_length (by simp)
  have hlim := h.ok.lim
  obtain ⟨fa, go⟩ := go_ok (need := reachM ns m) hlw (show m + 1 ≤ ns.length by omega) ((bs.getD m 0).toNat + 1)
  have hbm := born_nn h.born hm
  unfold formM at hlen ⊢
  generalize formGo ns bs (reachM ns m) (m + 1) ((bs.getD m 0).toNat + 1) = s at go hlen
  obtain ⟨A, out⟩ := s
  have hmap : out = fa.map (ndz ns A) := go.map
  have hpos : ∀ p, p < fa.length → A.getD (fa.getD p 0).toNat 0 = p := go.pos
  have hN : out.length = fa.length := by rw [hmap]; simp
  simp only at hlen ⊢
  have hget : ∀ p, p < fa.length → out.getD p default = ndz ns A (fa.getD p 0) := fun p hp => by rw [hmap]; simp [List.getD, hp]
  have hmem : ∀ p, p < fa.length → 0 ≤ fa.getD p 0 ∧ fa.getD p 0 ≤ m ∧ (reachM ns m).getD (fa.getD p 0).toNat false = true ∧ bs.getD (fa.getD p 0).toNat 0 ≤ bs.getD m 0 := fun p hp => by
    have a := go.mem _ (yE (d := (0 : Int)) hp)
    exact ⟨a.1, by omega, go.nd _ (yE hp), by omega⟩
  have hfind : ∀ z : Nat, z ≤ m → (reachM ns m).getD z false = true → bs.getD z 0 ≤ bs.getD m 0 → ∃ p, p < fa.length ∧ fa.getD p 0 = z ∧ A.getD z 0 = p := fun z hz a b => by
    obtain ⟨p, hp, e⟩ := List.getElem_of_mem (go.all z (by omega) a (born_nn h.born (by omega)) (by omega))
    have c : fa.getD p 0 = z := by simp [List.getD, hp, e]
    have := hpos p hp
    rw [c] at this
    exact ⟨p, hp, c, by simpa using this⟩
  have hord : ∀ p p', p < p' → p' < fa.length → bs.getD (fa.getD p 0).toNat 0 < bs.getD (fa.getD p' 0).toNat 0 ∨ (bs.getD (fa.getD p 0).toNat 0 = bs.getD (fa.getD p' 0).toNat 0 ∧ aheadI (ndz ns A (fa.getD p 0)) (ndz ns A (fa.getD p' 0)) ≤ 0) := fun p p' hpp hp' => by
    have := List.pairwise_iff_getElem.1 go.order p p' (by omega) hp' hpp
    simpa [List.getD, hp', show p < fa.length by omega] using this
  have hopt : ∀ p, p < fa.length → (∀ o ∈ (ns.getD (fa.getD p 0).toNat default).l, 0 ≤ o ∧ ∃ p', p' < p ∧ fa.getD p' 0 = o ∧ A.getD o.toNat 0 = p') ∧ (∀ o ∈ (ns.getD (fa.getD p 0).toNat default).r, 0 ≤ o ∧ ∃ p', p' < p ∧ fa.getD p' 0 = o ∧ A.getD o.toNat 0 = p') := fun p hp => by
    have u := hmem p hp
    have g := hlw (fa.getD p 0).toNat (by omega)
    have hc := reach_closed ho hm (z := (fa.getD p 0).toNat) (by omega) u.2.2.1
    have key : ∀ o : Int, 0 ≤ o → o < (fa.getD p 0).toNat → bs.getD o.toNat 0 < bs.getD (fa.getD p 0).toNat 0 → (reachM ns m).getD o.toNat false = true → ∃ p', p' < p ∧ fa.getD p' 0 = o ∧ A.getD o.toNat 0 = p' := fun o h0 a b t => by
      obtain ⟨p', hp', f, c⟩ := hfind o.toNat (by omega) t (by omega)
      have e1' : fa.getD p' 0 = o := by omega
      refine ⟨p', ?_, e1', c⟩
      by_cases hlt : p' < p
      · exact hlt
      · by_cases he : p' = p
        · subst he; omega
        · rcases hord p p' (by omega) hp' with v | ⟨v, _⟩ <;> rw [e1'] at v <;> omega
    exact ⟨fun o hox => by have := g.1 o hox; exact ⟨this.1, key o this.1 this.2.1 this.2.2 (hc.1 o hox)⟩, fun o hox => by have := g.2 o hox; exact ⟨this.1, key o this.1 this.2.1 this.2.2 (hc.2 o hox)⟩⟩
  have hlists : ∀ p, p < fa.length → (out.getD p default).l = sortL (atL A (ns.getD (fa.getD p 0).toNat default).l) ∧ (out.getD p default).r = sortL (atL A (ns.getD (fa.getD p 0).toNat default).r) := fun p hp => by
    rw [hget p hp]; exact ⟨rfl, rfl⟩
  have hbnd : ∀ p, p < fa.length → (∀ z ∈ (out.getD p default).l, 0 ≤ z ∧ z < (p : Int)) ∧ (∀ z ∈ (out.getD p default).r, 0 ≤ z ∧ z < (p : Int)) := fun p hp => by
    have a := hopt p hp
    rw [(hlists p hp).1, (hlists p hp).2]
    constructor
    · intro z hz
      obtain ⟨o, hox, e⟩ := mem_atL.1 (mem_sortL.1 hz)
      obtain ⟨_, p', b, _, c⟩ := a.1 o hox
      omega
    · intro z hz
      obtain ⟨o, hox, e⟩ := mem_atL.1 (mem_sortL.1 hz)
      obtain ⟨_, p', b, _, c⟩ := a.2 o hox
      omega
  have hoo : OptsOk out := fun i n hn => by
    obtain ⟨hi, rfl⟩ := List.getElem?_eq_some_iff.1 hn
    have := hbnd i (by omega)
    have e : out.getD i default = out[i] := by simp [List.getD, hi]
    rw [e] at this; exact this
  have hlens : ∀ i, i < out.length → (out.getD i default).l.length ≤ 1048576 ∧ (out.getD i default).r.length ≤ 1048576 := fun i hi => by
    have u := hmem i (by omega)
    have g := h.ok.lens (fa.getD i 0).toNat (by omega)
    rw [(hlists i (by omega)).1, (hlists i (by omega)).2]
    exact ⟨cR jR (by rw [xG]; exact g.1), cR jR (by rw [xG]; exact g.2)⟩
  have wf : Wf out := ⟨⟨by omega, hoo, hlens⟩, fun i hi => by
    have a := hbnd i (by omega)
    refine ⟨rise_pw ?_ fun z hz => by have := a.1 z hz; omega, rise_pw ?_ fun z hz => by have := a.2 z hz; omega⟩
    · rw [(hlists i (by omega)).1]; exact kG _
    · rw [(hlists i (by omega)).2]; exact kG _⟩
  have hden : ∀ p, p < fa.length → den out p = den ns (fa.getD p 0).toNat := by
    intro p
    induction p using Nat.strongRecOn with
    | _ p ih =>
      intro hp
      have a := hopt p hp
      have u := hmem p hp
      rw [den_at (by omega) (hbnd p hp).1 (hbnd p hp).2, jN ho (show (fa.getD p 0).toNat < ns.length by omega), (hlists p hp).1, (hlists p hp).2]
      have key : ∀ l : List Int, (∀ o ∈ l, 0 ≤ o ∧ ∃ p', p' < p ∧ fa.getD p' 0 = o ∧ A.getD o.toNat 0 = p') → ∀ i, i ∈ (sortL (atL A l)).map (fun z => den out z.toNat) ↔ i ∈ l.map fun z => den ns z.toNat := fun l hl i => by
        rw [List.mem_map, List.mem_map]
        constructor
        · rintro ⟨z, hz, rfl⟩
          obtain ⟨o, hox, e⟩ := mem_atL.1 (mem_sortL.1 hz)
          obtain ⟨_, p', b, f, c⟩ := hl o hox
          refine ⟨o, hox, ?_⟩
          have : z.toNat = p' := by omega
          rw [this, ih p' b (by omega), f]
        · rintro ⟨o, hox, rfl⟩
          obtain ⟨_, p', b, f, c⟩ := hl o hox
          refine ⟨(p' : Int), mem_sortL.2 (mem_atL.2 ⟨o, hox, c⟩), ?_⟩
          rw [Int.toNat_natCast, ih p' b (by omega), f]
      exact sV (key _ a.1) (key _ a.2)
  have hborn : ∀ p, p < fa.length → (births out).getD p 0 = bs.getD (fa.getD p 0).toNat 0 := by
    intro p
    induction p using Nat.strongRecOn with
    | _ p ih =>
      intro hp
      have a := hopt p hp
      have u := hmem p hp
      rw [(qL hoo).2 p (by omega), (hlists p hp).1, (hlists p hp).2, putBorn_sort, h.born.2 _ (show (fa.getD p 0).toNat < ns.length by omega)]
      have key : ∀ o : Int, (∃ p', p' < p ∧ fa.getD p' 0 = o ∧ A.getD o.toNat 0 = p') → (births out).getD (A.getD o.toNat 0).toNat 0 = bs.getD o.toNat 0 := fun o ⟨p', b, f, c⟩ => by
        rw [c, Int.toNat_natCast, ih p' b (by omega), f]
      unfold putBorn
      rw [nK fun o hox => key o (a.2 o hox).2, nK fun o hox => key o (a.1 o hox).2]
  have srt : SortedB out (births out) := fun i j hij hj => by
    rw [hborn i (by omega), hborn j (by omega), hget i (by omega), hget j (by omega)]
    rcases hord i j hij (by omega) with a | ⟨a, b⟩
    · exact cF a
    · refine cG ⟨a, ?_⟩
      have hne : aheadI (ndz ns A (fa.getD i 0)) (ndz ns A (fa.getD j 0)) ≠ 0 := fun e => by
        have f := ahead_zero.1 e
        rw [← hget i (by omega), ← hget j (by omega)] at f
        have d1 : den out i = den out j := by
          rw [jN hoo (show i < out.length by omega), jN hoo (show j < out.length by omega), f]
        rw [hden i (by omega), hden j (by omega)] at d1
        have m1 := hmem i (by omega); have m2 := hmem j (by omega)
        have w := h.inj (by omega) (by omega) d1
        have x := hpos i (by omega); have p2 := hpos j (by omega)
        rw [w] at x; omega
      omega
  obtain ⟨pm, hpm, em, _⟩ := hfind m (cH _) reach_self (Int.le_refl _)
  have hroot : ∀ p, p < fa.length → fa.getD p 0 ≠ m → ∃ p', p < p' ∧ p' < fa.length ∧ ((p : Int) ∈ (out.getD p' default).l ∨ (p : Int) ∈ (out.getD p' default).r) := fun p hp hne => by
    have m1 := hmem p hp
    rcases sN m1.2.2.1 with a | ⟨j, hj, hr, z, hz, ez⟩
    · omega
    · have ah : 0 ≤ z := by
        have := xB ho (show j < ns.length by omega)
        rcases hz with hz | hz
        · exact (this.1 z hz).1
        · exact (this.2 z hz).1
      have ez' : z = fa.getD p 0 := by omega
      subst ez'
      have hle : bs.getD j 0 ≤ bs.getD m 0 := by
        have : ∀ n j : Nat, m - j ≤ n → j ≤ m → (reachM ns m).getD j false = true → bs.getD j 0 ≤ bs.getD m 0 := by
          intro n
          induction n with
          | zero => intro j a b _; have : j = m := by omega
                    rw [this]; exact Int.le_refl _
          | succ n ih =>
            intro j a b t
            rcases sN t with v | ⟨i, hi, hri, y, hy, ey⟩
            · rw [v]; exact Int.le_refl _
            · have hl := hlw i (by omega)
              have hyb : 0 ≤ y ∧ y < i ∧ bs.getD y.toNat 0 < bs.getD i 0 := by rcases hy with hy | hy; exact hl.1 y hy; exact hl.2 y hy
              have := ih i (by omega) hi hri
              rw [ey] at hyb; omega
        exact this m j (by omega) hj hr
      obtain ⟨p', hp', f, c⟩ := hfind j hj hr hle
      have a := hopt p' hp'
      rw [f] at a
      simp only [Int.toNat_natCast] at a
      have ad := hpos p hp
      refine ⟨p', ?_, hp', ?_⟩
      · rcases hz with hz | hz
        · obtain ⟨_, q, b, w, e4⟩ := a.1 _ hz; omega
        · obtain ⟨_, q, b, w, e4⟩ := a.2 _ hz; omega
      · rw [(hlists p' hp').1, (hlists p' hp').2, f]
        simp only [Int.toNat_natCast]
        rcases hz with hz | hz
        · exact cF (mem_sortL.2 (mem_atL.2 ⟨_, hz, ad⟩))
        · exact cG (mem_sortL.2 (mem_atL.2 ⟨_, hz, ad⟩))
  have hlast : fa.getD (fa.length - 1) 0 = m := by
    apply Classical.byContradiction
    intro hne
    obtain ⟨p', a, b, _⟩ := hroot (fa.length - 1) (by omega) hne
    omega
  refine ⟨⟨by omega, wf, srt, fun k hk => ?_⟩, ?_, hlen⟩
  · have hne : fa.getD k 0 ≠ m := fun e => by
      have x := hpos k (by omega); have p2 := hpos (fa.length - 1) (by omega)
      rw [e] at x; rw [hlast] at p2; omega
    obtain ⟨p', a, b, t⟩ := hroot k (by omega) hne
    exact ⟨p', a, by omega, t⟩
  · unfold gOf
    rw [hN, hden _ (by omega), hlast, Int.toNat_natCast]
end Go.GL
namespace Go.GL
open Go Go.RowKit
structure PM where
 f : Nat
 o : Nat
 c : Nat
 s : Nat
 n : Nat
structure PSt where
 ns : List Nd
 bs : List Int
 fl : List (ByteArray × Int)
 om : List ((Int × Int) × Bool)
 cm : List (Int × Int)
 sm : List ((Int × Int) × Int)
 gm : List (Int × Int)
def inP (p : Nat) (L R B : Value) (mm : PM) (k : Nat) : Prop := k = p ∨ L.ownBlock = some k ∨ R.ownBlock = some k ∨ B.ownBlock = some k ∨ k = mm.f ∨ k = mm.o ∨ k = mm.c ∨ k = mm.s ∨ k = mm.n
def NP (p : Nat) (L R B : Value) (mm : PM) (x : Option Nat) : Prop := ∀ k, x = some k → ¬ inP p L R B mm k
structure PDiff (mm : PM) : Prop where
 fo : mm.f ≠ mm.o
 fc : mm.f ≠ mm.c
 fs : mm.f ≠ mm.s
 fn : mm.f ≠ mm.n
 oc : mm.o ≠ mm.c
 os : mm.o ≠ mm.s
 on : mm.o ≠ mm.n
 cs : mm.c ≠ mm.s
 cn : mm.c ≠ mm.n
 sn : mm.s ≠ mm.n
structure Pk (er ei : Nat) (G : Pin) (w : World) (p : Nat) (L R B : Value) (mm : PM) (q : PSt) : Prop where
 bx : Bx G w p [L, R, B, .map (some mm.f), .map (some mm.o), .map (some mm.c), .map (some mm.s), .map (some mm.n)]
 ol : Own (eSl eInt) er G w 0 L (q.ns.map Nd.l)
 rr : Own (eSl eInt) er G w 0 R (q.ns.map Nd.r)
 ob : Own eInt ei G w 0 B q.bs
 ff : Mp (fun k : ByteArray => Value.string k) (fun v : Int => Value.int .i64 v) w mm.f q.fl
 fo : Mp encP2 (fun v : Bool => Value.bool v) w mm.o q.om
 fc : Mp (fun k : Int => Value.int .i64 k) (fun v : Int => Value.int .i64 v) w mm.c q.cm
 fs : Mp encP2 (fun v : Int => Value.int .i64 v) w mm.s q.sm
 fn : Mp (fun k : Int => Value.int .i64 k) (fun v : Int => Value.int .i64 v) w mm.n q.gm
 apl : Apart (some p) L.ownBlock
 apr : Apart (some p) R.ownBlock
 apb : Apart (some p) B.ownBlock
 alr : Apart L.ownBlock R.ownBlock
 alb : Apart L.ownBlock B.ownBlock
 arb : Apart R.ownBlock B.ownBlock
 df : PDiff mm
section
variable {er ei : Nat} {G G' : Pin} {w w' : World} {p : Nat} {L R B L' R' B' : Value} {mm : PM} {q : PSt}
variable {x y : Option Nat}
theorem Mp.extS {κ ν : Type} {enc : κ → Value} {val : ν → Value} {m : Nat} {l : List (κ × ν)} {S : Nat → Prop} (h : Mp enc val w m l) (hx : Ext S G w G' w') (hS : ¬ S m) : Mp enc val w' m l := h.keep (hx.block m h.lt hS)
theorem Pk.lt (h : Pk er ei G w p L R B mm q) : ∀ k, inP p L R B mm k → k < w.heap.size := fun k hk => by
 rcases hk with rfl | hk | hk | hk | rfl | rfl | rfl | rfl | rfl
 ·exact h.bx.lt
 ·exact (h.ol.lt k hk).2
 ·exact (h.rr.lt k hk).2
 ·exact (h.ob.lt k hk).2
 ·exact h.ff.lt
 ·exact h.fo.lt
 ·exact h.fc.lt
 ·exact h.fs.lt
 ·exact h.fn.lt
theorem Pk.extS {S : Nat → Prop} (h : Pk er ei G w p L R B mm q) (hx : Ext S G w G' w') (hS : ∀ k, inP p L R B mm k → ¬ S k) : Pk er ei G' w' p L R B mm q where
 bx := h.bx.extS hx (hS _ (cF rfl))
 ol := h.ol.extS hx fun k hk => hS k (cG (cF hk))
 rr := h.rr.extS hx fun k hk => hS k (cG (cG (cF hk)))
 ob := h.ob.extS hx fun k hk => hS k (cG (cG (cG (cF hk))))
 ff := h.ff.extS hx (hS _ (cG (cG (cG (cG (cF rfl))))))
 fo := h.fo.extS hx (hS _ (cG (cG (cG (cG (cG (cF rfl)))))))
 fc := h.fc.extS hx (hS _ (cG (cG (cG (cG (cG (cG (cF rfl))))))))
 fs := h.fs.extS hx (hS _ (cG (cG (cG (cG (cG (cG (cG (cF rfl)))))))))
 fn := h.fn.extS hx (hS _ (cG (cG (cG (cG (cG (cG (cG (cG rfl)))))))))
 apl := h.apl
 apr := h.apr
 apb := h.apb
 alr := h.alr
 alb := h.alb
 arb := h.arb
 df := h.df
theorem Pk.ext (h : Pk er ei G w p L R B mm q) (hx : Ext noS G w G' w') : Pk er ei G' w' p L R B mm q := h.extS hx fun _ _ => id
theorem Pk.below (h : Pk er ei G w p L R B mm q) (hb : Below w.heap.size w w') (hP : Pins G w') : Pk er ei G w' p L R B mm q :=
 h.ext ⟨cJ _, hP, fun _ _ _ h => cF h, hb.os, hb.tape, hb.output, hb.size, fun k hk _ => hb.block k hk⟩
theorem Pk.kept (h : Pk er ei G w p L R B mm q) (hg : w.grownBy w' x) (hP : Pins G w') (hn : NP p L R B mm x) : Pk er ei G w' p L R B mm q :=
 h.extS (Ext.one hP hg) fun k hk hx => hn k hx hk
theorem Pk.more {b : Nat} (h : Pk er ei G w p L R B mm q) (hl : Pin.le G G') (hf : ∀ k o u, G' k o u → G k o u ∨ k = b) (hn : NP p L R B mm (some b)) : Pk er ei G' w p L R B mm q where
 bx := h.bx.moreA hf fun k a c => hn k c (by cases a; exact cF rfl)
 ol := h.ol.moreA hl hf fun k a c => hn k c (cG (cF a))
 rr := h.rr.moreA hl hf fun k a c => hn k c (cG (cG (cF a)))
 ob := h.ob.moreA hl hf fun k a c => hn k c (cG (cG (cG (cF a))))
 ff := h.ff
 fo := h.fo
 fc := h.fc
 fs := h.fs
 fn := h.fn
 apl := h.apl
 apr := h.apr
 apb := h.apb
 alr := h.alr
 alb := h.alb
 arb := h.arb
 df := h.df
theorem Pk.moreO {v : Value} (h : Pk er ei G w p L R B mm q) (hl : Pin.le G G') (hf : ∀ k o u, G' k o u → G k o u ∨ v.ownBlock = some k) (hn : NP p L R B mm v.ownBlock) : Pk er ei G' w p L R B mm q where
 bx := h.bx.moreO hf fun k a c => hn k c (by cases a; exact cF rfl)
 ol := h.ol.moreO hl hf fun k a c => hn k c (cG (cF a))
 rr := h.rr.moreO hl hf fun k a c => hn k c (cG (cG (cF a)))
 ob := h.ob.moreO hl hf fun k a c => hn k c (cG (cG (cG (cF a))))
 ff := h.ff
 fo := h.fo
 fc := h.fc
 fs := h.fs
 fn := h.fn
 apl := h.apl
 apr := h.apr
 apb := h.apb
 alr := h.alr
 alb := h.alb
 arb := h.arb
 df := h.df
theorem Pk.new (h : Pk er ei G w p L R B mm q) (hx : ∀ k, x = some k → w.heap.size ≤ k) : NP p L R B mm x := fun k hk hi => by
 have h1 := h.lt k hi; have h2 := hx k hk; omega
theorem jX (hn : NP p L R B mm x) (h : Pk er ei G w p L R B mm q) (hw : y = x ∨ ∃ k, y = some k ∧ w.heap.size ≤ k) : NP p L R B mm y := by
 rcases hw with rfl | ⟨k, rfl, hk⟩
 ·exact hn
 ·exact h.new fun j hj => by cases hj; exact hk
theorem np_turn (hn : NP p L R B mm x) (h : Pk er ei G w p L R B mm q) (hl : Lo w (inO x) y) : NP p L R B mm y := fun k hk hi => by
 rcases hl k hk with h1 | h1
 ·have := h.lt k hi; omega
 ·exact hn k h1 hi
theorem NP.notb {c : Nat} (h : NP p L R B mm (some c)) : ¬ inP p L R B mm c := h c rfl
structure PLo (w : World) (p : Nat) (L R B : Value) (mm : PM) (L' R' B' : Value) : Prop where
 l : Lo w (inP p L R B mm) L'.ownBlock
 r : Lo w (inP p L R B mm) R'.ownBlock
 b : Lo w (inP p L R B mm) B'.ownBlock
theorem PLo.in (h : PLo w p L R B mm L' R' B') : ∀ k, inP p L' R' B' mm k → w.heap.size ≤ k ∨ inP p L R B mm k := fun k hk => by
 rcases hk with rfl | hk | hk | hk | hk
 ·exact cG (cF rfl)
 ·exact h.l k hk
 ·exact h.r k hk
 ·exact h.b k hk
 ·exact cG (cG (cG (cG (cG hk))))
theorem NP.call (h : NP p L R B mm x) (hlo : PLo w p L R B mm L' R' B') (hl : ∀ k, x = some k → k < w.heap.size) : NP p L' R' B' mm x := fun k hk hi => by
 rcases hlo.in k hi with h1 | h1
 ·have := hl k hk; omega
 ·exact h k hk h1
def PIn (w0 : World) (S : Nat → Prop) (p : Nat) (L R B : Value) (mm : PM) : Prop := ∀ k, inP p L R B mm k → w0.heap.size ≤ k ∨ S k
theorem PIn.self {w0 : World} : PIn w0 (inP p L R B mm) p L R B mm := fun _ h => cG h
theorem PIn.call {w0 : World} {S : Nat → Prop} (h : PIn w0 S p L R B mm) (hlo : PLo w p L R B mm L' R' B') (hs : w0.heap.size ≤ w.heap.size) : PIn w0 S p L' R' B' mm := fun k hk => by
 rcases hlo.in k hk with h1 | h1
 ·exact cF (by omega)
 ·exact h k h1
theorem PIn.lo {w0 : World} {p0 : Nat} {L0 R0 B0 : Value} (h : PIn w0 (inP p0 L0 R0 B0 mm) p L R B mm) (hp : p = p0) : PLo w0 p0 L0 R0 B0 mm L R B := by
 subst hp
 exact ⟨fun k hk => h k (cG (cF hk)), fun k hk => h k (cG (cG (cF hk))), fun k hk => h k (cG (cG (cG (cF hk))))⟩
theorem PIn.o {w0 : World} {S : Nat → Prop} (h : PIn w0 S p L R B mm) : Lo w0 S (some mm.o) := fun k hk => by
 cases hk; exact h _ (cG (cG (cG (cG (cG (cF rfl))))))
theorem PIn.c {w0 : World} {S : Nat → Prop} (h : PIn w0 S p L R B mm) : Lo w0 S (some mm.c) := fun k hk => by
 cases hk; exact h _ (cG (cG (cG (cG (cG (cG (cF rfl)))))))
theorem NP.ho (h : NP p L R B mm x) : Apart x (some mm.o) := fun k a c => h k a (by cases c; exact cG (cG (cG (cG (cG (cF rfl))))))
theorem NP.hc (h : NP p L R B mm x) : Apart x (some mm.c) := fun k a c => h k a (by cases c; exact cG (cG (cG (cG (cG (cG (cF rfl)))))))
theorem NP.hs (h : NP p L R B mm x) : Apart x (some mm.s) := fun k a c => h k a (by cases c; exact cG (cG (cG (cG (cG (cG (cG (cF rfl))))))))
theorem NP.hn (h : NP p L R B mm x) : Apart x (some mm.n) := fun k a c => h k a (by cases c; exact cG (cG (cG (cG (cG (cG (cG (cG rfl))))))))
theorem NP.hp (h : NP p L R B mm x) : Apart x (some p) := fun k a c => h k a (by cases c; exact cF rfl)
theorem NP.hl (h : NP p L R B mm x) : Apart x L.ownBlock := fun k a c => h k a (cG (cF c))
theorem NP.hr (h : NP p L R B mm x) : Apart x R.ownBlock := fun k a c => h k a (cG (cG (cF c)))
theorem NP.hb (h : NP p L R B mm x) : Apart x B.ownBlock := fun k a c => h k a (cG (cG (cG (cF c))))
theorem Pk.setO (h : Pk er ei G w p L R B mm q) (hx : Ext (inO (some mm.o)) G w G' w') {om : List ((Int × Int) × Bool)} (hm : Mp encP2 (fun v : Bool => Value.bool v) w' mm.o om) : Pk er ei G' w' p L R B mm { q with om := om } where
 bx := h.bx.extS hx (xX fun k a c => (xL h.fo h.bx) k c a)
 ol := h.ol.extS hx (notO (yT h.fo h.ol).symm)
 rr := h.rr.extS hx (notO (yT h.fo h.rr).symm)
 ob := h.ob.extS hx (notO (yT h.fo h.ob).symm)
 ff := h.ff.extS hx (fun e => h.df.fo (Option.some.inj e).symm)
 fo := hm
 fc := h.fc.extS hx (fun e => h.df.oc (Option.some.inj e))
 fs := h.fs.extS hx (fun e => h.df.os (Option.some.inj e))
 fn := h.fn.extS hx (fun e => h.df.on (Option.some.inj e))
 apl := h.apl
 apr := h.apr
 apb := h.apb
 alr := h.alr
 alb := h.alb
 arb := h.arb
 df := h.df
theorem Pk.setC (h : Pk er ei G w p L R B mm q) (hx : Ext (inO (some mm.c)) G w G' w') {cm : List (Int × Int)} (hm : Mp (fun k : Int => Value.int .i64 k) (fun v : Int => Value.int .i64 v) w' mm.c cm) : Pk er ei G' w' p L R B mm { q with cm := cm } where
 bx := h.bx.extS hx (xX fun k a c => (xL h.fc h.bx) k c a)
 ol := h.ol.extS hx (notO (yT h.fc h.ol).symm)
 rr := h.rr.extS hx (notO (yT h.fc h.rr).symm)
 ob := h.ob.extS hx (notO (yT h.fc h.ob).symm)
 ff := h.ff.extS hx (fun e => h.df.fc (Option.some.inj e).symm)
 fo := h.fo.extS hx (fun e => h.df.oc (Option.some.inj e).symm)
 fc := hm
 fs := h.fs.extS hx (fun e => h.df.cs (Option.some.inj e))
 fn := h.fn.extS hx (fun e => h.df.cn (Option.some.inj e))
 apl := h.apl
 apr := h.apr
 apb := h.apb
 alr := h.alr
 alb := h.alb
 arb := h.arb
 df := h.df
end
def pd (q : PSt) (z : Int) : Nat := den q.ns z.toNat
def PlaceOk (q : PSt) (z : Int) : Prop := 0 ≤ z ∧ z < q.ns.length
structure FindOk (ns : List Nd) (fl : List (ByteArray × Int)) : Prop where
 has : ∀ i : Nat, i < ns.length → look fl (b2s (keyN (ns.getD i default).l (ns.getD i default).r)) = some (i : Int)
 is : ∀ (l r : List Int) (z : Int), (∀ x ∈ l, 0 ≤ x) → (∀ x ∈ r, 0 ≤ x) → look fl (b2s (keyN l r)) = some z → ∃ i : Nat, i < ns.length ∧ z = i ∧ ns.getD i default = ⟨l, r⟩
structure PoolOk (q : PSt) : Prop where
 ar : Ar q.ns q.bs
 find : FindOk q.ns q.fl
 ord : ∀ a b v, look q.om (a, b) = some v → PlaceOk q a ∧ PlaceOk q b ∧ v = decP (geG (pd q a) (pd q b))
 can : ∀ a z, look q.cm a = some z → PlaceOk q a ∧ PlaceOk q z ∧ CanonG (pd q z) ∧ eqG (pd q z) (pd q a)
 sum : ∀ a b z, look q.sm (a, b) = some z → PlaceOk q a ∧ PlaceOk q b ∧ PlaceOk q z ∧ pd q z = addG (pd q a) (pd q b)
 neg : ∀ a z, look q.gm a = some z → PlaceOk q a ∧ PlaceOk q z ∧ pd q z = negG (pd q a)
theorem pkl (q : PSt) : (q.ns.map Nd.l).length = q.ns.length ∧ (q.ns.map Nd.r).length = q.ns.length := ⟨List.length_map .., List.length_map ..⟩
theorem pkb {q : PSt} (h : PoolOk q) : q.bs.length = q.ns.length ∧ q.ns.length ≤ 1048576 := ⟨h.ar.ok.len, h.ar.ok.lim⟩
structure PX (q q' : PSt) : Prop where
 len : q.ns.length ≤ q'.ns.length
 old : ∀ k, k < q.ns.length → q'.ns.getD k default = q.ns.getD k default
 can : ∀ a, look q'.cm a = none → look q.cm a = none
theorem PX.refl (q : PSt) : PX q q := ⟨cH _, fun _ _ => rfl, fun _ h => h⟩
theorem PX.put {q : PSt} {a z : Int} : PX q { q with cm := putE q.cm a z } := ⟨cH _, fun _ _ => rfl, fun b hb => by
 simp only at hb
 rw [jL] at hb
 split at hb
 ·cases hb
 ·exact hb⟩
variable {z a : Int}
theorem PX.trans {a b c : PSt} (h : PX a b) (k : PX b c) : PX a c := ⟨cR h.len k.len, fun i hi => (k.old i (by have := h.len; omega)).trans (h.old i hi), fun a ha => h.can a (k.can a ha)⟩
theorem cL : type_of% @PX.trans := @PX.trans
theorem PX.den {q q' : PSt} (h : PX q q') (ho : OptsOk q.ns) (ho' : OptsOk q'.ns) : ∀ k, k < q.ns.length → den q'.ns k = den q.ns k := by
 intro k
 induction k using Nat.strongRecOn with
 | _ k ih =>
  intro hk
  have oo := xB ho hk
  rw [jN ho' (by have := h.len; omega), jN ho hk, h.old k hk]
  rw [List.map_congr_left fun z hz => ih z.toNat (by have := oo.1 z hz; omega) (by have := oo.1 z hz; omega)]
  rw [List.map_congr_left (l := (q.ns.getD k default).r) fun z hz => ih z.toNat (by have := oo.2 z hz; omega) (by have := oo.2 z hz; omega)]
theorem PX.pd {q q' : PSt} (h : PX q q') (hq : PoolOk q) (hq' : PoolOk q') {z : Int} (hz : PlaceOk q z) : pd q' z = pd q z := h.den hq.ar.opts hq'.ar.opts _ (by have := hz.1; have := hz.2; omega)
theorem PX.place {q q' : PSt} (h : PX q q') (hz : PlaceOk q z) : PlaceOk q' z := ⟨hz.1, by have := hz.2; have := h.len; omega⟩
theorem vF (ns : List Nd) (i : Nat) : (ns.map Nd.l).getD i [] = (ns.getD i default).l := by
 simp only [List.getD, List.getElem?_map]
 cases ns[i]? <;> rfl
theorem vE (ns : List Nd) (i : Nat) : (ns.map Nd.r).getD i [] = (ns.getD i default).r := by
 simp only [List.getD, List.getElem?_map]
 cases ns[i]? <;> rfl
theorem PoolOk.empty : PoolOk ⟨[], [], [], [], [], [], []⟩ where
 ar := Ar.empty
 find := ⟨fun i hi => absurd hi (cK i), fun l r z _ _ h => by cases h⟩
 ord := fun a b v h => by cases h
 can := fun a z h => by cases h
 sum := fun a b z h => by cases h
 neg := fun a z h => by cases h
theorem PoolOk.setO {q : PSt} (h : PoolOk q) {b : Int} {v : Bool} (ha : PlaceOk q a) (hb : PlaceOk q b) (hv : v = decP (geG (pd q a) (pd q b))) : PoolOk { q with om := putE q.om (a, b) v } :=
 by
 refine ⟨h.ar, h.find, ?_, h.can, h.sum, h.neg⟩
 intro c d u hu
 simp only at hu
 rw [jL] at hu
 split at hu
 ·rename_i he
  cases he; cases hu
  exact ⟨ha, hb, hv⟩
 ·exact h.ord c d u hu
theorem PoolOk.setC {q : PSt} (h : PoolOk q) (ha : PlaceOk q a) (hz : PlaceOk q z) (hc : CanonG (pd q z)) (he : eqG (pd q z) (pd q a)) : PoolOk { q with cm := putE q.cm a z } :=
 by
 refine ⟨h.ar, h.find, h.ord, ?_, h.sum, h.neg⟩
 intro c d hu
 simp only at hu
 rw [jL] at hu
 split at hu
 ·rename_i he'
  cases he'; cases hu
  exact ⟨ha, hz, hc, he⟩
 ·exact h.can c d hu
section
variable {p : Nat} {L R B : Value} {mm : PM} {w0 : World} {S : Nat → Prop}
theorem PIn.lp (h : PIn w0 S p L R B mm) : Lo w0 S (some p) := fun k hk => by cases hk; exact h _ (cF rfl)
theorem PIn.ll (h : PIn w0 S p L R B mm) : Lo w0 S L.ownBlock := fun k hk => h k (cG (cF hk))
theorem PIn.lr (h : PIn w0 S p L R B mm) : Lo w0 S R.ownBlock := fun k hk => h k (cG (cG (cF hk)))
theorem PIn.lb (h : PIn w0 S p L R B mm) : Lo w0 S B.ownBlock := fun k hk => h k (cG (cG (cG (cF hk))))
theorem PIn.f (h : PIn w0 S p L R B mm) : Lo w0 S (some mm.f) := fun k hk => by cases hk; exact h _ (cG (cG (cG (cG (cF rfl)))))
variable {x : Option Nat}
theorem NP.hf (h : NP p L R B mm x) : Apart x (some mm.f) := fun k a c => h k a (by cases c; exact cG (cG (cG (cG (cF rfl)))))
theorem PIn.fresh {w : World} (h : ∀ k, inP p L R B mm k → w.heap.size ≤ k) (hs : w0.heap.size ≤ w.heap.size) : PIn w0 S p L R B mm := fun k hk => cF (by have := h k hk; omega)
theorem np_fresh {w : World} (h : ∀ k, inP p L R B mm k → w.heap.size ≤ k) (hl : ∀ k, x = some k → k < w.heap.size) : NP p L R B mm x := fun k hk hi => by have := h k hi; have := hl k hk; omega
theorem gD {a b : Nat} (h : a ≠ b) : Apart (some a) (some b) := fun k hk hb => by cases hk; cases hb; exact h rfl
end
variable {xs ys ls : List Int}
theorem lookF {q : PSt} (h : PoolOk q) (h1 : ∀ i, i < xs.length → 0 ≤ xs.getD i 0 ∧ xs.getD i 0 < q.ns.length) (h2 : ∀ i, i < ys.length → 0 ≤ ys.getD i 0 ∧ ys.getD i 0 < q.ns.length)
  {z : Int} (hz : look q.fl (b2s (keyN (sortL xs) (sortL ys))) = some z) : PlaceOk q z ∧ pd q z = mkG (xs.map (pd q)) (ys.map (pd q)) := by
 have m1 := xV (P := fun k => 0 ≤ k ∧ k < (q.ns.length : Int)) h1
 have m2 := xV (P := fun k => 0 ≤ k ∧ k < (q.ns.length : Int)) h2
 obtain ⟨i, hi, rfl, e⟩ := h.find.is _ _ _ (fun x hx => (m1 x (mem_sortL.1 hx)).1) (fun x hx => (m2 x (mem_sortL.1 hx)).1) hz
 refine ⟨⟨by omega, by omega⟩, ?_⟩
 unfold pd
 rw [Int.toNat_natCast, jN h.ar.opts hi, e]
 exact sV (fun x => by simp only [List.mem_map, mem_sortL]) (fun x => by simp only [List.mem_map, mem_sortL])
def addQ (q : PSt) (xs ys : List Int) (b : Int) : PSt := { q with ns := q.ns ++ [⟨sortL xs, sortL ys⟩], bs := q.bs ++ [b], fl := putE q.fl (b2s (keyN (sortL xs) (sortL ys))) (q.ns.length : Int) }
theorem PoolOk.add {q : PSt} (h : PoolOk q) {b : Int} (hl : q.ns.length + 1 ≤ 1048576) (hls : xs.length ≤ 1048576 ∧ ys.length ≤ 1048576)
  (h1 : ∀ i, i < xs.length → 0 ≤ xs.getD i 0 ∧ xs.getD i 0 < q.ns.length) (h2 : ∀ i, i < ys.length → 0 ≤ ys.getD i 0 ∧ ys.getD i 0 < q.ns.length)
  (hn : look q.fl (b2s (keyN (sortL xs) (sortL ys))) = none) (hb : b = bornOf q.bs (sortL ys) (bornOf q.bs (sortL xs) 0)) :
  PoolOk (addQ q xs ys b) ∧ PX q (addQ q xs ys b) ∧ PlaceOk (addQ q xs ys b) (q.ns.length : Int) ∧ pd (addQ q xs ys b) (q.ns.length : Int) = mkG (xs.map (pd q)) (ys.map (pd q)) ∧ (addQ q xs ys b).ns.length ≤ q.ns.length + 1 := by
 have o := xV (P := fun k => 0 ≤ k ∧ k < (q.ns.length : Int)) h1
 have p := xV (P := fun k => 0 ≤ k ∧ k < (q.ns.length : Int)) h2
 have u : b = putBorn q.bs xs ys := hb.trans putBorn_sort
 have hf : findK q.ns q.bs (putNd xs ys) (putBorn q.bs xs ys) = none := by
  cases hf : findK q.ns q.bs (putNd xs ys) (putBorn q.bs xs ys) with
  | none => rfl
  | some k =>
   exfalso
   have hk : k < q.ns.length := by simpa using List.mem_of_find?_eq_some hf
   have hd : q.bs.getD k 0 = putBorn q.bs xs ys ∧ (q.ns.getD k default).l = sortL xs ∧ (q.ns.getD k default).r = sortL ys := by
    have hdec := List.find?_some hf
    exact of_decide_eq_true hdec
   have := h.find.has k hk
   rw [hd.2.1, hd.2.2, hn] at this
   cases this
 have hp := h.ar.put hl hls h1 h2
 have eN : putN q.ns q.bs xs ys = q.ns ++ [⟨sortL xs, sortL ys⟩] := by unfold putN; rw [hf]; rfl
 have eB : putB q.ns q.bs xs ys = q.bs ++ [b] := by unfold putB; rw [hf, u]
 have eK : putK q.ns q.bs xs ys = q.ns.length := by unfold putK; rw [hf]
 rw [eN, eB, eK] at hp
 have hpx : PX q (addQ q xs ys b) := ⟨by simp [addQ], fun k hk => yX hk, fun _ h => h⟩
 have hpd : ∀ z : Int, PlaceOk q z → pd (addQ q xs ys b) z = pd q z := fun z hz => hp.2.2 z.toNat (by have := hz.1; have := hz.2; omega)
 have hpl : ∀ z : Int, PlaceOk q z → PlaceOk (addQ q xs ys b) z := fun z hz => hpx.place hz
 have hlen : (q.ns ++ [(⟨sortL xs, sortL ys⟩ : Nd)]).length = q.ns.length + 1 := by simp
 refine ⟨⟨hp.1, ⟨fun i hi => ?_, fun l r z s t hz => ?_⟩, fun a c v hv => ?_, fun a z hz => ?_, fun a c z hz => ?_, fun a z hz => ?_⟩, hpx, ⟨by omega, by show (q.ns.length : Int) < ((q.ns ++ [(⟨sortL xs, sortL ys⟩ : Nd)]).length : Int); rw [hlen]; omega⟩, ?_, by show (q.ns ++ [(⟨sortL xs, sortL ys⟩ : Nd)]).length ≤ _; rw [hlen]; exact cH _⟩
 ·show look (putE q.fl _ _) _ = _
  have hi' : i < q.ns.length + 1 := by rw [← hlen]; exact hi
  by_cases he : i < q.ns.length
  ·have e : (addQ q xs ys b).ns.getD i default = q.ns.getD i default := yX he
   rw [e, jL, if_neg]
   ·exact h.find.has i he
   ·intro hk
    have oo := xB h.ar.opts he
    obtain ⟨j, m⟩ := sZ (fun z hz => (oo.1 z hz).1) (fun z hz => (oo.2 z hz).1) (fun z hz => (o z (mem_sortL.1 hz)).1) (fun z hz => (p z (mem_sortL.1 hz)).1) (b2s_inj hk)
    have := h.find.has i he
    rw [j, m, hn] at this
    cases this
  ·have w : i = q.ns.length := by omega
   subst w
   have e : (addQ q xs ys b).ns.getD q.ns.length default = ⟨sortL xs, sortL ys⟩ := xJ rfl
   rw [e, jL, if_pos rfl]
 ·have hz' : look (putE q.fl (b2s (keyN (sortL xs) (sortL ys))) (q.ns.length : Int)) (b2s (keyN l r)) = some z := hz
  rw [jL] at hz'
  split at hz'
  ·rename_i hk
   obtain ⟨j, m⟩ := sZ s t (fun z hz => (o z (mem_sortL.1 hz)).1) (fun z hz => (p z (mem_sortL.1 hz)).1) (b2s_inj hk)
   cases hz'
   exact ⟨q.ns.length, by show _ < (q.ns ++ [_]).length; rw [hlen]; omega, rfl, by rw [j, m]; exact xJ rfl⟩
  ·obtain ⟨i, f, d, g⟩ := h.find.is l r z s t hz'
   exact ⟨i, by show _ < (q.ns ++ [_]).length; rw [hlen]; omega, d, (yX f).trans g⟩
 ·obtain ⟨f, d, g⟩ := h.ord a c v hv
  exact ⟨hpl a f, hpl c d, by rw [hpd a f, hpd c d]; exact g⟩
 ·obtain ⟨f, d, g, n⟩ := h.can a z hz
  exact ⟨hpl a f, hpl z d, by rw [hpd z d]; exact g, by rw [hpd z d, hpd a f]; exact n⟩
 ·obtain ⟨f, d, g, n⟩ := h.sum a c z hz
  exact ⟨hpl a f, hpl c d, hpl z g, by rw [hpd z g, hpd a f, hpd c d]; exact n⟩
 ·obtain ⟨f, d, g⟩ := h.neg a z hz
  exact ⟨hpl a f, hpl z d, by rw [hpd z d, hpd a f]; exact g⟩
 ·exact hp.2.1
theorem px_map {q q' : PSt} (h : PX q q') (hq : PoolOk q) (hq' : PoolOk q') (hl : ∀ z ∈ ls, PlaceOk q z) : ls.map (pd q') = ls.map (pd q) := List.map_congr_left fun z hz => h.pd hq hq' (hl z hz)
theorem jT {q : PSt} (h : ∀ z ∈ ls, PlaceOk q z) : ∀ i, i < ls.length → 0 ≤ ls.getD i 0 ∧ ls.getD i 0 < q.ns.length := fun _ hi => h _ (yE hi)
theorem nQ {n : Nat} (h1 : ∀ i, i < xs.length → 0 ≤ xs.getD i 0 ∧ xs.getD i 0 < n) : ∀ i, i < (sortL xs).length → 0 ≤ (sortL xs).getD i 0 ∧ (sortL xs).getD i 0 < n := fun _ hi =>
 xV (P := fun k => 0 ≤ k ∧ k < (n : Int)) h1 _ (mem_sortL.1 (yE hi))
theorem nD {n j : Nat} (h1 : ∀ i, i < xs.length → 0 ≤ xs.getD i 0 ∧ xs.getD i 0 < n) (hn : n ≤ 1048576) : (keyL (xs.take j)).length ≤ 14 * xs.length := by
 have := key_len (l := xs.take j) fun z hz => by
  have := xV (P := fun k => 0 ≤ k ∧ k < (n : Int)) h1 z (List.mem_of_mem_take hz); omega
 have h2 : (xs.take j).length ≤ xs.length := by simp; omega
 omega
end Go.GL
namespace Go.GL
open Go Go.RowKit
theorem at_getD {a l : List Int} {i : Nat} (h : i < l.length) : (atL a l).getD i 0 = a.getD (l.getD i 0).toNat 0 := by simp [atL, List.getD, h]
theorem renL_len (u : Nat → Bool) (l : List Int) : (renL u l).length = l.length := by simp [renL]
theorem part_lens {ns : List Nd} (h : GoodP ns) {m : Nat} (hm : m < ns.length) : (partI ns m).length ≤ 120 ∧ ∀ n ∈ partI ns m, n.l.length ≤ 24 ∧ n.r.length ≤ 24 := by
 refine ⟨by have := partI_len ns m; have := h.hi; omega, fun n hn => ?_⟩
 unfold partI partN at hn
 obtain ⟨z, hz, rfl⟩ := List.mem_map.1 hn
 have h1 := List.mem_range.1 (List.mem_filter.1 hz).1
 unfold nodeU
 rw [renL_len, renL_len]
 exact ⟨h.lenl (by omega), h.lenr (by omega)⟩
variable {q q2 : PSt} {a b : Int} {fs : List Nd} {k : Nat} {ats l : List Int}
theorem zO {a b c : PSt} (h : b.ns = a.ns ∧ b.bs = a.bs) (k : c.ns = b.ns ∧ c.bs = b.bs) : c.ns = a.ns ∧ c.bs = a.bs := ⟨k.1.trans h.1, k.2.trans h.2⟩
theorem PlaceOk.same (hn : q2.ns = q.ns ∧ q2.bs = q.bs) (h : PlaceOk q a) : PlaceOk q2 a := by unfold PlaceOk; rw [hn.1]; exact h
theorem xM (hn : q2.ns = q.ns ∧ q2.bs = q.bs) : pd q2 a = pd q a := by unfold pd; rw [hn.1]
theorem xW (hn : q2.ns = q.ns ∧ q2.bs = q.bs) : geB q2.ns a b = geB q.ns a b := by rw [hn.1]
theorem setO_ok {v : Bool} (hn : q2.ns = q.ns ∧ q2.bs = q.bs) (hv : geB q.ns a b = v) : v = decP (geG (pd q2 a) (pd q2 b)) := by
 rw [xM hn, xM hn, ← hv]; rfl
theorem geB_refl {ns : List Nd} : geB ns a a = true := decP_true.2 (jM _)
structure LdOk (fs : List Nd) (q q2 : PSt) (k : Nat) (ats : List Int) : Prop where
 len : ats.length = k
 hi : q2.ns.length ≤ q.ns.length + k
 pl : ∀ i, i < k → PlaceOk q2 (ats.getD i 0) ∧ pd q2 (ats.getD i 0) = den fs i
theorem LdOk.start : LdOk fs q q 0 [] := ⟨rfl, cH _, fun i hi => absurd hi (cK i)⟩
theorem LdOk.opt (h : LdOk fs q q2 k ats) (hl : ∀ z ∈ l, 0 ≤ z ∧ z < k) :
  ∀ i, i < (atL ats l).length → 0 ≤ (atL ats l).getD i 0 ∧ (atL ats l).getD i 0 < q2.ns.length := by
 intro i hi
 rw [xG] at hi
 rw [at_getD hi]
 have := hl _ (yE (d := (0 : Int)) hi)
 exact (h.pl _ (by omega)).1
theorem LdOk.den (h : LdOk fs q q2 k ats) (hl : ∀ z ∈ l, 0 ≤ z ∧ z < k) :
  (atL ats l).map (pd q2) = l.map fun z => GL.den fs z.toNat := by
 unfold atL
 rw [List.map_map]
 refine List.map_congr_left fun z hz => ?_
 have := hl z hz
 exact (h.pl z.toNat (by omega)).2
theorem LdOk.step {q3 : PSt} {z : Int} (h : LdOk fs q q2 k ats) (hf : FormOk fs) (hk : k < fs.length) (hq : PoolOk q2) (hq' : PoolOk q3) (hx : PX q2 q3) (hz : PlaceOk q3 z)
  (hd : pd q3 z = mkG ((atL ats (fs.getD k default).l).map (pd q2)) ((atL ats (fs.getD k default).r).map (pd q2))) (hn : q3.ns.length ≤ q2.ns.length + 1) : LdOk fs q q3 (k + 1) (ats ++ [z]) := by
 have oo := xB hf.opts hk
 refine ⟨by rw [List.length_append, h.len]; rfl, by have := h.hi; omega, fun i hi => ?_⟩
 by_cases he : i = k
 ·subst he
  have e : (ats ++ [z]).getD i 0 = z := by rw [← h.len]; simp [List.getD]
  rw [e]
  refine ⟨hz, ?_⟩
  rw [hd, h.den oo.1, h.den oo.2, jN hf.opts hk]
 ·have hi' : i < k := by omega
  have e : (ats ++ [z]).getD i 0 = ats.getD i 0 := by simp [List.getD, List.getElem?_append_left (show i < ats.length by rw [h.len]; exact hi')]
  rw [e]
  have := h.pl i hi'
  exact ⟨hx.place this.1, (hx.pd hq hq' this.1).trans this.2⟩
end Go.GL
namespace Go.GL
open Go Go.RowKit
end Go.GL
namespace Go.GL
variable {a b : List Nd} {i j : Nat}
theorem mV (ha : SG a) (hb : SG b) {n : Nat} (hi : i < a.length) (hj : j < b.length) (hpre : ∀ k, k < n → k < a.length ∧ k < b.length ∧ den a k = den b k)
  (hai : (∀ z ∈ (a.getD i default).l, z < (n : Int)) ∧ (∀ z ∈ (a.getD i default).r, z < (n : Int))) (hbj : (∀ z ∈ (b.getD j default).l, z < (n : Int)) ∧ (∀ z ∈ (b.getD j default).r, z < (n : Int)))
  (he : den a i = den b j) : a.getD i default = b.getD j default := by
 have oa := xB ha.opts hi
 have ob := xB hb.opts hj
 refine mX (gC (ha.pw i hi).1 (hb.pw j hj).1 fun z => ⟨fun hz => ?_, fun hz => ?_⟩) (gC (ha.pw i hi).2 (hb.pw j hj).2 fun z => ⟨fun hz => ?_, fun hz => ?_⟩)
 ·have h1 : loG (den a i) (den a z.toNat) := (qH ha.opts hi).2 ⟨z, hz, rfl⟩
  rw [he] at h1
  obtain ⟨y, hy, e⟩ := (qH hb.opts hj).1 h1
  have z1 := oa.1 z hz; have z2 := hai.1 z hz; have y1 := ob.1 y hy; have y2 := hbj.1 y hy
  have p1 := hpre z.toNat (by omega); have p2 := hpre y.toNat (by omega)
  have := ha.inj (i := z.toNat) (j := y.toNat) (by omega) (by omega) (by rw [e, p2.2.2])
  have : z = y := by omega
  rwa [this]
 ·have h1 : loG (den b j) (den b z.toNat) := (qH hb.opts hj).2 ⟨z, hz, rfl⟩
  rw [← he] at h1
  obtain ⟨y, hy, e⟩ := (qH ha.opts hi).1 h1
  have z1 := ob.1 z hz; have z2 := hbj.1 z hz; have y1 := oa.1 y hy; have y2 := hai.1 y hy
  have p1 := hpre z.toNat (by omega); have p2 := hpre y.toNat (by omega)
  have := ha.inj (i := z.toNat) (j := y.toNat) (by omega) (by omega) (by rw [← e, p1.2.2])
  have : z = y := by omega
  rwa [this]
 ·have h1 : roG (den a i) (den a z.toNat) := (qE ha.opts hi).2 ⟨z, hz, rfl⟩
  rw [he] at h1
  obtain ⟨y, hy, e⟩ := (qE hb.opts hj).1 h1
  have z1 := oa.2 z hz; have z2 := hai.2 z hz; have y1 := ob.2 y hy; have y2 := hbj.2 y hy
  have p1 := hpre z.toNat (by omega); have p2 := hpre y.toNat (by omega)
  have := ha.inj (i := z.toNat) (j := y.toNat) (by omega) (by omega) (by rw [e, p2.2.2])
  have : z = y := by omega
  rwa [this]
 ·have h1 : roG (den b j) (den b z.toNat) := (qE hb.opts hj).2 ⟨z, hz, rfl⟩
  rw [← he] at h1
  obtain ⟨y, hy, e⟩ := (qE ha.opts hi).1 h1
  have z1 := ob.2 z hz; have z2 := hbj.2 z hz; have y1 := oa.2 y hy; have y2 := hai.2 y hy
  have p1 := hpre z.toNat (by omega); have p2 := hpre y.toNat (by omega)
  have := ha.inj (i := z.toNat) (j := y.toNat) (by omega) (by omega) (by rw [← e, p1.2.2])
  have : z = y := by omega
  rwa [this]
theorem gB {a b : List Nd} (ha : OptsOk a) (hb : OptsOk b) : ∀ (n i j : Nat), i + j ≤ n → i < a.length → j < b.length → den a i = den b j → (births a).getD i 0 ≤ (births b).getD j 0
 | _, i, j, _, hi, hj, he => by
  have oa := xB ha hi
  have ob := xB hb hj
  rw [(qL ha).2 i hi, putBorn_le]
  have hbj := (qL hb).2 j hj
  have hb2 := putBorn_le.1 (Int.le_of_eq hbj.symm)
  refine ⟨born_nn (qL hb) hj, fun z hz => ?_, fun z hz => ?_⟩
  ·have h1 : loG (den a i) (den a z.toNat) := (qH ha hi).2 ⟨z, hz, rfl⟩
   rw [he] at h1
   obtain ⟨y, hy, e⟩ := (qH hb hj).1 h1
   have z1 := oa.1 z hz; have y1 := ob.1 y hy
   have := gB ha hb (z.toNat + y.toNat) z.toNat y.toNat (cH _) (by omega) (by omega) e
   have := hb2.2.1 y hy
   omega
  ·have h1 : roG (den a i) (den a z.toNat) := (qE ha hi).2 ⟨z, hz, rfl⟩
   rw [he] at h1
   obtain ⟨y, hy, e⟩ := (qE hb hj).1 h1
   have z1 := oa.2 z hz; have y1 := ob.2 y hy
   have := gB ha hb (z.toNat + y.toNat) z.toNat y.toNat (cH _) (by omega) (by omega) e
   have := hb2.2.2 y hy
   omega
termination_by _ i j => i + j
decreasing_by all_goals omega
theorem births_eq (ha : OptsOk a) (hb : OptsOk b) (hi : i < a.length) (hj : j < b.length) (he : den a i = den b j) : (births a).getD i 0 = (births b).getD j 0 :=
 Int.le_antisymm (gB ha hb _ i j (cH _) hi hj he) (gB hb ha _ j i (cH _) hj hi he.symm)
theorem SG.sub (ha : SG a) (hb : SG b) (he : gOf a = gOf b) : ∀ k, k < a.length → ∃ j, j < b.length ∧ den b j = den a k := by
 have key : ∀ n k, a.length - k ≤ n → k < a.length → ∃ j, j < b.length ∧ den b j = den a k := by
  intro n
  induction n with
  | zero => intro k h1 h2; omega
  | succ n ih =>
   intro k h1 h2
   by_cases hk : k + 1 < a.length
   ·obtain ⟨i, hki, hi, hz⟩ := ha.last k hk
    obtain ⟨j, hj, e⟩ := ih i (by omega) hi
    rcases hz with hz | hz
    ·have h3 : loG (den a i) (den a (k : Int).toNat) := (qH ha.opts hi).2 ⟨_, hz, rfl⟩
     rw [← e] at h3
     obtain ⟨y, hy, e2⟩ := (qH hb.opts hj).1 h3
     have := (xB hb.opts hj).1 y hy
     exact ⟨y.toNat, by omega, by rw [← e2]; rfl⟩
    ·have h3 : roG (den a i) (den a (k : Int).toNat) := (qE ha.opts hi).2 ⟨_, hz, rfl⟩
     rw [← e] at h3
     obtain ⟨y, hy, e2⟩ := (qE hb.opts hj).1 h3
     have := (xB hb.opts hj).2 y hy
     exact ⟨y.toNat, by omega, by rw [← e2]; rfl⟩
   ·have hb1 := hb.lo
    refine ⟨b.length - 1, by omega, ?_⟩
    have : k = a.length - 1 := by omega
    rw [this]; exact he.symm
 exact fun k hk => key _ k (cH _) hk
theorem SG.low (ha : SG a) {n : Nat} (hi : i < a.length) (hb : (births a).getD i 0 ≤ (births a).getD n 0) (hn : n < a.length) : (∀ z ∈ (a.getD i default).l, z < (n : Int)) ∧ (∀ z ∈ (a.getD i default).r, z < (n : Int)) := by
 have hl := kA ha.opts i hi
 have key : ∀ z : Int, 0 ≤ z → z < i → (births a).getD z.toNat 0 < (births a).getD i 0 → z < (n : Int) := fun z h0 h1 h2 => by
  by_cases hlt : z < (n : Int)
  ·exact hlt
  ·by_cases he : n = z.toNat
   ·subst he; omega
   ·rcases ha.srt n z.toNat (by omega) (by omega) with h3 | ⟨h3, _⟩ <;> omega
 exact ⟨fun z hz => by have := hl.1 z hz; exact key z this.1 this.2.1 this.2.2, fun z hz => by have := hl.2 z hz; exact key z this.1 this.2.1 this.2.2⟩
theorem dA (ha : SG a) (hb : SG b) (he : gOf a = gOf b) : ∀ n, n ≤ a.length → n ≤ b.length ∧ ∀ k, k < n → a.getD k default = b.getD k default ∧ den a k = den b k := by
 intro n
 induction n with
 | zero => intro _; exact ⟨cI _, fun k hk => absurd hk (cK k)⟩
 | succ n ih =>
  intro hn
  obtain ⟨hnb, hpre⟩ := ih (by omega)
  obtain ⟨j, hj, ej⟩ := ha.sub hb he n (by omega)
  have hjn : n ≤ j := by
   apply Classical.byContradiction
   intro hlt
   have := (hpre j (by omega)).2
   have := ha.inj (i := j) (j := n) (by omega) (by omega) (by rw [this, ej])
   omega
  have hbn : n < b.length := by omega
  obtain ⟨i, hi, ei⟩ := hb.sub ha he.symm n hbn
  have hin : n ≤ i := by
   apply Classical.byContradiction
   intro hlt
   have := (hpre i (by omega)).2
   have := hb.inj (i := i) (j := n) (by omega) (by omega) (by rw [← this, ei])
   omega
  have hp : ∀ k, k < n → k < a.length ∧ k < b.length ∧ den a k = den b k := fun k hk => ⟨by omega, by omega, (hpre k hk).2⟩
  have hgh : den a n = den b n := by
   by_cases hjn' : j = n
   ·rw [hjn'] at ej; exact ej.symm
   ·have hin' : i ≠ n := fun e => by
     rw [e] at ei
     exact hjn' (hb.inj hj hbn (by rw [ej, ei]))
    exfalso
    have c := hb.srt n j (by omega) hj
    have d := ha.srt n i (by omega) hi
    have r := births_eq ha.opts hb.opts (show n < a.length by omega) hj ej.symm
    have s := births_eq ha.opts hb.opts hi hbn ei
    have f := ha.low (n := n) (i := n) (by omega) (Int.le_refl _) (by omega)
    have hle : (births a).getD i 0 ≤ (births a).getD n 0 := by rcases c with c | ⟨c, _⟩ <;> omega
    have g := ha.low (n := n) (i := i) hi hle (by omega)
    have h := hb.low (n := n) (i := n) hbn (Int.le_refl _) hbn
    have l : (births b).getD j 0 ≤ (births b).getD n 0 := by rcases d with d | ⟨d, _⟩ <;> omega
    have m := hb.low (n := n) (i := j) hj l hbn
    have o := mV ha hb (n := n) hi hbn hp g h ei
    have p := mV ha hb (n := n) (show n < a.length by omega) hj hp f m ej.symm
    have t : aheadI (b.getD n default) (b.getD j default) < 0 := by rcases c with c | ⟨_, c⟩; omega; exact c
    have q : aheadI (a.getD n default) (a.getD i default) < 0 := by rcases d with d | ⟨_, d⟩; omega; exact d
    rw [o, p, tN] at q
    omega
  refine ⟨hbn, fun k hk => ?_⟩
  by_cases hk' : k < n
  ·exact hpre k hk'
  ·have : k = n := by omega
   subst this
   exact ⟨mV ha hb (n := k) (by omega) hbn hp (ha.low (by omega) (Int.le_refl _) (by omega)) (hb.low hbn (Int.le_refl _) hbn) hgh, hgh⟩
theorem sg_unique (ha : SG a) (hb : SG b) (he : gOf a = gOf b) : a = b := by
 have h1 := dA ha hb he a.length (cH _)
 have h2 := dA hb ha he.symm b.length (cH _)
 exact eqdoneN (by omega) (cH _) fun i hi => (h1.2 i hi).1
def IsForm (g : Nat) (ns : List Nd) : Prop := SG ns ∧ gOf ns = g
theorem IsForm.unique {g : Nat} (ha : IsForm g a) (hb : IsForm g b) : a = b := sg_unique ha.1 hb.1 (ha.2.trans hb.2.symm)
end Go.GL
namespace Go.GL
open Go Go.RowKit
def geD (lf : Bool) (a b : Nat) : Prop := if lf = true then geG a b else geG b a
variable {lf : Bool} {a b i j : Nat} {g : Nat → Nat} {D O : List Int} {ns : List Nd}
theorem gW (h : lf = true) : geD lf a b ↔ geG a b := by unfold geD; rw [if_pos h]
theorem gY (h : lf = false) : geD lf a b ↔ geG b a := by unfold geD; rw [if_neg (by rw [h]; exact Bool.false_ne_true)]
def domP (g : Nat → Nat) (lf : Bool) (i k : Nat) : Prop := (k : Int) ≠ (i : Int) ∧ geD lf (g k) (g i) ∧ (¬ geD lf (g i) (g k) ∨ (k : Int) < (i : Int))
noncomputable def domB (g : Nat → Nat) (lf : Bool) (i n : Nat) : Bool := decP (∃ k, k < n ∧ domP g lf i k)
noncomputable def domL (g : Nat → Nat) (lf : Bool) (n : Nat) : Nat → List Int
 | 0 => []
 | i + 1 => if domB g lf i n = true then domL g lf n i ++ [(i : Int)] else domL g lf n i
theorem pV {n : Nat} (hj : j < n) (h : domP g lf i j) : domL g lf n (i + 1) = domL g lf n i ++ [(i : Int)] := if_pos (decP_true.2 ⟨j, hj, h⟩)
theorem dom_miss {n : Nat} (h : ∀ x, x < n → ¬ domP g lf i x) : domL g lf n (i + 1) = domL g lf n i := if_neg fun e => by
 obtain ⟨k, hk, hp⟩ := decP_true.1 e
 exact h k hk hp
theorem kT {g : Nat → Nat} {lf : Bool} {n : Nat} : ∀ i, (domL g lf n i).length ≤ i ∧ ∀ z ∈ domL g lf n i, z < (i : Int)
 | 0 => ⟨cH 0, fun z hz => by cases hz⟩
 | i + 1 => by
  obtain ⟨h1, h2⟩ := kT (g := g) (lf := lf) (n := n) i
  unfold domL
  split
  ·refine ⟨by rw [List.length_append, List.length_singleton]; omega, fun z hz => ?_⟩
   rcases List.mem_append.1 hz with hz | hz
   ·have := h2 z hz; omega
   ·simp at hz; omega
  ·exact ⟨by omega, fun z hz => by have := h2 z hz; omega⟩
def domI (D : List Int) (b : Bool) (i : Int) : List Int := if b = true then D ++ [i] else D
theorem domI_start : D = domI D (domB g lf i 0) i := by
 have : domB g lf i 0 = false := decP_false.2 fun ⟨k, hk, _⟩ => absurd hk (cK k)
 rw [this]; rfl
theorem tK (h : O = domI D (domB g lf i j) i) (hn : ¬ domP g lf i j) : O = domI D (domB g lf i (j + 1)) i := by
 have : domB g lf i (j + 1) = domB g lf i j := fI ⟨fun ⟨k, hk, p⟩ => ⟨k, by
  by_cases he : k = j
  ·exact absurd (he ▸ p) hn
  ·omega, p⟩, fun ⟨k, hk, p⟩ => ⟨k, by omega, p⟩⟩
 rw [this]; exact h
theorem putL_high : ∀ {D : List Int} {i : Int}, (∀ z ∈ D, z < i) → putL D i = D ++ [i]
 | [], _, _ => rfl
 | x :: r, i, h => by
  unfold putL
  rw [if_pos (h x List.mem_cons_self), putL_high fun z hz => h z (List.mem_cons_of_mem _ hz)]; rfl
theorem sP : ∀ {D : List Int} {i : Int}, (∀ z ∈ D, z < i) → putL (D ++ [i]) i = D ++ [i]
 | [], i, _ => by simp [putL]
 | x :: r, i, h => by
  show putL (x :: (r ++ [i])) i = _
  unfold putL
  rw [if_pos (h x List.mem_cons_self), sP fun z hz => h z (List.mem_cons_of_mem _ hz)]; rfl
theorem mL (h : O = domI D (domB g lf i j) i) (hD : ∀ z ∈ D, z < (i : Int)) (hy : domP g lf i j) : putL O i = domI D (domB g lf i (j + 1)) i := by
 have : domB g lf i (j + 1) = true := decP_true.2 ⟨j, Nat.lt_succ_self j, hy⟩
 rw [this, h]
 unfold domI
 rw [if_pos rfl]
 split
 ·exact sP hD
 ·exact putL_high hD
theorem domI_len {b : Bool} {i : Int} : (domI D b i).length ≤ D.length + 1 := by
 unfold domI; split
 ·rw [List.length_append]; exact cH _
 ·omega
theorem domI_end {n : Nat} (h : O = domI (domL g lf n i) (domB g lf i n) i) : O = domL g lf n (i + 1) := h
def KAll (ns : List Nd) (ks : List Int) : Prop := ks.length = ns.length * ns.length ∧ ∀ m, KOk ns ks m
theorem KAll.res {ks k1 : List Int} {m : Nat} (h : KAll ns ks) (k : KRes ns ks k1 m) : KAll ns k1 := by
 refine ⟨k.len.trans h.1, fun m' i j hi hj hs => ?_⟩
 by_cases hlt : i + j < m
 ·exact k.ok i j hi hj hlt
 ·rw [k.same i j hi hj (by omega)]; exact h.2 m' i j hi hj hs
theorem KAll.zero : KAll ns (List.replicate (ns.length * ns.length) 0) := ⟨by simp, fun _ => KOk.zero⟩
def gX (q : PSt) (xs : List Int) (i : Nat) : Nat := pd q (xs.getD i 0)
def gN (ns : List Nd) (xs : List Int) (i : Nat) : Nat := den ns (xs.getD i 0).toNat
theorem Gadd.turn {S : Nat → Prop} {G0 G G' : Pin} {w0 w w' : World} {v : Value} (h : Pins (Gadd G0 w0 v) w) (hP : Pins G0 w') (hx : Ext S G w G' w') (hS : ∀ k, v.ownBlock = some k → ¬ S k) : Pins (Gadd G0 w0 v) w' := fun b o u hu => by
 rcases hu with hu | hu
 ·exact hP b o u hu
 ·have h1 := h b o u (cG hu)
  have h2 := hx.block b (fJ h1) (hS b hu.1)
  unfold World.cell? at h1 ⊢
  simp only [h2]; exact h1
theorem last_bounds {fs : List Nd} (h : GoodP fs) : ((lastN fs).l.length ≤ 1048576 ∧ ∀ i, i < (lastN fs).l.length → 0 ≤ (lastN fs).l.getD i 0 ∧ (lastN fs).l.getD i 0 < fs.length) ∧ ((lastN fs).r.length ≤ 1048576 ∧ ∀ i, i < (lastN fs).r.length → 0 ≤ (lastN fs).r.getD i 0 ∧ (lastN fs).r.getD i 0 < fs.length) := by
 have hf := jV h
 have h1 := h.lo
 have oo : (∀ o ∈ (lastN fs).l, 0 ≤ o ∧ o < ((fs.length - 1 : Nat) : Int)) ∧ (∀ o ∈ (lastN fs).r, 0 ≤ o ∧ o < ((fs.length - 1 : Nat) : Int)) := xB hf.opts (show fs.length - 1 < fs.length by omega)
 have hl : (lastN fs).l.length ≤ 1048576 ∧ (lastN fs).r.length ≤ 1048576 := hf.lens (fs.length - 1) (by omega)
 exact ⟨⟨hl.1, fun i hi => by have := oo.1 _ (yE (d := (0 : Int)) hi); omega⟩, ⟨hl.2, fun i hi => by have := oo.2 _ (yE (d := (0 : Int)) hi); omega⟩⟩
def revP (lf : Bool) (g o : Nat) : Prop := if lf = true then ∃ x, roG o x ∧ geG g x else ∃ x, loG o x ∧ geG x g
theorem rev_t {g o : Nat} : revP true g o ↔ ∃ x, roG o x ∧ geG g x := by unfold revP; rw [if_pos rfl]
theorem rev_f {g o : Nat} : revP false g o ↔ ∃ x, loG o x ∧ geG x g := by unfold revP; rw [if_neg Bool.false_ne_true]
def thrP (ns : List Nd) (lf : Bool) (f o t : Int) : Prop := (0 ≤ t ↔ revP lf (den ns f.toNat) (den ns o.toNat)) ∧ (0 ≤ t ∨ t = -1) ∧ (0 ≤ t → (lf = true ∧ t ∈ (ns.getD o.toNat default).r ∧ geB ns f t = true) ∨ (lf = false ∧ t ∈ (ns.getD o.toNat default).l ∧ geB ns t f = true))
theorem pK (ho : OptsOk ns) {f o t : Int} (hp : 0 ≤ o ∧ o < ns.length) (h : (lf = true ∧ t ∈ (ns.getD o.toNat default).r ∧ geB ns f t = true) ∨ (lf = false ∧ t ∈ (ns.getD o.toNat default).l ∧ geB ns t f = true)) : thrP ns lf f o t := by
 have oo := xB ho (show o.toNat < ns.length by omega)
 have hs := h
 rcases h with ⟨rfl, h1, h2⟩ | ⟨rfl, h1, h2⟩
 ·have h0 := (oo.2 t h1).1
  exact ⟨⟨fun _ => rev_t.2 ⟨_, (qE ho (by omega)).2 ⟨t, h1, rfl⟩, decP_true.1 h2⟩, fun _ => h0⟩, cF h0, fun _ => hs⟩
 ·have h0 := (oo.1 t h1).1
  exact ⟨⟨fun _ => rev_f.2 ⟨_, (qH ho (by omega)).2 ⟨t, h1, rfl⟩, decP_true.1 h2⟩, fun _ => h0⟩, cF h0, fun _ => hs⟩
theorem sD (ho : OptsOk ns) {f o : Int} (hp : 0 ≤ o ∧ o < ns.length) (h : ∀ i, i < (ns.getD o.toNat default).r.length → geB ns f ((ns.getD o.toNat default).r.getD i 0) = false) : thrP ns true f o (-1) := by
 refine ⟨⟨fun h => absurd h (by decide), fun hr => ?_⟩, cG rfl, fun h => absurd h (by decide)⟩
 obtain ⟨x, hx, hg⟩ := rev_t.1 hr
 obtain ⟨z, hz, rfl⟩ := (qE ho (by omega)).1 hx
 obtain ⟨i, hi, rfl⟩ := List.getElem_of_mem hz
 have e : (ns.getD o.toNat default).r.getD i 0 = (ns.getD o.toNat default).r[i] := by rw [List.getD, List.getElem?_eq_getElem hi]; rfl
 have := h i hi
 rw [e] at this
 exact absurd hg (decP_false.1 this)
theorem sE (ho : OptsOk ns) {f o : Int} (hp : 0 ≤ o ∧ o < ns.length) (h : ∀ i, i < (ns.getD o.toNat default).l.length → geB ns ((ns.getD o.toNat default).l.getD i 0) f = false) : thrP ns false f o (-1) := by
 refine ⟨⟨fun h => absurd h (by decide), fun hr => ?_⟩, cG rfl, fun h => absurd h (by decide)⟩
 obtain ⟨x, hx, hg⟩ := rev_f.1 hr
 obtain ⟨z, hz, rfl⟩ := (qH ho (by omega)).1 hx
 obtain ⟨i, hi, rfl⟩ := List.getElem_of_mem hz
 have e : (ns.getD o.toNat default).l.getD i 0 = (ns.getD o.toNat default).l[i] := by rw [List.getD, List.getElem?_eq_getElem hi]; rfl
 have := h i hi
 rw [e] at this
 exact absurd hg (decP_false.1 this)
end Go.GL
namespace Go.GL
open Go Go.RowKit
variable {q : PSt}
theorem jO (hok : PoolOk q) {c : Int} (hc : PlaceOk q c) : (∀ z ∈ (q.ns.getD c.toNat default).l, PlaceOk q z) ∧ (∀ z ∈ (q.ns.getD c.toNat default).r, PlaceOk q z) := by
 have oo := xB hok.ar.opts (show c.toNat < q.ns.length by have := hc.1; have := hc.2; omega)
 exact ⟨fun z hz => ⟨(oo.1 z hz).1, by have := (oo.1 z hz).2; have := hc.2; have := hc.1; omega⟩, fun z hz => ⟨(oo.2 z hz).1, by have := (oo.2 z hz).2; have := hc.2; have := hc.1; omega⟩⟩
theorem thr_same {q2 : PSt} (hn : q2.ns = q.ns ∧ q2.bs = q.bs) {lf : Bool} {f c t : Int} (h : thrP q2.ns lf f c t) : thrP q.ns lf f c t := hn.1 ▸ h
end Go.GL
namespace Go.GL
open Go Go.RowKit
def opD (lf : Bool) (g i : Nat) : Prop := if lf = true then loG g i else roG g i
variable {g i a b l g' : Nat} {lf : Bool} {k s2 k2 m m2 : List Nat} {D ds zs W ss os : List Int} {q q2 : PSt} {t : Int}
theorem opD_t : opD true g i ↔ loG g i := by unfold opD; rw [if_pos rfl]
theorem opD_f : opD false g i ↔ roG g i := by unfold opD; rw [if_neg Bool.false_ne_true]
theorem geD_tt : geD true a b ↔ geG a b := gW rfl
theorem geD_ff : geD false a b ↔ geG b a := gY rfl
theorem opD.lt (h : opD lf g i) : i < g := by
 cases lf
 ·exact (opD_f.1 h).lt
 ·exact (opD_t.1 h).lt
theorem jC {c : Nat} (h : geD lf a b) (k : geD lf b c) : geD lf a c := by
 cases lf
 ·exact geD_ff.2 (xI (geD_ff.1 k) (geD_ff.1 h))
 ·exact geD_tt.2 (xI (geD_tt.1 h) (geD_tt.1 k))
theorem mH (a : Nat) : geD lf a a := by
 cases lf
 ·exact geD_ff.2 (jM a)
 ·exact geD_tt.2 (jM a)
theorem rU (h : opD lf g l) : ¬ geD lf l g := by
 cases lf
 ·rw [geD_ff]; exact vY (opD_f.1 h)
 ·rw [geD_tt]; exact vS (opD_t.1 h)
theorem geD_iff : geD lf a b ↔ (∀ r, opD (!lf) a r → ¬ geD lf b r) ∧ (∀ l, opD lf b l → ¬ geD lf l a) := by
 cases lf
 ·simp only [geD_ff, opD_f, Bool.not_false, opD_t]
  rw [ge_iff]
  exact ⟨fun h => ⟨h.2, h.1⟩, fun h => ⟨h.2, h.1⟩⟩
 ·simp only [geD_tt, opD_t, Bool.not_true, opD_f]
  exact ge_iff
theorem geD_not (h : ¬ geD lf a b) : (∃ r, opD (!lf) a r ∧ geD lf b r) ∨ ∃ l, opD lf b l ∧ geD lf l a := by
 by_cases h1 : ∃ r, opD (!lf) a r ∧ geD lf b r
 ·exact cF h1
 ·by_cases h2 : ∃ l, opD lf b l ∧ geD lf l a
  ·exact cG h2
  ·exact absurd (geD_iff.2 ⟨fun r hr hg => h1 ⟨r, hr, hg⟩, fun l hl hg => h2 ⟨l, hl, hg⟩⟩) h
theorem revP_D {o : Nat} : revP lf g o ↔ ∃ x, opD (!lf) o x ∧ geD lf g x := by
 cases lf
 ·rw [rev_f]; simp only [Bool.not_false, opD_t, geD_ff]
 ·rw [rev_t]; simp only [Bool.not_true, opD_f, geD_tt]
structure RedOk (lf : Bool) (g : Nat) (seen kept : List Nat) : Prop where
 canon : ∀ i ∈ seen, CanonG i
 low : ∀ i ∈ seen, ¬ geD lf i g
 keep : ∀ i, i ∈ kept ↔ i ∈ seen ∧ ¬ revP lf g i
 pass : ∀ i ∈ seen, revP lf g i → ∃ r, opD (!lf) i r ∧ geD lf g r ∧ ∀ l, opD lf r l → l ∈ seen
 opts : ∀ l, opD lf g l → ∃ i ∈ seen, eqG i l
theorem eqG_D (h : eqG a b) : geD lf a b ∧ geD lf b a := by
 cases lf
 ·exact ⟨geD_ff.2 h.2, geD_ff.2 h.1⟩
 ·exact ⟨geD_tt.2 h.1, geD_tt.2 h.2⟩
theorem RedOk.seen_low {lf : Bool} {g g' : Nat} {s k s2 k2 : List Nat} (h : RedOk lf g s k) (h2 : RedOk (!lf) g s2 k2) (hk : ∀ i, opD lf g' i ↔ i ∈ k) (hk2 : ∀ i, opD (!lf) g' i ↔ i ∈ k2) : ∀ n i, i ≤ n → i ∈ s → ¬ geD lf i g'
 | n, i, hn, hi, hg => by
  by_cases hr : revP lf g i
  ·obtain ⟨r, h3, h4, h5⟩ := h.pass i hi hr
   have h6 : ¬ geD lf g' r := (geD_iff.1 hg).1 r h3
   rcases geD_not h6 with ⟨r', h7, h8⟩ | ⟨l', h7, h8⟩
   ·have h9 := h2.low r' (((h2.keep r').1 ((hk2 r').1 h7)).1)
    apply h9
    cases lf
    ·exact geD_tt.2 (geD_ff.1 (jC h4 h8))
    ·exact geD_ff.2 (geD_tt.1 (jC h4 h8))
   ·have := h3.lt; have := h7.lt
    cases n with
    | zero => omega
    | succ n => exact seen_low h h2 hk hk2 n l' (by omega) (h5 l' h7) h8
  ·exact rU ((hk i).2 ((h.keep i).2 ⟨hi, hr⟩)) hg
theorem RedOk.half {s : List Nat} (h : RedOk lf g s k) (h2 : RedOk (!lf) g s2 k2) (hk : ∀ i, opD lf g' i ↔ i ∈ k) (hk2 : ∀ i, opD (!lf) g' i ↔ i ∈ k2) : geD lf g' g := by
 refine geD_iff.2 ⟨fun r hr hg => ?_, fun l hl hg => ?_⟩
 ·have h9 := h2.low r (((h2.keep r).1 ((hk2 r).1 hr)).1)
  apply h9
  cases lf
  ·exact geD_tt.2 (geD_ff.1 hg)
  ·exact geD_ff.2 (geD_tt.1 hg)
 ·obtain ⟨i, hi, he⟩ := h.opts l hl
  exact h.seen_low h2 hk hk2 i i (cH _) hi (jC (eqG_D he).1 hg)
theorem red_eq {s : List Nat} (h : RedOk true g s k) (h2 : RedOk false g s2 k2) (hk : ∀ i, loG g' i ↔ i ∈ k) (hk2 : ∀ i, roG g' i ↔ i ∈ k2) : eqG g' g := by
 have a := RedOk.half (lf := true) h h2 (fun i => opD_t.trans (hk i)) (fun i => opD_f.trans (hk2 i))
 have b := RedOk.half (lf := false) h2 h (fun i => opD_f.trans (hk2 i)) (fun i => opD_t.trans (hk i))
 exact ⟨geD_tt.1 a, geD_ff.1 b⟩
structure MaxOf (lf : Bool) (k m : List Nat) : Prop where
 sub : ∀ i ∈ m, i ∈ k
 dom : ∀ i ∈ k, ∃ j ∈ m, geD lf j i
 apart : ∀ i ∈ m, ∀ j ∈ m, geD lf i j → i = j
theorem max_half (hm : MaxOf lf k m) (hm2 : MaxOf (!lf) k2 m2) (hk : ∀ i, opD lf g i ↔ i ∈ k) (hk2 : ∀ i, opD (!lf) g i ↔ i ∈ k2) (hg : ∀ i, opD lf g' i ↔ i ∈ m) (hg2 : ∀ i, opD (!lf) g' i ↔ i ∈ m2) : geD lf g' g := by
 refine geD_iff.2 ⟨fun r hr h => ?_, fun l hl h => ?_⟩
 ·have := (hk2 r).2 (hm2.sub r ((hg2 r).1 hr))
  exact (geD_iff.1 (mH (lf := lf) g)).1 r this h
 ·obtain ⟨j, hj, hd⟩ := hm.dom l ((hk l).1 hl)
  exact rU ((hg j).2 hj) (jC hd h)
theorem max_eq (hm : MaxOf true k m) (hm2 : MaxOf false k2 m2) (hk : ∀ i, loG g i ↔ i ∈ k) (hk2 : ∀ i, roG g i ↔ i ∈ k2) (hg : ∀ i, loG g' i ↔ i ∈ m) (hg2 : ∀ i, roG g' i ↔ i ∈ m2) : eqG g' g := by
 have a := max_half (lf := true) hm hm2 (fun i => opD_t.trans (hk i)) (fun i => opD_f.trans (hk2 i)) (fun i => opD_t.trans (hg i)) (fun i => opD_f.trans (hg2 i))
 have b := max_half (lf := false) hm2 hm (fun i => opD_f.trans (hk2 i)) (fun i => opD_t.trans (hk i)) (fun i => opD_f.trans (hg2 i)) (fun i => opD_t.trans (hg i))
 have c1 : geG g g' := ge_iff.2 ⟨fun r hr h => by
   obtain ⟨j, hj, hd⟩ := hm2.dom r ((hk2 r).1 hr)
   exact vY ((hg2 j).2 hj) (xI h (geD_ff.1 hd)), fun l hl h => vS ((hk l).2 (hm.sub l ((hg l).1 hl))) h⟩
 exact ⟨geD_tt.1 a, c1⟩
theorem canon_of {s : List Nat} (h : RedOk true g s k) (h2 : RedOk false g s2 k2) (hm : MaxOf true k m) (hm2 : MaxOf false k2 m2) (hg : ∀ i, loG g' i ↔ i ∈ m) (hg2 : ∀ i, roG g' i ↔ i ∈ m2) : CanonG g' ∧ eqG g' g := by
 have e1 := red_eq (g' := mkG k k2) h h2 (fun i => lo_mk) (fun i => ro_mk)
 have e2 := max_eq (g := mkG k k2) (g' := g') hm hm2 (fun i => lo_mk) (fun i => ro_mk) hg hg2
 have e : eqG g' g := ⟨xI e2.1 e1.1, xI e1.2 e2.2⟩
 refine ⟨canon_iff.2 ⟨⟨fun a b ha hb hab => hm.apart a ((hg a).1 ha) b ((hg b).1 hb) (geD_tt.2 hab), fun a b ha hb hab => (hm2.apart b ((hg2 b).1 hb) a ((hg2 a).1 ha) (geD_ff.2 hab)).symm⟩, ⟨fun l r hl hr hgr => ?_, fun r l hr hl hgl => ?_⟩, fun l hl => ?_, fun r hr => ?_⟩, e⟩
 ·have := ((h.keep l).1 (hm.sub l ((hg l).1 hl))).2
  exact this (rev_t.2 ⟨r, hr, xI e.2 hgr⟩)
 ·have := ((h2.keep r).1 (hm2.sub r ((hg2 r).1 hr))).2
  exact this (rev_f.2 ⟨l, hl, xI hgl e.1⟩)
 ·exact h.canon l ((h.keep l).1 (hm.sub l ((hg l).1 hl))).1
 ·exact h2.canon r ((h2.keep r).1 (hm2.sub r ((hg2 r).1 hr))).1
theorem max_above {lf : Bool} : ∀ (K : List Nat), ∀ i ∈ K, ∃ j ∈ K, geD lf j i ∧ ∀ x ∈ K, geD lf x j → geD lf j x
 | [], i, hi => by cases hi
 | a :: K, i, hi => by
  have ih := max_above (lf := lf) K
  have up : ∀ j ∈ K, (∀ x ∈ K, geD lf x j → geD lf j x) → geD lf j i → ∃ j ∈ a :: K, geD lf j i ∧ ∀ x ∈ a :: K, geD lf x j → geD lf j x := by
   intro j hj hm hji
   by_cases h1 : geD lf a j ∧ ¬ geD lf j a
   ·refine ⟨a, List.mem_cons_self, jC h1.1 hji, fun x hx hxa => ?_⟩
    rcases List.mem_cons.1 hx with rfl | hx
    ·exact mH _
    ·exact jC h1.1 (hm x hx (jC hxa h1.1))
   ·refine ⟨j, List.mem_cons_of_mem _ hj, hji, fun x hx hxj => ?_⟩
    rcases List.mem_cons.1 hx with rfl | hx
    ·by_cases h2 : geD lf j x
     ·exact h2
     ·exact absurd ⟨hxj, h2⟩ h1
    ·exact hm x hx hxj
  rcases List.mem_cons.1 hi with rfl | hi
  ·by_cases h1 : ∃ x ∈ K, geD lf x i ∧ ¬ geD lf i x
   ·obtain ⟨x, hx, h2, h3⟩ := h1
    obtain ⟨j, hj, h4, h5⟩ := ih x hx
    exact up j hj h5 (jC h4 h2)
   ·refine ⟨i, List.mem_cons_self, mH _, fun x hx hxi => ?_⟩
    rcases List.mem_cons.1 hx with rfl | hx
    ·exact mH _
    ·by_cases h2 : geD lf i x
     ·exact h2
     ·exact absurd ⟨x, hx, hxi, h2⟩ h1
  ·obtain ⟨j, hj, h4, h5⟩ := ih i hi
   exact up j hj h5 h4
theorem geD_eq (h : geD lf a b) (k : geD lf b a) : eqG a b := by
 cases lf
 ·exact ⟨geD_ff.1 k, geD_ff.1 h⟩
 ·exact ⟨geD_tt.1 h, geD_tt.1 k⟩
theorem pT {g : Nat → Nat} {lf : Bool} {n : Nat} {z : Int} : ∀ i, z ∈ domL g lf n i ↔ ∃ k, k < i ∧ z = (k : Int) ∧ ∃ x, x < n ∧ domP g lf k x
 | 0 => ⟨fun h => (by cases h), fun ⟨k, hk, _⟩ => absurd hk (cK k)⟩
 | i + 1 => by
  have ih := pT (g := g) (lf := lf) (n := n) (z := z) i
  unfold domL
  split
  ·rename_i h
   rw [List.mem_append, ih, List.mem_singleton]
   refine ⟨fun h1 => ?_, fun ⟨k, hk, e, h1⟩ => ?_⟩
   ·rcases h1 with ⟨k, hk, e, h1⟩ | e
    ·exact ⟨k, by omega, e, h1⟩
    ·exact ⟨i, Nat.lt_succ_self i, e, decP_true.1 h⟩
   ·by_cases hki : k = i
    ·exact cG (hki ▸ e)
    ·exact cF ⟨k, by omega, e, h1⟩
  ·rename_i h
   rw [ih]
   refine ⟨fun ⟨k, hk, e, h1⟩ => ⟨k, by omega, e, h1⟩, fun ⟨k, hk, e, h1⟩ => ⟨k, ?_, e, h1⟩⟩
   by_cases hki : k = i
   ·subst hki; exact absurd (decP_true.2 h1) h
   ·omega
theorem dom_pw {g : Nat → Nat} {lf : Bool} {n : Nat} : ∀ i, (domL g lf n i).Pairwise (· < ·)
 | 0 => List.Pairwise.nil
 | i + 1 => by
  have ih := dom_pw (g := g) (lf := lf) (n := n) i
  unfold domL
  split
  ·refine List.pairwise_append.2 ⟨ih, List.pairwise_singleton .., fun a ha b hb => ?_⟩
   rw [List.mem_singleton.1 hb]
   exact (kT i).2 a ha
  ·exact ih
def woL (zs D : List Int) : Nat → List Int
 | 0 => []
 | k + 1 => if (k : Int) ∈ D then woL zs D k else woL zs D k ++ [zs.getD k 0]
theorem tX {zs D : List Int} {z : Int} : ∀ k, z ∈ woL zs D k ↔ ∃ i, i < k ∧ (i : Int) ∉ D ∧ z = zs.getD i 0
 | 0 => ⟨fun h => (by cases h), fun ⟨i, hi, _⟩ => absurd hi (cK i)⟩
 | k + 1 => by
  have ih := tX (zs := zs) (D := D) (z := z) k
  unfold woL
  split
  ·rename_i h
   rw [ih]
   refine ⟨fun ⟨i, hi, h1⟩ => ⟨i, by omega, h1⟩, fun ⟨i, hi, h1⟩ => ⟨i, ?_, h1⟩⟩
   by_cases hik : i = k
   ·subst hik; exact absurd h h1.1
   ·omega
  ·rename_i h
   rw [List.mem_append, ih, List.mem_singleton]
   refine ⟨fun h1 => ?_, fun ⟨i, hi, h1⟩ => ?_⟩
   ·rcases h1 with ⟨i, hi, h1⟩ | e
    ·exact ⟨i, by omega, h1⟩
    ·exact ⟨k, Nat.lt_succ_self k, h, e⟩
   ·by_cases hik : i = k
    ·subst hik; exact cG h1.2
    ·exact cF ⟨i, by omega, h1⟩
theorem mM {zs D : List Int} : ∀ k, (woL zs D k).length ≤ k
 | 0 => cH 0
 | k + 1 => by
  have ih := mM (zs := zs) (D := D) k
  unfold woL
  split
  ·omega
  ·rw [List.length_append, List.length_singleton]; omega
structure WoOk (D ds : List Int) (k : Nat) : Prop where
 pw : ds.Pairwise (· < ·)
 mem : ∀ z, z ∈ ds ↔ z ∈ D ∧ (k : Int) ≤ z
theorem WoOk.start (h : D.Pairwise (· < ·)) (h0 : ∀ z ∈ D, 0 ≤ z) : WoOk D D 0 := ⟨h, fun z => ⟨fun hz => ⟨hz, h0 z hz⟩, fun hz => hz.1⟩⟩
theorem WoOk.hit {k : Nat} (h : WoOk D ds k) (h1 : 0 < ds.length) (h2 : ds.getD 0 0 = (k : Int)) : WoOk D (ds.drop 1) (k + 1) ∧ (k : Int) ∈ D := by
 cases ds with
 | nil => cases h1
 | cons x r =>
  have hx : x = (k : Int) := h2
  subst hx
  have hp := List.pairwise_cons.1 h.pw
  refine ⟨⟨hp.2, fun z => ⟨fun hz => ?_, fun hz => ?_⟩⟩, ((h.mem k).1 List.mem_cons_self).1⟩
  ·have := hp.1 z hz
   exact ⟨((h.mem z).1 (List.mem_cons_of_mem _ hz)).1, by omega⟩
  ·have h3 := (h.mem z).2 ⟨hz.1, by omega⟩
   rcases List.mem_cons.1 h3 with rfl | h3
   ·omega
   ·exact h3
theorem WoOk.miss {k : Nat} (h : WoOk D ds k) (h1 : ds.length = 0 ∨ ds.getD 0 0 ≠ (k : Int)) : WoOk D ds (k + 1) ∧ (k : Int) ∉ D := by
 have hn : (k : Int) ∉ ds := by
  cases ds with
  | nil => exact fun h => by cases h
  | cons x r =>
   have hx : x ≠ (k : Int) := h1.resolve_left (by simp)
   have hp := List.pairwise_cons.1 h.pw
   have hk := ((h.mem x).1 List.mem_cons_self).2
   intro hm
   rcases List.mem_cons.1 hm with e | hm
   ·exact hx e.symm
   ·have := hp.1 _ hm; omega
 refine ⟨⟨h.pw, fun z => ⟨fun hz => ?_, fun hz => (h.mem z).2 ⟨hz.1, by omega⟩⟩⟩, fun hd => hn ((h.mem k).2 ⟨hd, Int.le_refl _⟩)⟩
 have h2 := (h.mem z).1 hz
 refine ⟨h2.1, ?_⟩
 by_cases e : z = (k : Int)
 ·subst e; exact absurd hz hn
 ·have := h2.2; omega
theorem max_wo (hok : PoolOk q) (hn : zs.Nodup) (hp : ∀ z ∈ zs, PlaceOk q z ∧ CanonG (pd q z)) :
  MaxOf lf (zs.map (pd q)) ((woL zs (domL (gX q zs) lf zs.length zs.length) zs.length).map (pd q)) := by
 have inj : ∀ i j, i < zs.length → j < zs.length → eqG (gX q zs i) (gX q zs j) → i = j := by
  intro i j hi hj he
  have a := hp _ (yE (d := (0 : Int)) hi)
  have b := hp _ (yE (d := (0 : Int)) hj)
  have e := vC a.2 b.2 he
  have ea := a.1; have eb := b.1
  unfold PlaceOk at ea eb
  have e2 := hok.ar.inj (i := (zs.getD i 0).toNat) (j := (zs.getD j 0).toNat) (by omega) (by omega) e
  have e3 : zs.getD i 0 = zs.getD j 0 := by omega
  have h1 : zs.getD i 0 = zs[i] := by rw [List.getD, List.getElem?_eq_getElem hi]; rfl
  have h2 : zs.getD j 0 = zs[j] := by rw [List.getD, List.getElem?_eq_getElem hj]; rfl
  rw [h1, h2] at e3
  exact (List.getElem_inj hn).1 e3
 have keep : ∀ i, i < zs.length → (((i : Int) ∉ domL (gX q zs) lf zs.length zs.length) ↔ ∀ x, x < zs.length → geD lf (gX q zs x) (gX q zs i) → x = i) := by
  intro i hi
  rw [pT]
  constructor
  ·intro h x hx hg
   by_cases hxi : x = i
   ·exact hxi
   ·by_cases h2 : geD lf (gX q zs i) (gX q zs x)
    ·exact inj x i hx hi (geD_eq hg h2)
    ·exact absurd ⟨i, hi, rfl, x, hx, by omega, hg, cF h2⟩ h
  ·rintro h ⟨k, _, e, x, hx, h1, h2, _⟩
   have : k = i := by omega
   subst this
   have := h x hx h2
   omega
 refine ⟨fun i hi => ?_, fun i hi => ?_, fun i hi j hj hg => ?_⟩
 ·obtain ⟨z, hz, rfl⟩ := List.mem_map.1 hi
  obtain ⟨k, hk, _, rfl⟩ := (tX _).1 hz
  exact List.mem_map.2 ⟨_, yE hk, rfl⟩
 ·obtain ⟨j, hj, h1, h2⟩ := max_above (lf := lf) _ i hi
  obtain ⟨z, hz, rfl⟩ := List.mem_map.1 hj
  obtain ⟨k, hk, rfl⟩ := List.getElem_of_mem hz
  have ek : zs.getD k 0 = zs[k] := by rw [List.getD, List.getElem?_eq_getElem hk]; rfl
  refine ⟨_, List.mem_map.2 ⟨zs[k], (tX _).2 ⟨k, hk, (keep k hk).2 fun x hx hg => ?_, ek.symm⟩, rfl⟩, h1⟩
  have hg' : geD lf (gX q zs x) (pd q zs[k]) := by rw [← ek]; exact hg
  have h3 := h2 (gX q zs x) (List.mem_map.2 ⟨_, yE hx, rfl⟩) hg'
  exact inj x k hx hk (geD_eq hg (by unfold gX; rw [ek]; exact h3))
 ·obtain ⟨z, hz, rfl⟩ := List.mem_map.1 hi
  obtain ⟨y, hy, rfl⟩ := List.mem_map.1 hj
  obtain ⟨k, hk, hkd, rfl⟩ := (tX _).1 hz
  obtain ⟨m, hm, hmd, rfl⟩ := (tX _).1 hy
  rw [(keep m hm).1 hmd k hk hg]
structure RdW (q : PSt) (lf : Bool) (g : Nat) (W ss kept : List Int) : Prop where
 all : ∀ i, i ∈ W ∨ i ∈ ss → PlaceOk q i ∧ CanonG (pd q i) ∧ ¬ geD lf (pd q i) g
 nd : ss.Nodup
 ndk : kept.Nodup
 keep : ∀ i, i ∈ kept ↔ i ∈ ss ∧ ¬ revP lf g (pd q i)
 pass : ∀ i ∈ ss, revP lf g (pd q i) → ∃ r, opD (!lf) (pd q i) r ∧ geD lf g r ∧ ∀ l, opD lf r l → ∃ j, (j ∈ ss ∨ j ∈ W) ∧ pd q j = l
 opts : ∀ l, opD lf g l → ∃ i, (i ∈ ss ∨ i ∈ W) ∧ eqG (pd q i) l
theorem RdW.seen {kept : List Int} {i : Int} (h : RdW q lf g (W ++ [i]) ss kept) (hi : i ∈ ss) : RdW q lf g W ss kept := by
 have m : ∀ j, j ∈ ss ∨ j ∈ W ++ [i] → j ∈ ss ∨ j ∈ W := fun j hj => by
  rcases hj with hj | hj
  ·exact cF hj
  ·rcases List.mem_append.1 hj with hj | hj
   ·exact cG hj
   ·rw [List.mem_singleton.1 hj]; exact cF hi
 refine ⟨fun j hj => h.all j (hj.imp (fun h => List.mem_append_left _ h) id), h.nd, h.ndk, h.keep, fun j hj hr => ?_, fun l hl => ?_⟩
 ·obtain ⟨r, h1, h2, h3⟩ := h.pass j hj hr
  exact ⟨r, h1, h2, fun l hl => by obtain ⟨k, hk, e⟩ := h3 l hl; exact ⟨k, m k hk, e⟩⟩
 ·obtain ⟨k, hk, e⟩ := h.opts l hl
  exact ⟨k, m k hk, e⟩
theorem RdW.kept {q : PSt} {lf : Bool} {g : Nat} {W ss kept : List Int} {i : Int} (h : RdW q lf g (W ++ [i]) ss kept) (hi : i ∉ ss) (hr : ¬ revP lf g (pd q i)) : RdW q lf g W (ss ++ [i]) (kept ++ [i]) := by
 have m : ∀ j, j ∈ ss ∨ j ∈ W ++ [i] → j ∈ ss ++ [i] ∨ j ∈ W := fun j hj => by
  rcases hj with hj | hj
  ·exact cF (List.mem_append_left _ hj)
  ·rcases List.mem_append.1 hj with hj | hj
   ·exact cG hj
   ·exact cF (List.mem_append_right _ hj)
 have hik : i ∉ kept := fun hk => hi ((h.keep i).1 hk).1
 refine ⟨fun j hj => h.all j ?_, List.nodup_append.2 ⟨h.nd, by simp, fun a ha b hb => by rw [List.mem_singleton.1 hb]; exact fun e => hi (e ▸ ha)⟩, List.nodup_append.2 ⟨h.ndk, by simp, fun a ha b hb => by rw [List.mem_singleton.1 hb]; exact fun e => hik (e ▸ ha)⟩, fun j => ?_, fun j hj hrj => ?_, fun l hl => ?_⟩
 ·rcases hj with hj | hj
  ·exact cF (List.mem_append_left _ hj)
  ·rcases List.mem_append.1 hj with hj | hj
   ·exact cG hj
   ·exact cF (List.mem_append_right _ hj)
 ·rw [List.mem_append, List.mem_append, h.keep j, List.mem_singleton]
  constructor
  ·rintro (⟨h1, h2⟩ | rfl)
   ·exact ⟨cF h1, h2⟩
   ·exact ⟨cG rfl, hr⟩
  ·rintro ⟨h1 | rfl, h2⟩
   ·exact cF ⟨h1, h2⟩
   ·exact cG rfl
 ·rcases List.mem_append.1 hj with hj | hj
  ·obtain ⟨r, h1, h2, h3⟩ := h.pass j hj hrj
   exact ⟨r, h1, h2, fun l hl => by obtain ⟨k, hk, e⟩ := h3 l hl; exact ⟨k, m k hk, e⟩⟩
  ·rw [List.mem_singleton.1 hj] at hrj; exact absurd hrj hr
 ·obtain ⟨k, hk, e⟩ := h.opts l hl
  exact ⟨k, m k hk, e⟩
def ol (q : PSt) (lf : Bool) (t : Int) : List Int := if lf = true then (q.ns.getD t.toNat default).l else (q.ns.getD t.toNat default).r
theorem mW (hok : PoolOk q) (ht : PlaceOk q t) : (∀ z ∈ ol q lf t, PlaceOk q z ∧ opD lf (pd q t) (pd q z)) ∧ ∀ l, opD lf (pd q t) l → ∃ z ∈ ol q lf t, pd q z = l := by
 have hp := jO hok ht
 unfold PlaceOk at ht
 unfold ol
 cases lf
 ·rw [if_neg Bool.false_ne_true]
  exact ⟨fun z hz => ⟨hp.2 z hz, opD_f.2 ((qE hok.ar.opts (by omega)).2 ⟨z, hz, rfl⟩)⟩, fun l hl => by
   obtain ⟨z, hz, e⟩ := (qE hok.ar.opts (by omega)).1 (opD_f.1 hl)
   exact ⟨z, hz, e.symm⟩⟩
 ·rw [if_pos rfl]
  exact ⟨fun z hz => ⟨hp.1 z hz, opD_t.2 ((qH hok.ar.opts (by omega)).2 ⟨z, hz, rfl⟩)⟩, fun l hl => by
   obtain ⟨z, hz, e⟩ := (qH hok.ar.opts (by omega)).1 (opD_t.1 hl)
   exact ⟨z, hz, e.symm⟩⟩
theorem CanonG.opt (h : CanonG g) (hl : opD lf g l) : CanonG l := by
 cases lf
 ·exact h.right (opD_f.1 hl)
 ·exact h.left (opD_t.1 hl)
theorem RdW.pass_on (hok : PoolOk q) {kept : List Int} {i : Int} (h : RdW q lf g (W ++ [i]) ss kept) (hi : i ∉ ss) (ht : PlaceOk q t) (ho : opD (!lf) (pd q i) (pd q t)) (hg : geD lf g (pd q t)) : RdW q lf g (W ++ ol q lf t) (ss ++ [i]) kept := by
 have om := mW hok (lf := lf) ht
 have hci := h.all i (cF (List.mem_append_right _ (List.mem_singleton_self i)))
 have hrev : revP lf g (pd q i) := revP_D.2 ⟨_, ho, hg⟩
 have m : ∀ j, j ∈ ss ∨ j ∈ W ++ [i] → j ∈ ss ++ [i] ∨ j ∈ W ++ ol q lf t := fun j hj => by
  rcases hj with hj | hj
  ·exact cF (List.mem_append_left _ hj)
  ·rcases List.mem_append.1 hj with hj | hj
   ·exact cG (List.mem_append_left _ hj)
   ·exact cF (List.mem_append_right _ hj)
 refine ⟨fun j hj => ?_, List.nodup_append.2 ⟨h.nd, by simp, fun a ha b hb => by rw [List.mem_singleton.1 hb]; exact fun e => hi (e ▸ ha)⟩, h.ndk, fun j => ?_, fun j hj hrj => ?_, fun l hl => ?_⟩
 ·rcases hj with hj | hj
  ·rcases List.mem_append.1 hj with hj | hj
   ·exact h.all j (cF (List.mem_append_left _ hj))
   ·have hz := om.1 j hj
    exact ⟨hz.1, (hci.2.1.opt ho).opt hz.2, fun hgz => rU hz.2 (jC hgz hg)⟩
  ·rcases List.mem_append.1 hj with hj | hj
   ·exact h.all j (cG hj)
   ·rw [List.mem_singleton.1 hj]; exact hci
 ·rw [h.keep j, List.mem_append, List.mem_singleton]
  constructor
  ·rintro ⟨h1, h2⟩; exact ⟨cF h1, h2⟩
  ·rintro ⟨h1 | rfl, h2⟩
   ·exact ⟨h1, h2⟩
   ·exact absurd hrev h2
 ·rcases List.mem_append.1 hj with hj | hj
  ·obtain ⟨r, h1, h2, h3⟩ := h.pass j hj hrj
   exact ⟨r, h1, h2, fun l hl => by obtain ⟨k, hk, e⟩ := h3 l hl; exact ⟨k, m k hk, e⟩⟩
  ·rw [List.mem_singleton.1 hj]
   exact ⟨_, ho, hg, fun l hl => by obtain ⟨z, hz, e⟩ := om.2 l hl; exact ⟨z, cG (List.mem_append_right _ hz), e⟩⟩
 ·obtain ⟨k, hk, e⟩ := h.opts l hl
  exact ⟨k, m k hk, e⟩
theorem RdW.done {kept : List Int} (h : RdW q lf g [] ss kept) : RedOk lf g (ss.map (pd q)) (kept.map (pd q)) := by
 have nn : ∀ j, j ∈ ss ∨ j ∈ ([] : List Int) → j ∈ ss := fun j hj => hj.resolve_right (by simp)
 refine ⟨fun i hi => ?_, fun i hi => ?_, fun i => ?_, fun i hi hr => ?_, fun l hl => ?_⟩
 ·obtain ⟨z, hz, rfl⟩ := List.mem_map.1 hi
  exact (h.all z (cG hz)).2.1
 ·obtain ⟨z, hz, rfl⟩ := List.mem_map.1 hi
  exact (h.all z (cG hz)).2.2
 ·constructor
  ·intro hi
   obtain ⟨z, hz, rfl⟩ := List.mem_map.1 hi
   have := (h.keep z).1 hz
   exact ⟨List.mem_map.2 ⟨z, this.1, rfl⟩, this.2⟩
  ·rintro ⟨hi, hr⟩
   obtain ⟨z, hz, rfl⟩ := List.mem_map.1 hi
   exact List.mem_map.2 ⟨z, (h.keep z).2 ⟨hz, hr⟩, rfl⟩
 ·obtain ⟨z, hz, rfl⟩ := List.mem_map.1 hi
  obtain ⟨r, h1, h2, h3⟩ := h.pass z hz hr
  exact ⟨r, h1, h2, fun l hl => by obtain ⟨j, hj, e⟩ := h3 l hl; exact List.mem_map.2 ⟨j, nn j hj, e⟩⟩
 ·obtain ⟨i, hi, e⟩ := h.opts l hl
  exact ⟨_, List.mem_map.2 ⟨i, nn i hi, rfl⟩, e⟩
theorem jH : ∀ (n : Nat) (l : List Int), l.Nodup → (∀ x ∈ l, 0 ≤ x ∧ x < (n : Int)) → l.length ≤ n
 | 0, l, _, h => by
  cases l with
  | nil => exact cH 0
  | cons x r => have := h x List.mem_cons_self; omega
 | n + 1, l, hn, h => by
  by_cases hm : (n : Int) ∈ l
  ·have h1 := List.length_erase_of_mem hm
   have h2 := jH n (l.erase (n : Int)) (hn.erase _) fun x hx => by
    have h3 := (hn.mem_erase_iff).1 hx
    have := h x h3.2
    have := h3.1
    omega
   omega
  ·have := jH n l hn fun x hx => by
    have h1 := h x hx
    by_cases e : x = (n : Int)
    ·exact absurd (e ▸ hx) hm
    ·omega
   omega
def unc (q : PSt) : Nat → Nat
 | 0 => 0
 | n + 1 => unc q n + (if look q.cm (n : Int) = none then 1 else 0)
theorem fM {q q' : PSt} (h : PX q q') : ∀ n, unc q' n ≤ unc q n
 | 0 => cH 0
 | n + 1 => by
  have := fM h n
  unfold unc
  by_cases h1 : look q'.cm (n : Int) = none
  ·rw [if_pos h1, if_pos (h.can _ h1)]; omega
  ·rw [if_neg h1]; omega
theorem unc_le {q : PSt} : ∀ n, unc q n ≤ n
 | 0 => cH 0
 | n + 1 => by have := unc_le (q := q) n; unfold unc; split <;> omega
theorem unc_put {q : PSt} {a z : Int} (ha : 0 ≤ a) (h0 : look q.cm a = none) : ∀ n : Nat, a < (n : Int) → unc { q with cm := putE q.cm a z } n + 1 ≤ unc q n
 | 0, h => by omega
 | n + 1, h => by
  unfold unc
  by_cases e : a = (n : Int)
  ·subst e
   have h1 : look (putE q.cm (n : Int) z) (n : Int) ≠ none := by rw [jL, if_pos rfl]; exact fun h => by cases h
   have h2 := fM (PX.put (q := q) (a := (n : Int)) (z := z)) n
   rw [if_neg (show ¬ look ({ q with cm := putE q.cm (n : Int) z } : PSt).cm (n : Int) = none from h1), if_pos h0]
   omega
  ·have h2 := unc_put (z := z) ha h0 n (by omega)
   have h3 : look ({ q with cm := putE q.cm a z } : PSt).cm (n : Int) = look q.cm (n : Int) := by
    show look (putE q.cm a z) _ = _
    rw [jL, if_neg fun h => e h.symm]
   rw [h3]; omega
theorem own_cut {α : Type} {E : Elt α} {e base : Nat} {G : Pin} {w : World} {v : Value} {xs : List α} (h : Own E e G w base v xs) (m : Nat) (zz : Int) (hz : 0 ≤ zz) (hzm : zz.toNat = m) (hm : m ≤ xs.length) (hp : 0 < xs.length) :
  ∃ u, Own E e G w base u (xs.take m) ∧ u.ownBlock = v.ownBlock ∧ RunsSlice v u E.size none (some zz) := by
 subst hzm
 obtain ⟨cells, ⟨hl, hown⟩, hr⟩ := h.ex
 rcases hown with ⟨_, h0⟩ | ⟨g, cap, cur, rfl, hb, hg, hn, hc, hs, ht⟩
 ·omega
 ·refine ⟨.slice (some ⟨g, 0, none⟩) zz.toNat cap, ⟨⟨cells.take (zz.toNat * E.size), ⟨?_, cG ⟨g, cap, cur, ?_, hb, hg, ?_, hc, hs, ?_⟩⟩, fun i x hx => ?_⟩, h.free⟩, rfl, ?_⟩
  ·rw [List.length_take, List.length_take, hl, Nat.min_eq_left hm]
   exact Nat.min_eq_left (Nat.mul_le_mul_right _ hm)
  ·rw [List.length_take, Nat.min_eq_left hm]
  ·rw [List.length_take, Nat.min_eq_left hm]; omega
  ·rw [List.length_take, Nat.min_eq_left hm, ← ht, List.take_take, Nat.min_eq_left (Nat.mul_le_mul_right _ hm)]
  ·rw [List.getElem?_take] at hx
   split at hx
   ·rename_i hi
    have h1 := hr i x hx
    have h2 : (i + 1) * E.size ≤ zz.toNat * E.size := Nat.mul_le_mul_right _ hi
    rw [Nat.add_mul, Nat.one_mul] at h2
    rw [List.drop_take, List.take_take, Nat.min_eq_left (by omega)]
    exact h1
   ·cases hx
  ·intro P w' d t e' ty pos aft gg x lx hx ρ htt hsz hρ hlx hhx
   have he := elem_of htt
   have ht' : P.underlying t = some (.slice (P.elem t)) := by rw [he]; exact htt
   have hsz' : ∀ w : World, (sizeOf (P.elem t)).run P w = .ok E.size w := fun w => by rw [he]; exact qC hsz w
   have key : (Instr.slice t (.slice (some ⟨g, 0, none⟩) xs.length cap) none (some (.int .i64 zz)) none).run P w' = .ok (.slice (some ⟨g, 0, none⟩) zz.toNat cap) w' := by
    refine (run_slice_h w' t (some ⟨g, 0, none⟩) xs.length cap ht' .i64 zz (by omega) (by omega)).trans ?_
    rw [hsz']
    simp [sliced, Addr.add]
   simp only [Option.map_none, Option.map_some] at hlx hhx
   simp [execOp, hρ, hlx, hhx, run_sliceAt_slice w' t _ _ _ _ ht', key]
structure QOk (q q2 : PSt) (os qs : List Int) (j : Nat) : Prop where
 len : qs.length = j
 at_ : ∀ x, x < j → PlaceOk q2 (qs.getD x 0) ∧ CanonG (pd q2 (qs.getD x 0)) ∧ eqG (pd q2 (qs.getD x 0)) (pd q (os.getD x 0))
theorem QOk.start : QOk q q2 os [] 0 := ⟨rfl, fun x hx => absurd hx (cK x)⟩
theorem QOk.step {q3 : PSt} {qs : List Int} {j : Nat} {z : Int} (h : QOk q q2 os qs j) (hq : PoolOk q) (hq2 : PoolOk q2) (hq3 : PoolOk q3) (h12 : PX q q2) (h23 : PX q2 q3) (ho : PlaceOk q (os.getD j 0)) (hz : PlaceOk q3 z) (hc : CanonG (pd q3 z)) (he : eqG (pd q3 z) (pd q3 (os.getD j 0))) : QOk q q3 os (qs ++ [z]) (j + 1) := by
 refine ⟨by rw [List.length_append, h.len]; rfl, fun x hx => ?_⟩
 by_cases e : x = j
 ·subst e
  have e1 : (qs ++ [z]).getD x 0 = z := by rw [← h.len]; simp [List.getD]
  rw [e1]
  rw [(cL h12 h23).pd hq hq3 ho] at he
  exact ⟨hz, hc, he⟩
 ·have hx' : x < j := by omega
  have e1 : (qs ++ [z]).getD x 0 = qs.getD x 0 := by simp [List.getD, List.getElem?_append_left (show x < qs.length by rw [h.len]; exact hx')]
  rw [e1]
  obtain ⟨h1, h2, h3⟩ := h.at_ x hx'
  rw [h23.pd hq2 hq3 h1]
  exact ⟨h23.place h1, h2, h3⟩
theorem QOk.rd {f : Int} {qs : List Int} (h : QOk q q2 os qs os.length) (hq : PoolOk q) (hf : PlaceOk q f) (hos : os = ol q lf f) : RdW q2 lf (pd q f) qs [] [] := by
 have om := mW hq (lf := lf) hf
 have el : ∀ i ∈ qs, ∃ x, x < os.length ∧ qs.getD x 0 = i := fun i hi => by
  obtain ⟨x, hx, rfl⟩ := List.getElem_of_mem hi
  exact ⟨x, by rw [← h.len]; exact hx, by rw [List.getD, List.getElem?_eq_getElem hx]; rfl⟩
 refine ⟨fun i hi => ?_, List.nodup_nil, List.nodup_nil, fun i => ⟨fun h => (by cases h), fun h => (by cases h.1)⟩, fun i hi => (by cases hi), fun l hl => ?_⟩
 ·have hi' := hi.resolve_right (by simp)
  obtain ⟨x, hx, rfl⟩ := el i hi'
  obtain ⟨h1, h2, h3⟩ := h.at_ x hx
  have hm : os.getD x 0 ∈ ol q lf f := hos ▸ yE hx
  exact ⟨h1, h2, fun hg => rU (om.1 _ hm).2 (jC (eqG_D h3).2 hg)⟩
 ·obtain ⟨z, hz, rfl⟩ := om.2 l hl
  rw [← hos] at hz
  obtain ⟨x, hx, rfl⟩ := List.getElem_of_mem hz
  have e : os.getD x 0 = os[x] := by rw [List.getD, List.getElem?_eq_getElem hx]; rfl
  have := (h.at_ x hx).2.2
  rw [e] at this
  exact ⟨_, cG (yE (by rw [h.len]; exact hx)), this⟩
theorem RdW.len {kept : List Int} (h : RdW q lf g W ss kept) : ss.length ≤ q.ns.length ∧ kept.length ≤ q.ns.length :=
 ⟨jH _ _ h.nd fun x hx => (h.all x (cG hx)).1, jH _ _ h.ndk fun x hx => (h.all x (cG ((h.keep x).1 hx).1)).1⟩
theorem ol_len (hok : PoolOk q) (ht : PlaceOk q t) : (ol q lf t).length ≤ 1048576 := by
 have hl := hok.ar.ok.lim
 have hr := hok.ar.rise t.toNat (by unfold PlaceOk at ht; omega)
 have om := mW hok (lf := lf) ht
 have hp : (ol q lf t).Pairwise (· < ·) := by
  unfold ol
  cases lf
  ·rw [if_neg Bool.false_ne_true]; exact hr.2
  ·rw [if_pos rfl]; exact hr.1
 have := jH _ _ (hp.imp fun h => Int.ne_of_lt h) fun x hx => (om.1 x hx).1
 omega
structure ReOk (q : PSt) (lf : Bool) (f : Int) (zs : List Int) : Prop where
 len : zs.length ≤ 1048576
 pl : ∀ z ∈ zs, PlaceOk q z
 red : ∃ s k, RedOk lf (pd q f) s k ∧ MaxOf lf k (zs.map (pd q))
theorem ReOk.px {q' : PSt} {f : Int} (h : ReOk q lf f zs) (hf : PlaceOk q f) (hx : PX q q') (hq : PoolOk q) (hq' : PoolOk q') : ReOk q' lf f zs :=
 ⟨h.len, fun z hz => hx.place (h.pl z hz), by
  obtain ⟨s, k, h1, h2⟩ := h.red
  exact ⟨s, k, by rw [hx.pd hq hq' hf]; exact h1, by rw [px_map hx hq hq' h.pl]; exact h2⟩⟩
theorem re_done (hok : PoolOk q) {f : Int} {kept : List Int} (h : RdW q lf g [] ss kept) (hg : g = pd q f) : ReOk q lf f (woL kept (domL (gX q kept) lf kept.length kept.length) kept.length) := by
 have hk : ∀ z ∈ kept, PlaceOk q z ∧ CanonG (pd q z) := fun z hz => by
  have := h.all z (cG ((h.keep z).1 hz).1)
  exact ⟨this.1, this.2.1⟩
 refine ⟨cR (mM _) (cR h.len.2 hok.ar.ok.lim), fun z hz => ?_, _, _, hg ▸ h.done, max_wo hok h.ndk hk⟩
 obtain ⟨i, hi, _, rfl⟩ := (tX _).1 hz
 exact (hk _ (yE hi)).1
theorem canon_done {f : Int} {ys : List Int} (h : ReOk q true f zs) (k : ReOk q false f ys) (hg : g' = mkG (zs.map (pd q)) (ys.map (pd q))) : CanonG g' ∧ eqG g' (pd q f) := by
 obtain ⟨s, k1, h1, h2⟩ := h.red
 obtain ⟨s2, k2, h3, h4⟩ := k.red
 subst hg
 exact canon_of h1 h3 h2 h4 (fun i => lo_mk) (fun i => ro_mk)
end Go.GL
namespace Go.GL
open Go Go.RowKit
theorem rd_pop {wl : List Int} {m : Nat} (hm : m + 1 = wl.length) : wl = wl.take m ++ [wl.getD m 0] := by
 have h : m < wl.length := by omega
 have e := List.take_succ_eq_append_getElem h
 rw [hm, List.take_length] at e
 rw [List.getD, List.getElem?_eq_getElem h]
 exact e
section
variable {q : PSt} {lf : Bool} {g : Nat} {wl ss kept : List Int} {m : Nat}
theorem RdW.pop (h : RdW q lf g wl ss kept) (hm : m + 1 = wl.length) : RdW q lf g (wl.take m ++ [wl.getD m 0]) ss kept := by rw [← rd_pop hm]; exact h
theorem RdW.at_ (h : RdW q lf g wl ss kept) (hm : m + 1 = wl.length) : PlaceOk q (wl.getD m 0) := (h.all _ (cF (yE (by omega)))).1
theorem RdW.same {q2 : PSt} (hn : q2.ns = q.ns ∧ q2.bs = q.bs) (h : RdW q lf g wl ss kept) : RdW q2 lf g wl ss kept := by
 have hp : pd q2 = pd q := funext fun z => xM hn
 have hl : ∀ z, PlaceOk q z → PlaceOk q2 z := fun z hz => hz.same hn
 exact ⟨fun i hi => ⟨hl i (h.all i hi).1, by rw [hp]; exact (h.all i hi).2⟩, h.nd, h.ndk, by rw [hp]; exact h.keep, by rw [hp]; exact h.pass, by rw [hp]; exact h.opts⟩
end
variable {sn : List (Int × Bool)} {i t : Int}
theorem ReOk.same {q q2 : PSt} {lf : Bool} {f : Int} {zs : List Int} (hn : q2.ns = q.ns ∧ q2.bs = q.bs) (h : ReOk q lf f zs) : ReOk q2 lf f zs := by
 have hp : pd q2 = pd q := funext fun z => xM hn
 exact ⟨h.len, fun z hz => (h.pl z hz).same hn, by rw [hp]; exact h.red⟩
def SnOk (sn : List (Int × Bool)) (ss : List Int) : Prop := ∀ i, look sn i = if i ∈ ss then some true else none
theorem SnOk.start : SnOk [] [] := fun _ => rfl
theorem SnOk.yes {ss : List Int} (h : SnOk sn ss) (hi : (look sn i).getD false = true) : i ∈ ss := by
 rw [h i] at hi
 split at hi
 ·assumption
 ·cases hi
theorem SnOk.no {ss : List Int} (h : SnOk sn ss) (hi : (look sn i).getD false = false) : i ∉ ss := fun hm => by
 rw [h i, if_pos hm] at hi; cases hi
theorem SnOk.put {ss : List Int} (h : SnOk sn ss) : SnOk (putE sn i true) (ss ++ [i]) := fun x => by
 rw [jL, h x]
 by_cases e : x = i
 ·rw [if_pos e, if_pos (List.mem_append_right _ (List.mem_singleton.2 e))]
 ·rw [if_neg e]
  by_cases hm : x ∈ ss
  ·rw [if_pos hm, if_pos (List.mem_append_left _ hm)]
  ·rw [if_neg hm, if_neg fun h => (List.mem_append.1 h).elim hm fun h => e (List.mem_singleton.1 h)]
theorem sF {q : PSt} (hok : PoolOk q) {lf : Bool} {f c : Int} (hc : PlaceOk q c) (h : thrP q.ns lf f c t) (h0 : 0 ≤ t) : PlaceOk q t ∧ opD (!lf) (pd q c) (pd q t) ∧ geD lf (pd q f) (pd q t) := by
 have op := jO hok hc
 unfold PlaceOk at hc
 rcases h.2.2 h0 with ⟨rfl, h1, h2⟩ | ⟨rfl, h1, h2⟩
 ·exact ⟨op.2 t h1, opD_f.2 ((qE hok.ar.opts (by omega)).2 ⟨t, h1, rfl⟩), geD_tt.2 (decP_true.1 h2)⟩
 ·exact ⟨op.1 t h1, opD_t.2 ((qH hok.ar.opts (by omega)).2 ⟨t, h1, rfl⟩), geD_ff.2 (decP_true.1 h2)⟩
theorem thr_no {q : PSt} {lf : Bool} {f c : Int} (h : thrP q.ns lf f c t) (h0 : t < 0) : ¬ revP lf (pd q f) (pd q c) := fun hr => by have := h.1.2 hr; omega
end Go.GL
namespace Go.GL
open Go Go.RowKit
inductive SubG (g : Nat) : Nat → Prop
 | self : SubG g g
 | left {x i : Nat} (h : SubG g x) (hl : loG x i) : SubG g i
 | right {x i : Nat} (h : SubG g x) (hr : roG x i) : SubG g i
variable {z : Int}
theorem gR {q : PSt} (hok : PoolOk q) {x : Nat} (hz : PlaceOk q z) : loG (pd q z) x ↔ ∃ o ∈ (q.ns.getD z.toNat default).l, x = pd q o := qH hok.ar.opts (by have := hz.1; have := hz.2; omega)
theorem gM {q : PSt} (hok : PoolOk q) {x : Nat} (hz : PlaceOk q z) : roG (pd q z) x ↔ ∃ o ∈ (q.ns.getD z.toNat default).r, x = pd q o := qE hok.ar.opts (by have := hz.1; have := hz.2; omega)
theorem sg_sub {ns : List Nd} (h : SG ns) {x : Nat} : (∃ k, k < ns.length ∧ den ns k = x) ↔ SubG (gOf ns) x := by
 have hlo := h.lo
 constructor
 ·have key : ∀ n k, ns.length - k ≤ n → k < ns.length → SubG (gOf ns) (den ns k) := by
   intro n
   induction n with
   | zero => intro k h1 h2; omega
   | succ n ih =>
    intro k h1 h2
    by_cases hk : k + 1 < ns.length
    ·obtain ⟨i, hki, hi, hz⟩ := h.last k hk
     have := ih i (by omega) hi
     rcases hz with hz | hz
     ·exact this.left ((qH h.opts hi).2 ⟨_, hz, rfl⟩)
     ·exact this.right ((qE h.opts hi).2 ⟨_, hz, rfl⟩)
    ·have : k = ns.length - 1 := by omega
     subst this; exact .self
  rintro ⟨k, hk, rfl⟩
  exact key _ k (cH _) hk
 ·intro hs
  induction hs with
  | self => exact ⟨ns.length - 1, by omega, rfl⟩
  | left _ hl ih =>
   obtain ⟨k, hk, rfl⟩ := ih
   obtain ⟨o, ho, e⟩ := (qH h.opts hk).1 hl
   have := (xB h.opts hk).1 o ho
   exact ⟨o.toNat, by omega, e.symm⟩
  | right _ hl ih =>
   obtain ⟨k, hk, rfl⟩ := ih
   obtain ⟨o, ho, e⟩ := (qE h.opts hk).1 hl
   have := (xB h.opts hk).2 o ho
   exact ⟨o.toNat, by omega, e.symm⟩
end Go.GL
namespace Go.GL
open Go Go.RowKit
theorem nodup_lt {l : List Int} (h : l.Pairwise (· < ·)) : l.Nodup := h.imp fun {a b} h e => by omega
noncomputable def formG (g : Nat) : List Nd := @dite _ (∃ ns, IsForm g ns) (Classical.propDecidable _) (fun h => Classical.choose h) (fun _ => [])
variable {ns : List Nd}
theorem IsForm.eq {g : Nat} (h : IsForm g ns) : formG g = ns := by
 have hx : ∃ ns, IsForm g ns := ⟨ns, h⟩
 unfold formG
 rw [dif_pos hx]
 exact (Classical.choose_spec hx).unique h
theorem form_eq {bs : List Int} (h : Ar ns bs) {m : Nat} (hm : m < ns.length) : formM ns bs m = formG (den ns m) :=
 (IsForm.eq (g := den ns m) ⟨(form_sg h hm).1, (form_sg h hm).2.1⟩).symm
end Go.GL
namespace Go.GL
open Go Go.RowKit Go.Sort Go.Lib
end Go.GL
namespace Go.GL
open Go Go.RowKit
theorem form_is {q : PSt} (hok : PoolOk q) {r : Int} (hr : PlaceOk q r) : IsForm (pd q r) (formG (pd q r)) := by
 have h := form_sg hok.ar (m := r.toNat) (by have := hr.1; have := hr.2; omega)
 have e := IsForm.eq (g := pd q r) ⟨h.1, h.2.1⟩
 rw [e]; exact ⟨h.1, h.2.1⟩
structure GsOk (q : PSt) (ls : List Int) (gs : List Nat) : Prop where
 pl : ∀ z ∈ ls, PlaceOk q z
 eq : ls.map (pd q) = gs
theorem GsOk.len {q : PSt} {ls : List Int} {gs : List Nat} (h : GsOk q ls gs) : ls.length = gs.length := by rw [← h.eq, List.length_map]
def flOf (ns : List Nd) : List (ByteArray × Int) := (List.range ns.length).map fun i => (b2s (keyN (ns.getD i default).l (ns.getD i default).r), (i : Int))
def bkq (ns : List Nd) (bs : List Int) : PSt := ⟨ns, bs, flOf ns, [], [], [], []⟩
variable {ns : List Nd} {bs xs ys : List Int}
theorem find_fl (h : Ar ns bs) : FindOk ns (flOf ns) := by
 have hk : ∀ i, i < ns.length → ∀ l r : List Int, (∀ x ∈ l, 0 ≤ x) → (∀ x ∈ r, 0 ≤ x) → b2s (keyN (ns.getD i default).l (ns.getD i default).r) = b2s (keyN l r) → ns.getD i default = ⟨l, r⟩ := fun i hi l r hl hr e => by
  have oo := xB h.opts hi
  obtain ⟨e1, e2⟩ := sZ (fun z hz => (oo.1 z hz).1) (fun z hz => (oo.2 z hz).1) hl hr (b2s_inj e)
  cases hn : ns.getD i default with
  | mk a b => rw [hn] at e1 e2; simp only at e1 e2; rw [e1, e2]
 constructor
 ·intro i hi
  have oo := xB h.opts hi
  have key : ∀ n, (look ((List.range n).map fun i => (b2s (keyN (ns.getD i default).l (ns.getD i default).r), (i : Int))) (b2s (keyN (ns.getD i default).l (ns.getD i default).r))) = (if i < n then some (i : Int) else none) ∨ ns.length < n := by
   intro n
   induction n with
   | zero => left; rfl
   | succ n ih =>
    by_cases hn : ns.length < n + 1
    ·exact cG hn
    left
    have ih := ih.resolve_right (by omega)
    rw [List.range_succ, List.map_append]
    unfold look at ih ⊢
    rw [List.find?_append]
    by_cases h1 : i < n
    ·rw [if_pos h1] at ih
     obtain ⟨p, hp, e⟩ := Option.map_eq_some_iff.1 ih
     rw [hp, if_pos (by omega)]
     simp [e]
    ·rw [if_neg h1] at ih
     have h2 := Option.map_eq_none_iff.1 ih
     rw [h2]
     by_cases h3 : i = n
     ·subst h3; rw [if_pos (by omega)]; simp
     ·rw [if_neg (by omega)]
      have hne : ¬ (b2s (keyN (ns.getD n default).l (ns.getD n default).r) = b2s (keyN (ns.getD i default).l (ns.getD i default).r)) := fun e => by
       have := hk n (by omega) _ _ (fun z hz => (oo.1 z hz).1) (fun z hz => (oo.2 z hz).1) e
       exact h.diff n i (by omega) hi this
      have hd := decide_eq_false hne
      simp only [List.map_cons, List.map_nil, List.find?_cons, hd, List.find?_nil]
      rfl
  have := (key ns.length).resolve_right (by omega)
  rw [if_pos hi] at this
  exact this
 ·intro l r z hl hr hz
  unfold look flOf at hz
  obtain ⟨p, hp, e⟩ := Option.map_eq_some_iff.1 hz
  have h1 := List.mem_of_find?_eq_some hp
  obtain ⟨i, hi, rfl⟩ := List.mem_map.1 h1
  have h3 := List.find?_some hp
  simp only [decide_eq_true_eq] at h3
  have h2 := h3
  have hi' := List.mem_range.1 hi
  exact ⟨i, hi', e.symm, hk i hi' l r hl hr h2⟩
theorem bkq_ok (h : Ar ns bs) : PoolOk (bkq ns bs) :=
 ⟨h, find_fl h, (fun _ _ _ h => by cases h), (fun _ _ h => by cases h), (fun _ _ _ h => by cases h), (fun _ _ h => by cases h)⟩
theorem putN_app : putN ns bs xs ys = ns ∨ putN ns bs xs ys = ns ++ [putNd xs ys] := by
 unfold putN
 split
 ·exact cF rfl
 ·exact cG rfl
structure PutOk (ns : List Nd) (bs xs ys : List Int) : Prop where
 ok : PoolOk (bkq (putN ns bs xs ys) (putB ns bs xs ys))
 px : PX (bkq ns bs) (bkq (putN ns bs xs ys) (putB ns bs xs ys))
 pl : PlaceOk (bkq (putN ns bs xs ys) (putB ns bs xs ys)) (putK ns bs xs ys)
 pd : pd (bkq (putN ns bs xs ys) (putB ns bs xs ys)) (putK ns bs xs ys) = mkG (xs.map (Go.GL.pd (bkq ns bs))) (ys.map (Go.GL.pd (bkq ns bs)))
 len : (putN ns bs xs ys).length ≤ ns.length + 1
theorem bk_put (h : PoolOk (bkq ns bs)) (hl : ns.length + 1 ≤ 1048576) (hls : xs.length ≤ 1048576 ∧ ys.length ≤ 1048576) (h1 : ∀ z ∈ xs, PlaceOk (bkq ns bs) z) (h2 : ∀ z ∈ ys, PlaceOk (bkq ns bs) z) : PutOk ns bs xs ys := by
 have ha : Ar ns bs := h.ar
 have b1 := jT h1
 have b2 := jT h2
 have hp := ha.put hl hls b1 b2
 have hb := ha.ok.put hl hls b1 b2
 have hn := putN_app (ns := ns) (bs := bs) (xs := xs) (ys := ys)
 refine ⟨bkq_ok hp.1, ⟨?_, fun k hk => ?_, fun _ h => h⟩, hb.2.1, hp.2.1, ?_⟩
 ·show ns.length ≤ (putN ns bs xs ys).length
  rcases hn with e | e <;> rw [e]
  ·exact cH _
  ·simp
 ·show (putN ns bs xs ys).getD k default = ns.getD k default
  rcases hn with e | e <;> rw [e]
  exact yX hk
 ·rcases hn with e | e <;> rw [e] <;> simp
def NkOk (q : PSt) (ats : List Int) (k : Nat) (φ : Nat → Nat) : Prop := GsOk q ats ((List.range k).map φ)
section
variable {q q' : PSt} {ats : List Int} {k : Nat} {φ : Nat → Nat}
theorem NkOk.len (h : NkOk q ats k φ) : ats.length = k := by have := GsOk.len h; simpa using this
theorem NkOk.at_ (h : NkOk q ats k φ) {i : Nat} (hi : i < k) : PlaceOk q (ats.getD i 0) ∧ pd q (ats.getD i 0) = φ i := by
 have hl := h.len
 refine ⟨h.pl _ (yE (by omega)), ?_⟩
 have := cgA (fun l : List Nat => l[i]?) h.eq
 simp only [List.getElem?_map, List.getElem?_range hi, Option.map_some] at this
 simp only [List.getElem?_eq_getElem (show i < ats.length by omega), Option.map_some] at this
 have e : ats.getD i 0 = ats[i]'(by omega) := by simp [List.getD, show i < ats.length by omega]
 rw [e]; exact Option.some.inj this
end
theorem book_form {ns : List Nd} {bs : List Int} (h : PoolOk (bkq ns bs)) {z : Int} (hz : PlaceOk (bkq ns bs) z) : formM ns bs z.toNat = formG (pd (bkq ns bs) z) := form_eq h.ar (m := z.toNat) (show z.toNat < ns.length by have := hz.1; have h2 : z < (ns.length : Int) := hz.2; omega)
end Go.GL
namespace Go.GL
open Go Go.RowKit
def natG : Nat → Nat
 | 0 => mkG [] []
 | n + 1 => mkG [natG n] []
def minG : Nat → Nat
 | 0 => mkG [] []
 | n + 1 => mkG [] [minG n]
def intG (t : Int) : Nat := if 0 ≤ t then natG t.toNat else minG (-t).toNat
def dyG : Nat → Int → Nat
 | 0, t => intG t
 | p + 1, t => if t % 2 = 0 then dyG p (t / 2) else mkG [dyG p ((t - 1) / 2)] [dyG p ((t + 1) / 2)]
theorem int_zero : intG 0 = mkG [] [] := rfl
variable {t : Int} {p : Nat}
theorem pN (h : 0 < t) : intG t = mkG [intG (t - 1)] [] := by
 obtain ⟨n, rfl⟩ : ∃ n : Nat, t = (n : Int) + 1 := ⟨(t - 1).toNat, by omega⟩
 unfold intG
 rw [if_pos (by omega), if_pos (by omega), show ((n : Int) + 1).toNat = n + 1 by omega, show ((n : Int) + 1 - 1).toNat = n by omega]
 rfl
theorem pO (h : t < 0) : intG t = mkG [] [intG (t + 1)] := by
 obtain ⟨n, rfl⟩ : ∃ n : Nat, t = -((n : Int) + 1) := ⟨(-t - 1).toNat, by omega⟩
 unfold intG
 rw [if_neg (by omega), show (-(-((n : Int) + 1))).toNat = n + 1 by omega]
 split
 ·have hn : n = 0 := by omega
  subst hn
  rfl
 ·rw [show (-(-((n : Int) + 1) + 1)).toNat = n by omega]
  rfl
theorem tA (h : t % 2 ≠ 0) : dyG (p + 1) t = mkG [dyG p ((t - 1) / 2)] [dyG p ((t + 1) / 2)] := if_neg h
theorem jI (h : t % 2 = 0) : dyG (p + 1) t = dyG p (t / 2) := if_pos h
def lowD : Nat → Int → Int × Nat
 | 0, t => (t, 0)
 | p + 1, t => if t % 2 = 0 then lowD p (t / 2) else (t, p + 1)
theorem low_dy : ∀ (p : Nat) (t : Int), dyG (lowD p t).2 (lowD p t).1 = dyG p t
 | 0, _ => rfl
 | p + 1, t => by
  unfold lowD
  split
  ·rename_i h
   rw [jI h]; exact low_dy p _
  ·rfl
theorem rZ : ∀ (p : Nat) (t : Int), (lowD p t).2 ≤ p ∧ ((lowD p t).2 = 0 ∨ (lowD p t).1 % 2 ≠ 0)
 | 0, _ => ⟨cH _, cF rfl⟩
 | p + 1, t => by
  unfold lowD
  split
  ·have := rZ p (t / 2)
   exact ⟨by omega, this.2⟩
  ·rename_i h
   exact ⟨cH _, cG h⟩
end Go.GL
namespace Go.GL
open Go Go.RowKit
section
variable {P : Program} {w : World} {ρ : Operand → Value} {d : Option Nat} {t t' ty : Nat} {pos : String} {aft : Array Edge} {g : Option (Nat × Bool)} {x y : Operand} {i j : Int}
theorem nO (i : Int) : i.tmod 2 = 0 ↔ i % 2 = 0 := by
 rw [← Int.dvd_iff_tmod_eq_zero, Int.dvd_iff_emod_eq_zero]
theorem r_rem2 (hx : ρ x = .int .i64 i) (hy : ρ y = .int .i64 2) : (execOp ρ ⟨d, .binOp .rem t x y t', ty, pos, aft, g⟩).run P w = .ok (.value (.int .i64 (i.tmod 2))) w := by
 simp [execOp, hx, hy, binOp, eqGuard, Op.intDiv]
theorem r_quo2 (hx : ρ x = .int .i64 i) (hy : ρ y = .int .i64 2) (h : i % 2 = 0) (hb : -9223372036854775808 ≤ i ∧ i ≤ 9223372036854775807) : (execOp ρ ⟨d, .binOp .quo t x y t', ty, pos, aft, g⟩).run P w = .ok (.value (.int .i64 (i / 2))) w := by
 have he : i.tdiv 2 = i / 2 := Int.tdiv_eq_ediv_of_dvd (Int.dvd_of_emod_eq_zero h)
 simp [execOp, hx, hy, binOp, eqGuard, Op.intDiv, he, IntWalk.i64_in (i / 2) ⟨by omega, by omega⟩]
variable {k : IntKind}
theorem r_shrI (hx : ρ x = .int .i64 i) (hy : ρ y = .int k j) (h0 : 0 ≤ j) : (execOp ρ ⟨d, .binOp .shr t x y t', ty, pos, aft, g⟩).run P w = .ok (.value (.int .i64 (i.fdiv (2 ^ (min j.toNat 64))))) w := by
 simp [execOp, hx, hy, binOp, eqGuard, Op.shift, show ¬ j < 0 by omega, IntKind.bits]
theorem r_shlI (hx : ρ x = .int .i64 i) (hy : ρ y = .int k j) (h0 : 0 ≤ j ∧ j ≤ 64) (hb : -9223372036854775808 ≤ i * 2 ^ j.toNat ∧ i * 2 ^ j.toNat ≤ 9223372036854775807) : (execOp ρ ⟨d, .binOp .shl t x y t', ty, pos, aft, g⟩).run P w = .ok (.value (.int .i64 (i * 2 ^ j.toNat))) w := by
 have hm : min j.toNat 64 = j.toNat := by omega
 simp [execOp, hx, hy, binOp, eqGuard, IntWalk.i64_in _ hb]
end
structure GoodD (t z : Int) : Prop where
 top : -1000000 ≤ t ∧ t ≤ 1000000
 pow : 0 ≤ z ∧ z ≤ 16
 odd : z = 0 ∨ t.tmod 2 ≠ 0
variable {z a : Int}
theorem low_even (hz : 0 < z) (h : a.tmod 2 = 0) : lowD z.toNat a = lowD (z - 1).toNat (a / 2) := by
 have e : z.toNat = (z - 1).toNat + 1 := by omega
 rw [e]
 show (if a % 2 = 0 then _ else _) = _
 rw [if_pos ((nO a).1 h)]
theorem fB (hz : 0 ≤ z) (h : ¬ 0 < z ∨ ¬ a.tmod 2 = 0) : lowD z.toNat a = (a, z.toNat) := by
 rcases Int.lt_or_le 0 z with h1 | h1
 ·have e : z.toNat = (z - 1).toNat + 1 := by omega
  have h2 : ¬ a % 2 = 0 := fun x => (h.resolve_left (by omega)) ((nO a).2 x)
  rw [e]
  show (if a % 2 = 0 then _ else _) = _
  rw [if_neg h2]
 ·have e : z.toNat = 0 := by omega
  rw [e]; rfl
end Go.GL
namespace Go.GL
open Go Go.RowKit
theorem sub_mk {ls rs : List Nat} {x : Nat} (h : SubG (mkG ls rs) x) : x = mkG ls rs ∨ ∃ y, y ∈ ls ++ rs ∧ SubG y x := by
 induction h with
 | self => exact cF rfl
 | left _ hl ih =>
  rcases ih with rfl | ⟨y, hy, hs⟩
  ·exact cG ⟨_, List.mem_append_left _ (lo_mk.1 hl), .self⟩
  ·exact cG ⟨y, hy, hs.left hl⟩
 | right _ hl ih =>
  rcases ih with rfl | ⟨y, hy, hs⟩
  ·exact cG ⟨_, List.mem_append_right _ (ro_mk.1 hl), .self⟩
  ·exact cG ⟨y, hy, hs.right hl⟩
theorem isform_ok {g : Nat} {ns : List Nd} (h : IsForm g ns) (hl : ns.length ≤ 1048576) : FormOk ns :=
 ⟨hl, h.1.opts, fun i hi => by
  have oo := xB h.1.opts hi
  have a := jH i _ (nodup_lt (h.1.pw i hi).1) oo.1
  have b := jH i _ (nodup_lt (h.1.pw i hi).2) oo.2
  omega⟩
noncomputable def lowR (b : Bool) (v : Int) : Int := if b = true then v else 0
variable {p : Nat} {l r : List Nat} {D t : Int}
theorem low_evn {a : Int} (h : a % 2 = 0) : lowD (p + 1) a = lowD p (a / 2) := if_pos h
theorem low_dbl (p : Nat) (a : Int) : lowD (p + 1) (2 * a) = lowD p a := by
 rw [low_evn (by omega), show 2 * a / 2 = a by omega]
theorem low_abs : ∀ (p : Nat) (t : Int), (lowD p t).1.natAbs ≤ t.natAbs
 | 0, _ => cH _
 | p + 1, t => by
  unfold lowD
  split
  ·have := low_abs p (t / 2); omega
  ·exact cH _
theorem mZ : ∀ (k p : Nat) (t : Int), lowD (p + k) (t * 2 ^ k) = lowD p t
 | 0, p, t => by simp
 | k + 1, p, t => by
  rw [show t * 2 ^ (k + 1) = 2 * (t * 2 ^ k) by rw [Int.pow_succ]; rw [← Int.mul_assoc, Int.mul_comm]]
  rw [← Nat.add_assoc, low_dbl]
  exact mZ k p t
def OneG (g : Nat) : Prop := (∀ i j, loG g i → loG g j → i = j) ∧ ∀ i j, roG g i → roG g j → i = j
theorem one_mk (hl : l.length ≤ 1) (hr : r.length ≤ 1) : OneG (mkG l r) := by
 have key : ∀ {l : List Nat} {i j : Nat}, l.length ≤ 1 → i ∈ l → j ∈ l → i = j := fun {l i j} h hi hj => by
  match l, h with
  | [], _ => cases hi
  | [a], _ => rw [List.mem_singleton.1 hi, List.mem_singleton.1 hj]
 exact ⟨fun i j hi hj => key hl (lo_mk.1 hi) (lo_mk.1 hj), fun i j hi hj => key hr (ro_mk.1 hi) (ro_mk.1 hj)⟩
def OneA (g : Nat) : Prop := ∀ x, SubG g x → OneG x
theorem rW (hl : l.length ≤ 1) (hr : r.length ≤ 1) (h : ∀ y ∈ l ++ r, OneA y) : OneA (mkG l r) := fun x hx => by
 rcases sub_mk hx with rfl | ⟨y, hy, hs⟩
 ·exact one_mk hl hr
 ·exact h y hy x hs
theorem rV : ∀ n, OneA (natG n) ∧ OneA (minG n)
 | 0 => ⟨rW (by decide) (by decide) (by simp), rW (by decide) (by decide) (by simp)⟩
 | n + 1 => ⟨rW (by simp) (by simp) (fun y hy => by simp at hy; subst hy; exact (rV n).1), rW (by simp) (by simp) (fun y hy => by simp at hy; subst hy; exact (rV n).2)⟩
theorem rX : ∀ (p : Nat) (t : Int), OneA (dyG p t)
 | 0, t => by
  show OneA (intG t)
  unfold intG
  split
  ·exact (rV _).1
  ·exact (rV _).2
 | p + 1, t => by
  by_cases h : t % 2 = 0
  ·rw [jI h]; exact rX p _
  ·rw [tA h]
   refine rW (by simp) (by simp) fun y hy => ?_
   simp at hy
   rcases hy with rfl | rfl
   ·exact rX p _
   ·exact rX p _
def scI (D t z : Int) : Int := t * 2 ^ (D - z).toNat
theorem scI_pow : scI D t (p : Int) = t * 2 ^ (D.toNat - p) := by
 unfold scI; rw [show (D - (p : Int)).toNat = D.toNat - p by omega]
theorem shl_lim {k : Nat} (ht : -10000000 ≤ t ∧ t ≤ 10000000) (hk : k ≤ 24) : -200000000000000 ≤ t * 2 ^ k ∧ t * 2 ^ k ≤ 200000000000000 := by
 have h1 : (2 : Nat) ^ k ≤ 2 ^ 24 := Nat.pow_le_pow_right (by decide) hk
 have h2 : (t * 2 ^ k).natAbs ≤ 10000000 * 2 ^ 24 := by
  rw [Int.natAbs_mul, Int.natAbs_pow]
  exact Nat.mul_le_mul (by omega) h1
 omega
theorem vK {z : Int} (ht : -10000000 ≤ t ∧ t ≤ 10000000) (hz : D - 24 ≤ z) : -200000000000000 ≤ scI D t z ∧ scI D t z ≤ 200000000000000 := shl_lim ht (by omega)
theorem low_add {D : Nat} (hp : p ≤ D) (t u : Int) : lowD D (scI D t p + scI D u p) = lowD p (t + u) := by
 rw [scI_pow, scI_pow, ← Int.add_mul, Int.toNat_natCast]
 have := mZ (D - p) p (t + u)
 rwa [show p + (D - p) = D by omega] at this
end Go.GL
namespace Go.GL
open Go Go.RowKit
theorem kI (p : Nat) (t : Int) : dyG (p + 1) (2 * t) = dyG p t := by
 rw [jI (by omega), show 2 * t / 2 = t by omega]
theorem kS : ∀ (k p : Nat) (t : Int), dyG (p + k) (t * 2 ^ k) = dyG p t
 | 0, p, t => by simp
 | k + 1, p, t => by
  rw [show t * 2 ^ (k + 1) = 2 * (t * 2 ^ k) by rw [Int.pow_succ]; rw [← Int.mul_assoc, Int.mul_comm]]
  rw [← Nat.add_assoc, kI]
  exact kS k p t
variable {t : Int} {l p g : Nat}
theorem int_lo (h : loG (intG t) l) : 0 < t ∧ l = intG (t - 1) := by
 rcases Int.lt_trichotomy t 0 with h1 | h1 | h1
 ·rw [pO h1, lo_mk] at h; cases h
 ·rw [h1, int_zero, lo_mk] at h; cases h
 ·rw [pN h1, lo_mk, List.mem_singleton] at h; exact ⟨h1, h⟩
theorem int_ro (h : roG (intG t) l) : t < 0 ∧ l = intG (t + 1) := by
 rcases Int.lt_trichotomy t 0 with h1 | h1 | h1
 ·rw [pO h1, ro_mk, List.mem_singleton] at h; exact ⟨h1, h⟩
 ·rw [h1, int_zero, ro_mk] at h; cases h
 ·rw [pN h1, ro_mk] at h; cases h
theorem dy_lo : ∀ (p : Nat) (t : Int) {l : Nat}, loG (dyG p t) l → ∃ s, s < t ∧ l = dyG p s
 | 0, t, l, h => ⟨t - 1, by omega, (int_lo h).2⟩
 | p + 1, t, l, h => by
  by_cases e : t % 2 = 0
  ·rw [jI e] at h
   obtain ⟨s, h1, rfl⟩ := dy_lo p _ h
   exact ⟨2 * s, by omega, (kI p s).symm⟩
  ·rw [tA e, lo_mk, List.mem_singleton] at h
   exact ⟨t - 1, by omega, by rw [jI (by omega)]; exact h⟩
theorem dy_ro : ∀ (p : Nat) (t : Int) {l : Nat}, roG (dyG p t) l → ∃ s, t < s ∧ l = dyG p s
 | 0, t, l, h => ⟨t + 1, by omega, (int_ro h).2⟩
 | p + 1, t, l, h => by
  by_cases e : t % 2 = 0
  ·rw [jI e] at h
   obtain ⟨s, h1, rfl⟩ := dy_ro p _ h
   exact ⟨2 * s, by omega, (kI p s).symm⟩
  ·rw [tA e, ro_mk, List.mem_singleton] at h
   exact ⟨t + 1, by omega, by rw [jI (by omega)]; exact h⟩
theorem dy_gap : ∀ (p : Nat) (t s : Int), t < s → (∃ r, roG (dyG p t) (dyG p r) ∧ r ≤ s) ∨ ∃ l, loG (dyG p s) (dyG p l) ∧ t ≤ l
 | 0, t, s, h => by
  by_cases h1 : 0 < s
  ·exact cG ⟨s - 1, by show loG (intG s) (intG (s - 1)); rw [pN h1]; exact lo_mk.2 (List.mem_singleton_self _), by omega⟩
  ·exact cF ⟨t + 1, by show roG (intG t) (intG (t + 1)); rw [pO (show t < 0 by omega)]; exact ro_mk.2 (List.mem_singleton_self _), by omega⟩
 | p + 1, t, s, h => by
  by_cases e : t % 2 = 0
  ·by_cases e2 : s % 2 = 0
   ·rcases dy_gap p (t / 2) (s / 2) (by omega) with ⟨r, h1, h2⟩ | ⟨l, h1, h2⟩
    ·exact cF ⟨2 * r, by rw [jI e, kI]; exact h1, by omega⟩
    ·exact cG ⟨2 * l, by rw [jI e2, kI]; exact h1, by omega⟩
   ·exact cG ⟨s - 1, by rw [tA e2, jI (show (s - 1) % 2 = 0 by omega)]; exact lo_mk.2 (List.mem_singleton_self _), by omega⟩
  ·exact cF ⟨t + 1, by rw [tA e, jI (show (t + 1) % 2 = 0 by omega)]; exact ro_mk.2 (List.mem_singleton_self _), by omega⟩
theorem mK (p : Nat) : ∀ (n : Nat) (t s : Int), dyG p t + dyG p s < n → (geG (dyG p t) (dyG p s) ↔ s ≤ t)
 | 0, t, s, h => absurd h (cK _)
 | n + 1, t, s, h => by
  constructor
  ·intro hg
   refine Int.not_lt.1 fun hl => ?_
   rcases dy_gap p t s hl with ⟨r, h1, h2⟩ | ⟨l, h1, h2⟩
   ·exact (ge_iff.1 hg).1 _ h1 ((mK p n s r (by have := h1.lt; omega)).2 h2)
   ·exact (ge_iff.1 hg).2 _ h1 ((mK p n l t (by have := h1.lt; omega)).2 h2)
  ·intro hs
   refine ge_iff.2 ⟨fun r hr hg => ?_, fun l hl hg => ?_⟩
   ·obtain ⟨u, h1, rfl⟩ := dy_ro p t hr
    have := (mK p n s u (by have := hr.lt; omega)).1 hg; omega
   ·obtain ⟨u, h1, rfl⟩ := dy_lo p s hl
    have := (mK p n u t (by have := hl.lt; omega)).1 hg; omega
theorem dy_ge {s : Int} : geG (dyG p t) (dyG p s) ↔ s ≤ t := mK p _ t s (Nat.lt_succ_self _)
theorem eJ {s : Int} (h : dyG p t = dyG p s) : t = s := by
 have h1 : geG (dyG p t) (dyG p s) := by rw [h]; exact jM _
 have h2 : geG (dyG p s) (dyG p t) := by rw [h]; exact jM _
 have := dy_ge.1 h1; have := dy_ge.1 h2; omega
theorem even_pow (t : Int) (k : Nat) : (t * 2 ^ (k + 1)) % 2 = 0 := by
 rw [Int.pow_succ, ← Int.mul_assoc]; omega
theorem dy_red {q : Nat} {s : Int} (h1 : p = 0 ∨ t % 2 ≠ 0) (h2 : q = 0 ∨ s % 2 ≠ 0) (e : dyG p t = dyG q s) : p = q ∧ t = s := by
 rcases Nat.lt_trichotomy p q with h | h | h
 ·obtain ⟨k, rfl⟩ : ∃ k, q = p + (k + 1) := ⟨q - p - 1, by omega⟩
  rw [← kS (k + 1) p t] at e
  have := eJ e
  have := even_pow t k
  exact absurd (by rw [← eJ e]; exact this) (h2.resolve_left (by omega))
 ·subst h; exact ⟨rfl, eJ e⟩
 ·obtain ⟨k, rfl⟩ : ∃ k, p = q + (k + 1) := ⟨p - q - 1, by omega⟩
  rw [← kS (k + 1) q s] at e
  have := even_pow s k
  exact absurd (by rw [eJ e]; exact this) (h1.resolve_left (by omega))
def NumD (g : Nat) : Prop := ∃ (p : Nat) (t : Int), (p = 0 ∨ t % 2 ≠ 0) ∧ g = dyG p t
theorem vX (p : Nat) (t : Int) : NumD (dyG p t) := ⟨_, _, (rZ p t).2, (low_dy p t).symm⟩
theorem num_two {a b : Nat} (h : NumD a) (k : NumD b) : ∃ (p : Nat) (s t : Int), a = dyG p s ∧ b = dyG p t := by
 obtain ⟨p, s, _, rfl⟩ := h
 obtain ⟨q, t, _, rfl⟩ := k
 exact ⟨p + q, s * 2 ^ q, t * 2 ^ p, (kS q p s).symm, by rw [Nat.add_comm]; exact (kS p q t).symm⟩
theorem NumD.left (h : NumD g) (hl : loG g l) : NumD l ∧ geG g l := by
 obtain ⟨p, t, _, rfl⟩ := h
 obtain ⟨s, h1, rfl⟩ := dy_lo p t hl
 exact ⟨vX p s, dy_ge.2 (by omega)⟩
theorem NumD.right (h : NumD g) (hl : roG g l) : NumD l ∧ geG l g := by
 obtain ⟨p, t, _, rfl⟩ := h
 obtain ⟨s, h1, rfl⟩ := dy_ro p t hl
 exact ⟨vX p s, dy_ge.2 (by omega)⟩
theorem dy_revL : ∀ (p : Nat) (t : Int) {l r : Nat}, loG (dyG p t) l → roG l r → ∃ u, t < u ∧ r = dyG p u
 | 0, t, l, r, h, k => by
  obtain ⟨h1, rfl⟩ := int_lo h
  have := (int_ro k).1; omega
 | p + 1, t, l, r, h, k => by
  by_cases e : t % 2 = 0
  ·rw [jI e] at h
   obtain ⟨u, h1, rfl⟩ := dy_revL p _ h k
   exact ⟨2 * u, by omega, (kI p u).symm⟩
  ·rw [tA e, lo_mk, List.mem_singleton] at h
   subst h
   obtain ⟨u, h1, rfl⟩ := dy_ro p _ k
   exact ⟨2 * u, by omega, (kI p u).symm⟩
theorem dy_revR : ∀ (p : Nat) (t : Int) {l r : Nat}, roG (dyG p t) r → loG r l → ∃ u, u < t ∧ l = dyG p u
 | 0, t, l, r, h, k => by
  obtain ⟨h1, rfl⟩ := int_ro h
  have := (int_lo k).1; omega
 | p + 1, t, l, r, h, k => by
  by_cases e : t % 2 = 0
  ·rw [jI e] at h
   obtain ⟨u, h1, rfl⟩ := dy_revR p _ h k
   exact ⟨2 * u, by omega, (kI p u).symm⟩
  ·rw [tA e, ro_mk, List.mem_singleton] at h
   subst h
   obtain ⟨u, h1, rfl⟩ := dy_lo p _ k
   exact ⟨2 * u, by omega, (kI p u).symm⟩
theorem rE (p : Nat) : ∀ (n : Nat) (t : Int), dyG p t < n → CanonG (dyG p t)
 | 0, t, h => absurd h (cK _)
 | n + 1, t, h => by
  have ho := rX p t _ .self
  refine canon_iff.2 ⟨⟨fun a b ha hb _ => ho.1 a b ha hb, fun a b ha hb _ => ho.2 a b ha hb⟩, ⟨fun l r hl hr hg => ?_, fun r l hr hl hg => ?_⟩, fun l hl => ?_, fun r hr => ?_⟩
  ·obtain ⟨u, h1, rfl⟩ := dy_revL p t hl hr
   have := dy_ge.1 hg; omega
  ·obtain ⟨u, h1, rfl⟩ := dy_revR p t hr hl
   have := dy_ge.1 hg; omega
  ·obtain ⟨s, _, rfl⟩ := dy_lo p t hl
   exact rE p n s (by have := hl.lt; omega)
  ·obtain ⟨s, _, rfl⟩ := dy_ro p t hr
   exact rE p n s (by have := hr.lt; omega)
theorem num_canon (h : NumD g) : CanonG g := by
 obtain ⟨p, t, _, rfl⟩ := h
 exact rE p _ t (Nat.lt_succ_self _)
theorem num_one (h : NumD g) : OneG g := by
 obtain ⟨p, t, _, rfl⟩ := h
 exact rX p t _ .self
theorem least {P : Nat → Prop} : ∀ (n x : Nat), x < n → P x → ∃ y, P y ∧ ∀ z, z < y → ¬ P z
 | 0, x, h, _ => absurd h (cK _)
 | n + 1, x, h, hx => by
  by_cases hz : ∃ z, z < x ∧ P z
  ·obtain ⟨z, h1, h2⟩ := hz
   exact least n z (by omega) h2
  ·exact ⟨x, hx, fun z h1 h2 => hz ⟨z, h1, h2⟩⟩
def Btw (g x : Nat) : Prop := NumD x ∧ (∀ l, loG g l → ¬ geG l x) ∧ ∀ r, roG g r → ¬ geG x r
theorem btw_eq {x : Nat} (h : Btw g x) (hm : ∀ z, z < x → ¬ Btw g z) : eqG g x := by
 obtain ⟨h1, h2, h3⟩ := h
 have key : ∀ y, y < x → NumD y → (∃ l, loG g l ∧ geG l y) ∨ ∃ r, roG g r ∧ geG y r := fun y hy hn => by
  by_cases a : ∃ l, loG g l ∧ geG l y
  ·exact cF a
  ·by_cases b : ∃ r, roG g r ∧ geG y r
   ·exact cG b
   ·exact absurd ⟨hn, fun l hl hg => a ⟨l, hl, hg⟩, fun r hr hg => b ⟨r, hr, hg⟩⟩ (hm y hy)
 refine ⟨ge_iff.2 ⟨h3, fun y hy hg => ?_⟩, ge_iff.2 ⟨fun y hy hg => ?_, h2⟩⟩
 ·obtain ⟨n1, n2⟩ := h1.left hy
  rcases key y hy.lt n1 with ⟨l, a, b⟩ | ⟨r, a, b⟩
  ·exact vS a (xI b hg)
  ·exact h3 r a (xI n2 b)
 ·obtain ⟨n1, n2⟩ := h1.right hy
  rcases key y hy.lt n1 with ⟨l, a, b⟩ | ⟨r, a, b⟩
  ·exact h2 l a (xI b n2)
  ·exact vY a (xI hg b)
theorem num_of (hc : CanonG g) (ho : OneG g) (hl : ∀ l, loG g l → NumD l) (hr : ∀ r, roG g r → NumD r) (hlr : ∀ l r, loG g l → roG g r → ¬ geG l r) : NumD g := by
 have hx : ∃ x, Btw g x := by
  by_cases a : ∃ l, loG g l
  ·obtain ⟨l, a⟩ := a
   by_cases b : ∃ r, roG g r
   ·obtain ⟨r, b⟩ := b
    obtain ⟨p, s, t, e1, e2⟩ := num_two (hl l a) (hr r b)
    have hst : s < t := Int.not_le.1 fun h => hlr l r a b (by rw [e1, e2]; exact dy_ge.2 h)
    refine ⟨dyG (p + 1) (s + t), vX _ _, fun l' a' hg => ?_, fun r' b' hg => ?_⟩
    ·rw [ho.1 l' l a' a, e1, ← kI] at hg
     have := dy_ge.1 hg; omega
    ·rw [ho.2 r' r b' b, e2, ← kI p t] at hg
     have := dy_ge.1 hg; omega
   ·obtain ⟨p, t, _, e⟩ := hl l a
    refine ⟨dyG p (t + 1), vX _ _, fun l' a' hg => ?_, fun r' b' => absurd ⟨r', b'⟩ b⟩
    rw [ho.1 l' l a' a, e] at hg
    have := dy_ge.1 hg; omega
  ·by_cases b : ∃ r, roG g r
   ·obtain ⟨r, b⟩ := b
    obtain ⟨p, t, _, e⟩ := hr r b
    refine ⟨dyG p (t - 1), vX _ _, fun l' a' => absurd ⟨l', a'⟩ a, fun r' b' hg => ?_⟩
    rw [ho.2 r' r b' b, e] at hg
    have := dy_ge.1 hg; omega
   ·exact ⟨dyG 0 0, vX _ _, fun l' a' => absurd ⟨l', a'⟩ a, fun r' b' => absurd ⟨r', b'⟩ b⟩
 obtain ⟨x, hx⟩ := hx
 obtain ⟨y, h1, h2⟩ := least (P := Btw g) (x + 1) x (Nat.lt_succ_self _) hx
 have he := vC hc (num_canon h1.1) (btw_eq h1 h2)
 rw [he]; exact h1.1
theorem num_less {r : Nat} (h : NumD g) (hl : loG g l) (hr : roG g r) : ¬ geG l r := fun hg => vS hl (xI hg (h.right hr).2)
theorem num_iff (hc : CanonG g) : NumD g ↔ OneG g ∧ (∀ l, loG g l → NumD l) ∧ (∀ r, roG g r → NumD r) ∧ ∀ l r, loG g l → roG g r → ¬ geG l r :=
 ⟨fun h => ⟨num_one h, fun _ hl => (h.left hl).1, fun _ hr => (h.right hr).1, fun _ _ hl hr => num_less h hl hr⟩, fun h => num_of hc h.1 h.2.1 h.2.2.1 h.2.2.2⟩
end Go.GL
namespace Go.GL
open Go Go.RowKit
variable {t : Int} {p g a b : Nat} {l r : List Nat}
theorem GoodD.red (h : GoodD t (p : Int)) : p = 0 ∨ t % 2 ≠ 0 := h.odd.elim (fun e => cF (by omega)) fun e => cG fun x => e ((nO t).2 x)
noncomputable def vgB (g : Nat) : Bool := decP (∃ d : Nat × Int, GoodD d.2 (d.1 : Int) ∧ g = dyG d.1 d.2)
noncomputable def vgD (g : Nat) : Nat × Int := @dite _ (∃ d : Nat × Int, GoodD d.2 (d.1 : Int) ∧ g = dyG d.1 d.2) (Classical.propDecidable _) (fun h => Classical.choose h) (fun _ => (0, 0))
noncomputable def vgT (g : Nat) : Int := (vgD g).2
noncomputable def vgP (g : Nat) : Int := ((vgD g).1 : Int)
theorem vg_yes (h : GoodD t (p : Int)) : vgB (dyG p t) = true ∧ vgT (dyG p t) = t ∧ vgP (dyG p t) = (p : Int) := by
 have hx : ∃ d : Nat × Int, GoodD d.2 (d.1 : Int) ∧ dyG p t = dyG d.1 d.2 := ⟨(p, t), h, rfl⟩
 have e : vgD (dyG p t) = (p, t) := by
  unfold vgD
  rw [dif_pos hx]
  obtain ⟨h1, h2⟩ := Classical.choose_spec hx
  obtain ⟨e1, e2⟩ := dy_red h1.red h.red h2.symm
  exact Prod.ext e1 e2
 unfold vgT vgP
 rw [e]
 exact ⟨decP_true.2 hx, rfl, rfl⟩
theorem kY (h : vgB g = false) : vgT g = 0 ∧ vgP g = 0 := by
 have hx : ¬ ∃ d : Nat × Int, GoodD d.2 (d.1 : Int) ∧ g = dyG d.1 d.2 := decP_false.1 h
 have e : vgD g = (0, 0) := by unfold vgD; rw [dif_neg hx]
 unfold vgT vgP
 rw [e]
 exact ⟨rfl, rfl⟩
theorem pJ (h : vgB g = true) : ∃ (p : Nat) (t : Int), GoodD t (p : Int) ∧ g = dyG p t ∧ vgT g = t ∧ vgP g = (p : Int) := by
 obtain ⟨⟨p, t⟩, h1, h2⟩ := decP_true.1 h
 have h3 := vg_yes h1
 exact ⟨p, t, h1, h2, by rw [h2]; exact h3.2.1, by rw [h2]; exact h3.2.2⟩
theorem mN (h : vgB g = true) : NumD g := by
 obtain ⟨p, t, _, e, _⟩ := pJ h
 rw [e]; exact vX p t
theorem pZ (h : ¬ NumD g) : vgB g = false := by
 cases hb : vgB g with
 | false => rfl
 | true => exact absurd (mN hb) h
theorem kV (hr : p = 0 ∨ t % 2 ≠ 0) : vgB (dyG p t) = decP (GoodD t (p : Int)) := fI ⟨fun ⟨d, h1, h2⟩ => by
  obtain ⟨e1, e2⟩ := dy_red hr h1.red h2
  rw [e1, e2]; exact h1, fun h => ⟨(p, t), h, rfl⟩⟩
theorem vg_low (hr : p = 0 ∨ t % 2 ≠ 0) : vgT (dyG p t) = lowR (decP (GoodD t (p : Int))) t ∧ vgP (dyG p t) = lowR (decP (GoodD t (p : Int))) (p : Int) := by
 unfold lowR
 split
 ·rename_i h
  exact (vg_yes (decP_true.1 h)).2
 ·rename_i h
  have h2 : decP (GoodD t (p : Int)) = false := by simpa using h
  exact kY ((kV hr).trans h2)
theorem mk_l (h : mkG [a] l = mkG [b] r) : a = b := by
 have : loG (mkG [b] r) a := h ▸ lo_mk.2 (List.mem_singleton_self _)
 exact List.mem_singleton.1 (lo_mk.1 this)
theorem mk_r (h : mkG l [a] = mkG r [b]) : a = b := by
 have : roG (mkG r [b]) a := h ▸ ro_mk.2 (List.mem_singleton_self _)
 exact List.mem_singleton.1 (ro_mk.1 this)
theorem mk_ln (h : mkG [a] l = mkG [] r) : False := by
 have : loG (mkG [] r) a := h ▸ lo_mk.2 (List.mem_singleton_self _)
 cases lo_mk.1 this
theorem mk_rn (h : mkG l [a] = mkG r []) : False := by
 have : roG (mkG r []) a := h ▸ ro_mk.2 (List.mem_singleton_self _)
 cases ro_mk.1 this
theorem dy_form (p : Nat) (t : Int) (hr : p = 0 ∨ t % 2 ≠ 0) : (p = 0 ∧ t = 0 ∧ dyG p t = mkG [] []) ∨ (p = 0 ∧ 0 < t ∧ dyG p t = mkG [dyG 0 (t - 1)] []) ∨ (p = 0 ∧ t < 0 ∧ dyG p t = mkG [] [dyG 0 (t + 1)]) ∨ ∃ k, p = k + 1 ∧ t % 2 ≠ 0 ∧ dyG p t = mkG [dyG k ((t - 1) / 2)] [dyG k ((t + 1) / 2)] := by
 cases p with
 | zero =>
  rcases Int.lt_trichotomy t 0 with h1 | h1 | h1
  ·exact cG (cG (cF ⟨rfl, h1, pO h1⟩))
  ·subst h1; exact cF ⟨rfl, rfl, rfl⟩
  ·exact cG (cF ⟨rfl, h1, pN h1⟩)
 | succ k =>
  have h1 := hr.resolve_left (by omega)
  exact cG (cG (cG ⟨k, rfl, h1, tA h1⟩))
theorem num_l (h : NumD (mkG [a] [])) : ∃ t : Int, 0 < t ∧ mkG [a] [] = dyG 0 t ∧ a = dyG 0 (t - 1) := by
 obtain ⟨p, t, hr, e⟩ := h
 rcases dy_form p t hr with ⟨_, _, e2⟩ | ⟨rfl, h1, e2⟩ | ⟨_, _, e2⟩ | ⟨k, _, _, e2⟩
 ·exact (mk_ln (e.trans e2)).elim
 ·exact ⟨t, h1, e, mk_l (e.trans e2)⟩
 ·exact (mk_ln (e.trans e2)).elim
 ·exact (mk_rn (e.trans e2).symm).elim
theorem num_r (h : NumD (mkG [] [a])) : ∃ t : Int, t < 0 ∧ mkG [] [a] = dyG 0 t ∧ a = dyG 0 (t + 1) := by
 obtain ⟨p, t, hr, e⟩ := h
 rcases dy_form p t hr with ⟨_, _, e2⟩ | ⟨_, _, e2⟩ | ⟨rfl, h1, e2⟩ | ⟨k, _, _, e2⟩
 ·exact (mk_rn (e.trans e2)).elim
 ·exact (mk_rn (e.trans e2)).elim
 ·exact ⟨t, h1, e, mk_r (e.trans e2)⟩
 ·exact (mk_ln (e.trans e2).symm).elim
theorem num_lr (h : NumD (mkG [a] [b])) : ∃ (p : Nat) (t : Int), t % 2 ≠ 0 ∧ mkG [a] [b] = dyG (p + 1) t ∧ a = dyG p ((t - 1) / 2) ∧ b = dyG p ((t + 1) / 2) := by
 obtain ⟨p, t, hr, e⟩ := h
 rcases dy_form p t hr with ⟨_, _, e2⟩ | ⟨_, _, e2⟩ | ⟨_, _, e2⟩ | ⟨k, rfl, h1, e2⟩
 ·exact (mk_ln (e.trans e2)).elim
 ·exact (mk_rn (e.trans e2)).elim
 ·exact (mk_ln (e.trans e2)).elim
 ·exact ⟨k, t, h1, e, mk_l (e.trans e2), mk_r (e.trans e2)⟩
theorem v_nil : vgB (mkG [] []) = true ∧ vgT (mkG [] []) = 0 ∧ vgP (mkG [] []) = 0 := vg_yes (p := 0) (t := 0) ⟨by decide, by decide, cF rfl⟩
theorem v_int (e : a = dyG 0 t) (h : vgB a = true) : vgP a = 0 ∧ vgT a = t ∧ GoodD t 0 := by
 rw [e, kV (cF rfl)] at h
 have hg := decP_true.1 h
 have := vg_yes hg
 rw [e]
 exact ⟨this.2.2, this.2.1, hg⟩
theorem v_int_no (e : a = dyG 0 t) (h : vgB a = false) : ¬ GoodD t 0 := by
 rw [e, kV (cF rfl)] at h
 exact decP_false.1 h
theorem vl_yes (h : NumD (mkG [a] [])) (ha : vgB a = true) : vgP a = 0 ∧ GoodD (vgT a) 0 ∧ mkG [a] [] = dyG 0 (vgT a + 1) := by
 obtain ⟨t, h1, h2, h3⟩ := num_l h
 obtain ⟨e1, e2, e3⟩ := v_int h3 ha
 rw [e2]
 exact ⟨e1, e3, by rw [h2, show t - 1 + 1 = t by omega]⟩
theorem vl_no (h : NumD (mkG [a] [])) (ha : vgB a = false) : vgB (mkG [a] []) = false := by
 obtain ⟨t, h1, h2, h3⟩ := num_l h
 have := v_int_no h3 ha
 rw [h2, kV (cF rfl)]
 exact decP_false.2 fun g => this ⟨by have := g.top; omega, by decide, cF rfl⟩
theorem vr_yes (h : NumD (mkG [] [a])) (ha : vgB a = true) : vgP a = 0 ∧ GoodD (vgT a) 0 ∧ mkG [] [a] = dyG 0 (vgT a - 1) := by
 obtain ⟨t, h1, h2, h3⟩ := num_r h
 obtain ⟨e1, e2, e3⟩ := v_int h3 ha
 rw [e2]
 exact ⟨e1, e3, by rw [h2, show t + 1 - 1 = t by omega]⟩
theorem vr_no (h : NumD (mkG [] [a])) (ha : vgB a = false) : vgB (mkG [] [a]) = false := by
 obtain ⟨t, h1, h2, h3⟩ := num_r h
 have := v_int_no h3 ha
 rw [h2, kV (cF rfl)]
 exact decP_false.2 fun g => this ⟨by have := g.top; omega, by decide, cF rfl⟩
noncomputable def scD (D : Nat) (g : Nat) : Int := vgT g * 2 ^ (D - (vgP g).toNat)
theorem sc_eq {D : Nat} (e : g = dyG p t) (hp : p ≤ D) (hD : 16 ≤ D) (hg : vgB g = true) : scD D g = t * 2 ^ (D - p) := by
 obtain ⟨r, s, h1, h2, h3, h4⟩ := pJ hg
 have hr := h1.pow.2
 unfold scD
 rw [h3, h4, Int.toNat_natCast]
 have a1 := kS (D - r) r s
 have a2 := kS (D - p) p t
 rw [show r + (D - r) = D by omega] at a1
 rw [show p + (D - p) = D by omega] at a2
 exact eJ (a1.trans ((h2.symm.trans e).trans a2.symm))
theorem vg_pow (hr : p = 0 ∨ t % 2 ≠ 0) (h : vgB (dyG p t) = true) : p ≤ 16 ∧ GoodD t (p : Int) := by
 rw [kV hr] at h
 have hg := decP_true.1 h
 exact ⟨by have := hg.pow; omega, hg⟩
theorem vb_yes (h : NumD (mkG [a] [b])) (ha : vgB a = true) (hb : vgB b = true) : ∃ (p : Nat) (u : Int), p ≤ 16 ∧ mkG [a] [b] = dyG (p + 1) (2 * u + 1) ∧ ∀ D, 16 ≤ D → scD D a = u * 2 ^ (D - p) ∧ scD D b = (u + 1) * 2 ^ (D - p) := by
 obtain ⟨p, t, h1, h2, h3, h4⟩ := num_lr h
 have hp : p ≤ 16 := by
  by_cases h0 : p = 0
  ·omega
  by_cases he : ((t - 1) / 2) % 2 = 0
  ·exact (vg_pow (p := p) (t := (t + 1) / 2) (cG (by omega)) (h4 ▸ hb)).1
  ·exact (vg_pow (p := p) (t := (t - 1) / 2) (cG he) (h3 ▸ ha)).1
 refine ⟨p, (t - 1) / 2, hp, by rw [h2]; congr 1; omega, fun D hD => ⟨sc_eq h3 (by omega) hD ha, ?_⟩⟩
 rw [sc_eq h4 (by omega) hD hb, show (t + 1) / 2 = (t - 1) / 2 + 1 by omega]
theorem vg_half {s : Int} (hs : s.natAbs ≤ 1000000) (hp : p ≤ 16) : vgB (dyG p s) = true := by
 rw [← low_dy p s, kV (rZ p s).2]
 have h1 := rZ p s
 have h2 := low_abs p s
 exact decP_true.2 ⟨by omega, by omega, h1.2.elim (fun e => cF (by omega)) fun e => cG fun x => e ((nO _).1 x)⟩
theorem vb_no (h : NumD (mkG [a] [b])) (hab : vgB a = false ∨ vgB b = false) : vgB (mkG [a] [b]) = false := by
 obtain ⟨p, t, h1, h2, h3, h4⟩ := num_lr h
 rw [h2, kV (cG h1)]
 refine decP_false.2 fun g => ?_
 have g1 := g.top
 have g2 := g.pow
 rcases hab with e | e
 ·rw [h3, vg_half (by omega) (by omega)] at e; cases e
 ·rw [h4, vg_half (by omega) (by omega)] at e; cases e
noncomputable def canN (g : Nat) : Nat := @dite _ (∃ c, CanonG c ∧ eqG c g) (Classical.propDecidable _) (fun h => Classical.choose h) (fun _ => 0)
theorem can_eq {c : Nat} (h1 : CanonG c) (h2 : eqG c g) : canN g = c := by
 have hx : ∃ c, CanonG c ∧ eqG c g := ⟨c, h1, h2⟩
 unfold canN
 rw [dif_pos hx]
 obtain ⟨a, b⟩ := Classical.choose_spec hx
 exact vC a h1 (b.trans h2.symm)
end Go.GL
namespace Go.GL
open Go Go.RowKit
theorem add_nk {fs : List Nd} (hf : FormOk fs) (hl : fs.length ≤ 524288) : PoolOk (bkq (addM [] [] fs).2.1 (addM [] [] fs).2.2) ∧ NkOk (bkq (addM [] [] fs).2.1 (addM [] [] fs).2.2) (addM [] [] fs).1 fs.length (den fs) ∧ (addM [] [] fs).2.1.length ≤ fs.length := by
 have hd := Ar.add Ar.empty hf (by simp; omega)
 have ha := fL qY hf (by simp; omega)
 have hal := ha.len
 have hhi := ha.hi
 refine ⟨bkq_ok hd.ar, ⟨fun z hz => ?_, ?_⟩, by simpa using hhi⟩
 ·obtain ⟨i, hi, rfl⟩ := List.getElem_of_mem hz
  have := ha.places i hi
  rw [show (addM [] [] fs).1.getD i 0 = (addM [] [] fs).1[i] by simp [List.getD, hi]] at this
  exact this
 ·apply List.ext_getElem
  ·simp [hal]
  ·intro i h1 h2
   simp only [List.getElem_map, List.getElem_range]
   have := hd.is i (by simpa using h2)
   rw [show (addM [] [] fs).1.getD i 0 = (addM [] [] fs).1[i]'(by simpa using h1) by simp [List.getD, show i < (addM [] [] fs).1.length by simpa using h1]] at this
   exact this
variable {ns : List Nd} {z : Int}
theorem opt_form (hg : GoodP ns) (hz : 0 ≤ z ∧ z < ns.length) : IsForm (den ns z.toNat) (partS ns z) := by
 have hh := hg.hi
 obtain ⟨hok, hnk, _⟩ := add_nk (jV hg) (by omega)
 have ha := hnk.at_ (i := z.toNat) (by omega)
 have e := book_form hok ha.1
 have f := form_is hok ha.1
 rw [← e, ha.2] at f
 exact f
theorem opt_part (hg : GoodP ns) (hz : 0 ≤ z ∧ z < ns.length) : (FormOk (partS ns z) ∧ 1 ≤ (partS ns z).length) ∧ (partS ns z).length ≤ 120 ∧ gOf (partS ns z) = den ns z.toNat := by
 have h := opt_form hg hz
 have hl : (partS ns z).length ≤ 120 := by
  rw [part_eq hg hz]
  exact (part_lens hg (m := z.toNat) (by omega)).1
 exact ⟨⟨isform_ok h (by omega), h.1.lo⟩, hl, h.2⟩
theorem mem_ix {l : List Int} (h : z ∈ l) : ∃ i, i < l.length ∧ l.getD i 0 = z := by
 obtain ⟨i, hi, e⟩ := List.getElem_of_mem h
 exact ⟨i, hi, by simp [List.getD, hi, e]⟩
end Go.GL
namespace Go.GL
open Go Go.RowKit
structure VG3 (g D : Nat) (x : Int) : Prop where
 t : vgT g = lowR (decP (GoodD (lowD D x).1 (((lowD D x).2 : Nat) : Int))) (lowD D x).1
 p : vgP g = lowR (decP (GoodD (lowD D x).1 (((lowD D x).2 : Nat) : Int))) (((lowD D x).2 : Nat) : Int)
 b : vgB g = decP (GoodD (lowD D x).1 (((lowD D x).2 : Nat) : Int))
variable {g D p : Nat} {t : Int}
theorem va_of {x : Int} (hg : g = dyG p t) (hr : p = 0 ∨ t % 2 ≠ 0) (hx : lowD D x = (t, p)) : VG3 g D x := by
 obtain ⟨e1, e2⟩ := vg_low hr
 rw [hg]
 exact ⟨by rw [hx]; exact e1, by rw [hx]; exact e2, by rw [hx]; exact kV hr⟩
theorem sc_I (D g : Nat) : scI (D : Int) (vgT g) (vgP g) = scD D g := by
 unfold scD vgP
 rw [scI_pow, Int.toNat_natCast, Int.toNat_natCast]
theorem va_add {a : Nat} {s : Int} (hp : vgP a = 0) (ht : t = vgT a + s) : lowD D (scI (D : Int) (vgT a) (vgP a) + scI (D : Int) s 0) = (t, 0) := by
 rw [hp]
 have := low_add (D := D) (p := 0) (cI _) (vgT a) s
 rw [show ((0 : Nat) : Int) = 0 from rfl] at this
 rw [this, ht]; rfl
theorem va_l {a : Nat} (h : NumD (mkG [a] [])) (ha : vgB a = true) : VG3 (mkG [a] []) D (scI (D : Int) (vgT a) (vgP a) + scI (D : Int) 1 0) := by
 obtain ⟨e1, _, e3⟩ := vl_yes h ha
 exact va_of e3 (cF rfl) (va_add e1 rfl)
theorem va_r {a : Nat} (h : NumD (mkG [] [a])) (ha : vgB a = true) : VG3 (mkG [] [a]) D (scI (D : Int) (vgT a) (vgP a) + scI (D : Int) (-1) 0) := by
 obtain ⟨e1, _, e3⟩ := vr_yes h ha
 exact va_of (t := vgT a - 1) e3 (cF rfl) (va_add e1 (by omega))
theorem low_odd (h : t % 2 ≠ 0) : lowD (p + 1) t = (t, p + 1) := if_neg h
theorem va_lr {a b : Nat} (h : NumD (mkG [a] [b])) (ha : vgB a = true) (hb : vgB b = true) : VG3 (mkG [a] [b]) 17 (scI 16 (vgT a) (vgP a) + scI 16 (vgT b) (vgP b)) := by
 obtain ⟨p, u, hp, e, hs⟩ := vb_yes h ha hb
 obtain ⟨h1, h2⟩ := hs 16 (cH _)
 have e1 : scI 16 (vgT a) (vgP a) = scD 16 a := sc_I 16 a
 have e2 : scI 16 (vgT b) (vgP b) = scD 16 b := sc_I 16 b
 refine va_of e (cG (by omega)) ?_
 rw [e1, e2, h1, h2, ← Int.add_mul, show u + (u + 1) = 2 * u + 1 by omega]
 have := mZ (16 - p) (p + 1) (2 * u + 1)
 rw [show p + 1 + (16 - p) = 17 by omega] at this
 rw [this]
 exact low_odd (by omega)
theorem vW (h : vgB g = true) : GoodD (vgT g) (vgP g) := by
 obtain ⟨p, t, h1, _, h3, h4⟩ := pJ h
 rw [h3, h4]; exact h1
section
variable {q : PSt} {a : Int}
theorem one_pool (hok : PoolOk q) (ha : PlaceOk q a) : OneG (pd q a) ↔ (q.ns.getD a.toNat default).l.length ≤ 1 ∧ (q.ns.getD a.toNat default).r.length ≤ 1 := by
 have h0 : a.toNat < q.ns.length := by have := ha.1; have := ha.2; omega
 have oo := xB hok.ar.opts h0
 have rr := hok.ar.rise a.toNat h0
 have key : ∀ l : List Int, l.Pairwise (· < ·) → (∀ z ∈ l, 0 ≤ z ∧ z < (a.toNat : Int)) → (∀ x ∈ l, ∀ y ∈ l, pd q x = pd q y) → l.length ≤ 1 := fun l hp hb he => by
  match l, hp, hb, he with
  | [], _, _, _ => exact cI _
  | [_], _, _, _ => exact cH _
  | x :: y :: l, hp, hb, he =>
   have e := he x List.mem_cons_self y (List.mem_cons_of_mem _ List.mem_cons_self)
   have h1 := hb x List.mem_cons_self
   have h2 := hb y (List.mem_cons_of_mem _ List.mem_cons_self)
   have := hok.ar.inj (i := x.toNat) (j := y.toNat) (by omega) (by omega) e
   have := (List.pairwise_cons.1 hp).1 y List.mem_cons_self
   omega
 have back : ∀ l : List Int, l.length ≤ 1 → ∀ x ∈ l, ∀ y ∈ l, x = y := fun l hl x hx y hy => by
  match l, hl with
  | [], _ => cases hx
  | [c], _ => rw [List.mem_singleton.1 hx, List.mem_singleton.1 hy]
 constructor
 ·intro h
  exact ⟨key _ rr.1 oo.1 fun x hx y hy => h.1 _ _ ((gR hok ha).2 ⟨x, hx, rfl⟩) ((gR hok ha).2 ⟨y, hy, rfl⟩),
   key _ rr.2 oo.2 fun x hx y hy => h.2 _ _ ((gM hok ha).2 ⟨x, hx, rfl⟩) ((gM hok ha).2 ⟨y, hy, rfl⟩)⟩
 ·rintro ⟨h1, h2⟩
  refine ⟨fun i j hi hj => ?_, fun i j hi hj => ?_⟩
  ·obtain ⟨x, hx, rfl⟩ := (gR hok ha).1 hi
   obtain ⟨y, hy, rfl⟩ := (gR hok ha).1 hj
   rw [back _ h1 x hx y hy]
  ·obtain ⟨x, hx, rfl⟩ := (gM hok ha).1 hi
   obtain ⟨y, hy, rfl⟩ := (gM hok ha).1 hj
   rw [back _ h2 x hx y hy]
theorem sT (hok : PoolOk q) (ha : PlaceOk q a) (hc : CanonG (pd q a)) : NumD (pd q a) ↔ ((q.ns.getD a.toNat default).l.length ≤ 1 ∧ (q.ns.getD a.toNat default).r.length ≤ 1) ∧ (∀ x, x < (q.ns.getD a.toNat default).l.length → NumD (pd q ((q.ns.getD a.toNat default).l.getD x 0))) ∧ (∀ x, x < (q.ns.getD a.toNat default).r.length → NumD (pd q ((q.ns.getD a.toNat default).r.getD x 0))) ∧
  (0 < (q.ns.getD a.toNat default).l.length → 0 < (q.ns.getD a.toNat default).r.length → geB q.ns ((q.ns.getD a.toNat default).l.getD 0 0) ((q.ns.getD a.toNat default).r.getD 0 0) = false) := by
 rw [num_iff hc, one_pool hok ha]
 have hl : ∀ {P : Nat → Prop}, (∀ l, loG (pd q a) l → P l) ↔ ∀ x, x < (q.ns.getD a.toNat default).l.length → P (pd q ((q.ns.getD a.toNat default).l.getD x 0)) := fun {P} =>
  ⟨fun h x hx => h _ ((gR hok ha).2 ⟨_, yE (d := (0 : Int)) hx, rfl⟩), fun h l hl => by
   obtain ⟨z, hz, rfl⟩ := (gR hok ha).1 hl
   obtain ⟨i, hi, rfl⟩ := mem_ix hz
   exact h i hi⟩
 have hr : ∀ {P : Nat → Prop}, (∀ l, roG (pd q a) l → P l) ↔ ∀ x, x < (q.ns.getD a.toNat default).r.length → P (pd q ((q.ns.getD a.toNat default).r.getD x 0)) := fun {P} =>
  ⟨fun h x hx => h _ ((gM hok ha).2 ⟨_, yE (d := (0 : Int)) hx, rfl⟩), fun h l hl => by
   obtain ⟨z, hz, rfl⟩ := (gM hok ha).1 hl
   obtain ⟨i, hi, rfl⟩ := mem_ix hz
   exact h i hi⟩
 rw [hl, hr]
 refine and_congr_right fun h1 => and_congr_right fun _ => and_congr_right fun _ => ⟨fun h h2 h3 => decP_false.2 (h _ _ ((gR hok ha).2 ⟨_, yE (d := (0 : Int)) h2, rfl⟩) ((gM hok ha).2 ⟨_, yE (d := (0 : Int)) h3, rfl⟩)), fun h l r hl hr => ?_⟩
 obtain ⟨z, hz, rfl⟩ := (gR hok ha).1 hl
 obtain ⟨i, hi, rfl⟩ := mem_ix hz
 obtain ⟨y, hy, rfl⟩ := (gM hok ha).1 hr
 obtain ⟨j, hj, rfl⟩ := mem_ix hy
 have e1 : i = 0 := by omega
 have e2 : j = 0 := by omega
 subst e1; subst e2
 exact decP_false.1 (h hi hj)
theorem pL (hok : PoolOk q) (ha : PlaceOk q a) : pd q a = mkG ((q.ns.getD a.toNat default).l.map (pd q)) ((q.ns.getD a.toNat default).r.map (pd q)) := jN hok.ar.opts (by have := ha.1; have := ha.2; omega)
theorem mA {l : List Int} (h : l.length ≤ 1) (h0 : 0 < l.length) : l = [l.getD 0 0] := by
 match l, h with
 | [c], _ => rfl
 | [], _ => simp at h0
theorem pd_l (hok : PoolOk q) (ha : PlaceOk q a) (h1 : (q.ns.getD a.toNat default).l.length ≤ 1) (h2 : 0 < (q.ns.getD a.toNat default).l.length) (h3 : (q.ns.getD a.toNat default).r.length = 0) : pd q a = mkG [pd q ((q.ns.getD a.toNat default).l.getD 0 0)] [] := by
 have e := pL hok ha
 rw [mA h1 h2, List.eq_nil_of_length_eq_zero h3] at e
 exact e
theorem pd_r (hok : PoolOk q) (ha : PlaceOk q a) (h1 : (q.ns.getD a.toNat default).r.length ≤ 1) (h2 : 0 < (q.ns.getD a.toNat default).r.length) (h3 : (q.ns.getD a.toNat default).l.length = 0) : pd q a = mkG [] [pd q ((q.ns.getD a.toNat default).r.getD 0 0)] := by
 have e := pL hok ha
 rw [mA h1 h2, List.eq_nil_of_length_eq_zero h3] at e
 exact e
theorem pd_lr (hok : PoolOk q) (ha : PlaceOk q a) (h1 : (q.ns.getD a.toNat default).l.length ≤ 1 ∧ (q.ns.getD a.toNat default).r.length ≤ 1) (h2 : 0 < (q.ns.getD a.toNat default).l.length) (h3 : 0 < (q.ns.getD a.toNat default).r.length) : pd q a = mkG [pd q ((q.ns.getD a.toNat default).l.getD 0 0)] [pd q ((q.ns.getD a.toNat default).r.getD 0 0)] := by
 have e := pL hok ha
 rw [mA h1.1 h2, mA h1.2 h3] at e
 exact e
theorem pd_nn (hok : PoolOk q) (ha : PlaceOk q a) (h2 : (q.ns.getD a.toNat default).l.length = 0) (h3 : (q.ns.getD a.toNat default).r.length = 0) : pd q a = mkG [] [] := by
 have e := pL hok ha
 rw [List.eq_nil_of_length_eq_zero h2, List.eq_nil_of_length_eq_zero h3] at e
 exact e
end
end Go.GL
namespace Go.GL
open Go Go.RowKit
theorem low_int : ∀ (n g m : Nat), g < n → g ≤ m → geG g (dyG 0 (-(m : Int)))
 | 0, g, m, h, _ => absurd h (cK _)
 | n + 1, g, m, h, hm => by
  rw [ge_iff]
  constructor
  ·intro r hr hge
   have hl := hr.lt
   have ih := low_int n r (m - 1) (by omega) (by omega)
   have := dy_ge.1 (xI hge ih)
   omega
  ·intro l hl _
   have := (int_lo hl).1
   omega
theorem high_int : ∀ (n g m : Nat), g < n → g ≤ m → geG (dyG 0 (m : Int)) g
 | 0, g, m, h, _ => absurd h (cK _)
 | n + 1, g, m, h, hm => by
  rw [ge_iff]
  constructor
  ·intro r hr _
   have := (int_ro hr).1
   omega
  ·intro l hl hge
   have hl' := hl.lt
   have ih := high_int n l (m - 1) (by omega) (by omega)
   have := dy_ge.1 (xI ih hge)
   omega
variable {g k : Nat} {l : List Int} {fs : List Nd}
theorem btw_num {c x : Nat} (hc : CanonG c) (he : eqG c g) (h : Btw g x) : NumD c := by
 obtain ⟨y, h1, h2⟩ := least (P := Btw g) (x + 1) x (Nat.lt_succ_self _) h
 have e := btw_eq h1 h2
 have e2 : eqG c y := ⟨xI he.1 e.1, xI e.2 he.2⟩
 rw [vC hc (num_canon h1.1) e2]; exact h1.1
theorem left_num {c : Nat} (hc : CanonG c) (he : eqG c g) (h : ∀ l, ¬ loG g l) : NumD c :=
 btw_num hc he (x := dyG 0 (-((g : Int) + 1))) ⟨vX _ _, fun l hl => absurd hl (h l), fun r hr hge => by
  have ih := low_int (r + 1) r g (Nat.lt_succ_self _) (Nat.le_of_lt hr.lt)
  have := dy_ge.1 (xI hge ih)
  omega⟩
theorem right_num {c : Nat} (hc : CanonG c) (he : eqG c g) (h : ∀ r, ¬ roG g r) : NumD c :=
 btw_num hc he (x := dyG 0 ((g : Int) + 1)) ⟨vX _ _, fun l hl hge => by
  have ih := high_int (l + 1) l g (Nat.lt_succ_self _) (Nat.le_of_lt hl.lt)
  have := dy_ge.1 (xI ih hge)
  omega, fun r hr => absurd hr (h r)⟩
noncomputable def nuB (g : Nat) : Bool := decP (NumD (canN g))
noncomputable def vlB (g : Nat) : Bool := vgB (canN g)
noncomputable def vlD (g : Nat) : Int × Int := (vgT (canN g), vgP (canN g))
theorem kH {c : Nat} (hc : CanonG c) (he : eqG c g) : nuB g = decP (NumD c) ∧ vlB g = vgB c ∧ vlD g = (vgT c, vgP c) := by
 unfold nuB vlB vlD
 rw [can_eq hc he]
 exact ⟨rfl, rfl, rfl⟩
def lsD (a b : Int × Int) : Bool := decide (scI 16 a.1 a.2 < scI 16 b.1 b.2)
def btD (gr : Bool) (b x : Int × Int) : Bool := if gr = true then lsD b x else lsD x b
def bstK (gr : Bool) (all : List (Int × Int)) (l : List Int) : Nat → Int × Int
 | 0 => all.getD (l.getD 0 0).toNat default
 | k + 1 => if btD gr (bstK gr all l k) (all.getD (l.getD k 0).toNat default) = true then all.getD (l.getD k 0).toNat default else bstK gr all l k
theorem bst_yes {gr : Bool} {all : List (Int × Int)} (h : btD gr (bstK gr all l k) (all.getD (l.getD k 0).toNat default) = true) : bstK gr all l (k + 1) = all.getD (l.getD k 0).toNat default := if_pos h
theorem bst_no {gr : Bool} {all : List (Int × Int)} (h : btD gr (bstK gr all l k) (all.getD (l.getD k 0).toNat default) = false) : bstK gr all l (k + 1) = bstK gr all l k := if_neg (by rw [h]; exact Bool.noConfusion)
theorem bst_one (gr : Bool) (all : List (Int × Int)) (l : List Int) : bstK gr all l 1 = all.getD (l.getD 0 0).toNat default := by
 unfold bstK bstK
 split <;> rfl
theorem pX {gr : Bool} {all : List (Int × Int)} {l : List Int} : ∀ {k : Nat}, k ≤ l.length → 0 < l.length → ∃ j, j < l.length ∧ bstK gr all l k = all.getD (l.getD j 0).toNat default
 | 0, _, h => ⟨0, h, rfl⟩
 | k + 1, h, h0 => by
  unfold bstK
  split
  ·exact ⟨k, by omega, rfl⟩
  ·exact pX (by omega) h0
noncomputable def stK (fs : List Nd) : Nat → List (Int × Int) × List (Int × Int)
 | 0 => ([], [])
 | k + 1 => if nuB (den fs k) = true then ((stK fs k).1 ++ [vlD (den fs k)], (stK fs k).2 ++ [vlD (den fs k)])
  else ((stK fs k).1 ++ [bstK true (stK fs k).2 (fs.getD k default).l (fs.getD k default).l.length], (stK fs k).2 ++ [bstK false (stK fs k).1 (fs.getD k default).r (fs.getD k default).r.length])
theorem fN (fs : List Nd) : ∀ k, (stK fs k).1.length = k ∧ (stK fs k).2.length = k
 | 0 => ⟨rfl, rfl⟩
 | k + 1 => by
  have ih := fN fs k
  unfold stK
  split
  ·simp only [List.length_append, List.length_singleton]; exact ⟨by rw [ih.1], by rw [ih.2]⟩
  ·simp only [List.length_append, List.length_singleton]; exact ⟨by rw [ih.1], by rw [ih.2]⟩
theorem rN (h : nuB (den fs k) = true) : stK fs (k + 1) = ((stK fs k).1 ++ [vlD (den fs k)], (stK fs k).2 ++ [vlD (den fs k)]) := if_pos h
theorem rM (h : nuB (den fs k) = false) : stK fs (k + 1) = ((stK fs k).1 ++ [bstK true (stK fs k).2 (fs.getD k default).l (fs.getD k default).l.length], (stK fs k).2 ++ [bstK false (stK fs k).1 (fs.getD k default).r (fs.getD k default).r.length]) := if_neg (by rw [h]; exact Bool.noConfusion)
def OkV (fs : List Nd) (k : Nat) : Prop := ∀ j, j < k → nuB (den fs j) = true → vlB (den fs j) = true
theorem OkV.next (h : OkV fs k) (hk : nuB (den fs k) = true → vlB (den fs k) = true) : OkV fs (k + 1) := fun j hj => by
 by_cases e : j = k
 ·subst e; exact hk
 ·exact h j (by omega)
theorem vl_good (h : vlB g = true) : GoodD (vlD g).1 (vlD g).2 := vW h
def GdAt (a : List (Int × Int)) (k : Nat) : Prop := ∀ j, j < k → GoodD (a.getD j default).1 (a.getD j default).2
theorem pQ {a : List (Int × Int)} {x : Int × Int} (hl : a.length = k) (h : GdAt a k) (hx : GoodD x.1 x.2) : GdAt (a ++ [x]) (k + 1) := fun j hj => by
 by_cases e : j = k
 ·subst e
  rw [show (a ++ [x]).getD j default = x by simp [List.getD, ← hl]]; exact hx
 ·rw [show (a ++ [x]).getD j default = a.getD j default by simp [List.getD, List.getElem?_append_left (show j < a.length by omega)]]
  exact h j (by omega)
theorem kF (ho : OptsOk fs) {c : Nat} (hk : k < fs.length) (hc : CanonG c) (he : eqG c (den fs k)) (h : nuB (den fs k) = false) : 0 < (fs.getD k default).l.length ∧ 0 < (fs.getD k default).r.length := by
 have hn : ¬ NumD c := by rw [(kH hc he).1] at h; exact decP_false.1 h
 constructor
 ·refine Nat.pos_of_ne_zero fun e => hn (left_num hc he fun l hl => ?_)
  obtain ⟨z, hz, _⟩ := (qH ho hk).1 hl
  rw [List.length_eq_zero_iff.1 e] at hz
  exact List.not_mem_nil hz
 ·refine Nat.pos_of_ne_zero fun e => hn (right_num hc he fun l hl => ?_)
  obtain ⟨z, hz, _⟩ := (qE ho hk).1 hl
  rw [List.length_eq_zero_iff.1 e] at hz
  exact List.not_mem_nil hz
def MvA (fs : List Nd) (k : Nat) : Prop := ∀ j, j < k → nuB (den fs j) = false → 0 < (fs.getD j default).l.length ∧ 0 < (fs.getD j default).r.length
theorem MvA.next {c : Nat} (h : MvA fs k) (ho : OptsOk fs) (hk : k < fs.length) (hc : CanonG c) (he : eqG c (den fs k)) : MvA fs (k + 1) := fun j hj hb => by
 by_cases e : j = k
 ·subst e; exact kF ho hk hc he hb
 ·exact h j (by omega) hb
theorem sG {fs : List Nd} (ho : OptsOk fs) : ∀ k, k ≤ fs.length → MvA fs k → OkV fs k → GdAt (stK fs k).1 k ∧ GdAt (stK fs k).2 k
 | 0, _, _, _ => ⟨fun j hj => absurd hj (cK _), fun j hj => absurd hj (cK _)⟩
 | k + 1, hk, hm, hv => by
  have ih := sG ho k (by omega) (fun j hj => hm j (by omega)) fun j hj => hv j (by omega)
  have hl := fN fs k
  have oo := xB ho (show k < fs.length by omega)
  cases hb : nuB (den fs k) with
  | true =>
   rw [rN hb]
   have hg := vl_good (hv k (by omega) hb)
   exact ⟨pQ hl.1 ih.1 hg, pQ hl.2 ih.2 hg⟩
  | false =>
   rw [rM hb]
   have hmv := hm k (by omega) hb
   obtain ⟨i, hi, ei⟩ := pX (gr := true) (all := (stK fs k).2) (cH _) hmv.1
   obtain ⟨j, hj, ej⟩ := pX (gr := false) (all := (stK fs k).1) (cH _) hmv.2
   refine ⟨pQ hl.1 ih.1 ?_, pQ hl.2 ih.2 ?_⟩
   ·rw [ei]; exact ih.2 _ (by have := oo.1 _ (yE (d := (0 : Int)) hi); omega)
   ·rw [ej]; exact ih.1 _ (by have := oo.2 _ (yE (d := (0 : Int)) hj); omega)
theorem eP {gr : Bool} {all : List (Int × Int)} {n : Nat} (hg : GdAt all n) (hl : ∀ o ∈ l, 0 ≤ o ∧ o < (n : Int)) (hk : k ≤ l.length) (h0 : 0 < l.length) : GoodD (bstK gr all l k).1 (bstK gr all l k).2 := by
 obtain ⟨i, hi, e⟩ := pX (gr := gr) (all := all) hk h0
 rw [e]
 exact hg _ (by have := hl _ (yE (d := (0 : Int)) hi); omega)
theorem dB {α : Type} {yl A : List α} {x : α} {i : Nat} (hl : i < yl.length) (hp : yl.take i = A) : (yl.set i x).take (i + 1) = A ++ [x] := by
 subst hp
 rw [List.take_succ_eq_append_getElem (by rw [cT]; exact hl), List.take_set_of_le (cH _)]
 simp
theorem rL {α : Type} {yl A : List α} {d : α} {i j : Nat} (hp : yl.take i = A) (hj : j < i) : yl.getD j d = A.getD j d := by
 subst hp
 simp [List.getD, hj]
structure InB (gr : Bool) (S A : List (Int × Int)) (L : List Int) (n i j : Nat) (yl : List (Int × Int)) : Prop where
 len : yl.length = n
 pre : yl.take i = A
 best : 1 ≤ j → yl.getD i default = bstK gr S L j
section
variable {gr : Bool} {S A X : List (Int × Int)} {L : List Int} {n i j : Nat} {yl : List (Int × Int)}
theorem InB.start (h1 : yl.length = n) (h2 : yl.take i = A) : InB gr S A L n i 0 yl := ⟨h1, h2, fun h => by omega⟩
theorem InB.put (h : InB gr S A L n i j yl) (hi : i < n) {x : Int × Int} (hx : x = bstK gr S L (j + 1)) : InB gr S A L n i (j + 1) (yl.set i x) := by
 have hl := h.len
 refine ⟨by rw [cT]; exact hl, by rw [List.take_set_of_le (cH _)]; exact h.pre, fun _ => ?_⟩
 rw [← hx]
 simp [List.getD, hl, hi]
theorem InB.first (h : InB gr S A L n i 0 yl) (hi : i < n) (hX : X.take i = S) (hL : 0 ≤ L.getD 0 0 ∧ L.getD 0 0 < (i : Int)) : InB gr S A L n i (0 + 1) (yl.set i (X.getD (L.getD 0 0).toNat default)) :=
 h.put hi (by rw [bst_one, rL hX (by omega)])
theorem InB.more (h : InB gr S A L n i j yl) (hi : i < n) (hX : X.take i = S) (hL : 0 ≤ L.getD j 0 ∧ L.getD j 0 < (i : Int)) (hj : 1 ≤ j) (hb : btD gr (yl.getD i default) (X.getD (L.getD j 0).toNat default) = true) :
  InB gr S A L n i (j + 1) (yl.set i (X.getD (L.getD j 0).toNat default)) := by
 have e := rL (d := default) hX (show (L.getD j 0).toNat < i by omega)
 refine h.put hi ?_
 rw [h.best hj, e] at hb
 rw [bst_yes hb, e]
theorem InB.less (h : InB gr S A L n i j yl) (hX : X.take i = S) (hL : 0 ≤ L.getD j 0 ∧ L.getD j 0 < (i : Int)) (hj : 1 ≤ j) (hb : btD gr (yl.getD i default) (X.getD (L.getD j 0).toNat default) = false) :
  InB gr S A L n i (j + 1) yl := by
 have e := rL (d := default) hX (show (L.getD j 0).toNat < i by omega)
 refine ⟨h.len, h.pre, fun _ => ?_⟩
 have hb2 := hb
 rw [h.best hj, e] at hb2
 rw [bst_no hb2]; exact h.best hj
theorem InB.done (h : InB gr S A L n i L.length yl) (hi : i < n) (h0 : 0 < L.length) : yl.take (i + 1) = A ++ [bstK gr S L L.length] := by
 have hl := h.len
 rw [List.take_succ_eq_append_getElem (by omega), h.pre, ← h.best h0]
 simp [List.getD, hl, hi]
end
structure StA (fs : List Nd) (n i : Nat) (xl xr : List (Int × Int)) : Prop where
 ll : xl.length = n
 lr : xr.length = n
 l : xl.take i = (stK fs i).1
 r : xr.take i = (stK fs i).2
 ok : OkV fs i
 mv : MvA fs i
variable {fs : List Nd} {xl xr : List (Int × Int)} {k : Nat}
theorem StA.start {n : Nat} (h1 : xl.length = n) (h2 : xr.length = n) : StA fs n 0 xl xr :=
 ⟨h1, h2, rfl, rfl, fun j hj => absurd hj (cK j), fun j hj => absurd hj (cK j)⟩
theorem StA.num {n i c : Nat} (h : StA fs n i xl xr) (ho : OptsOk fs) (hn : n = fs.length) (hi : i < n) (hc : CanonG c) (he : eqG c (den fs i)) (h1 : NumD c) (h2 : vgB c = true) :
  StA fs n (i + 1) (xl.set i (vgT c, vgP c)) (xr.set i (vgT c, vgP c)) := by
 obtain ⟨e1, e2, e3⟩ := kH hc he
 have hb : nuB (den fs i) = true := by rw [e1]; exact decP_true.2 h1
 have hl := h.ll
 have hr := h.lr
 refine ⟨by rw [cT]; exact hl, by rw [cT]; exact hr, ?_, ?_, h.ok.next (fun _ => by rw [e2]; exact h2), h.mv.next ho (by omega) hc he⟩
 ·rw [rN hb, e3]; exact dB (by omega) h.l
 ·rw [rN hb, e3]; exact dB (by omega) h.r
theorem StA.opt {n i c : Nat} {yl zr : List (Int × Int)} (h : StA fs n i xl xr) (ho : OptsOk fs) (hn : n = fs.length) (hi : i < n) (hc : CanonG c) (he : eqG c (den fs i)) (h1 : ¬ NumD c)
  (hL : InB true (stK fs i).2 (stK fs i).1 (fs.getD i default).l n i (fs.getD i default).l.length yl) (hR : InB false (stK fs i).1 (stK fs i).2 (fs.getD i default).r n i (fs.getD i default).r.length zr) : StA fs n (i + 1) yl zr := by
 obtain ⟨e1, e2, e3⟩ := kH hc he
 have hb : nuB (den fs i) = false := by rw [e1]; exact decP_false.2 h1
 have hm := kF ho (by omega) hc he hb
 refine ⟨hL.len, hR.len, ?_, ?_, h.ok.next (fun hx => by rw [hb] at hx; cases hx), h.mv.next ho (by omega) hc he⟩
 ·rw [rM hb]; exact hL.done hi hm.1
 ·rw [rM hb]; exact hR.done hi hm.2
theorem StA.good {n i : Nat} (h : StA fs n i xl xr) (ho : OptsOk fs) (hi : i ≤ fs.length) : GdAt (stK fs i).1 i ∧ GdAt (stK fs i).2 i := sG ho i hi h.mv h.ok
theorem StA.bad {n i c : Nat} (_ : StA fs n i xl xr) (hi : i < fs.length) (hc : CanonG c) (he : eqG c (den fs i)) (h1 : NumD c) (h2 : vgB c = false) : ¬ OkV fs fs.length := fun g => by
 obtain ⟨e1, e2, e3⟩ := kH hc he
 have := g i hi (by rw [e1]; exact decP_true.2 h1)
 rw [e2, h2] at this; cases this
structure StB (fs : List Nd) (k : Nat) (xl xr : List (Int × Int)) : Prop where
 l : xl = (stK fs k).1
 r : xr = (stK fs k).2
 ok : OkV fs k
 mv : MvA fs k
theorem StB.start : StB fs 0 [] [] := ⟨rfl, rfl, fun j hj => absurd hj (cK j), fun j hj => absurd hj (cK j)⟩
theorem StB.len (h : StB fs k xl xr) : xl.length = k ∧ xr.length = k := by
 rw [h.l, h.r]; exact fN fs k
theorem StB.num {c : Nat} (h : StB fs k xl xr) (ho : OptsOk fs) (hk : k < fs.length) (hc : CanonG c) (he : eqG c (den fs k)) (h2 : vgB c = true) :
  StB fs (k + 1) (xl ++ [(vgT c, vgP c)]) (xr ++ [(vgT c, vgP c)]) := by
 obtain ⟨e1, e2, e3⟩ := kH hc he
 have hb : nuB (den fs k) = true := by rw [e1]; exact decP_true.2 (mN h2)
 refine ⟨?_, ?_, h.ok.next (fun _ => by rw [e2]; exact h2), h.mv.next ho hk hc he⟩
 ·rw [rN hb, e3, h.l]
 ·rw [rN hb, e3, h.r]
theorem StB.opt {c : Nat} (h : StB fs k xl xr) (ho : OptsOk fs) (hk : k < fs.length) (hc : CanonG c) (he : eqG c (den fs k)) (h1 : ¬ NumD c) :
  StB fs (k + 1) (xl ++ [((bstK true xr (fs.getD k default).l (fs.getD k default).l.length).1, (bstK true xr (fs.getD k default).l (fs.getD k default).l.length).2)])
   (xr ++ [((bstK false xl (fs.getD k default).r (fs.getD k default).r.length).1, (bstK false xl (fs.getD k default).r (fs.getD k default).r.length).2)]) := by
 obtain ⟨e1, e2, e3⟩ := kH hc he
 have hb : nuB (den fs k) = false := by rw [e1]; exact decP_false.2 h1
 refine ⟨?_, ?_, h.ok.next (fun hx => by rw [hb] at hx; cases hx), h.mv.next ho hk hc he⟩
 ·rw [rM hb, h.l, h.r]
 ·rw [rM hb, h.l, h.r]
theorem StB.good (h : StB fs k xl xr) (ho : OptsOk fs) (hk : k ≤ fs.length) : GdAt xl k ∧ GdAt xr k := by
 rw [h.l, h.r]; exact sG ho k hk h.mv h.ok
theorem StB.bad {c : Nat} (hk : k < fs.length) (hc : CanonG c) (he : eqG c (den fs k)) (h1 : NumD c) (h2 : vgB c = false) : ¬ OkV fs fs.length := fun g => by
 obtain ⟨e1, e2, e3⟩ := kH hc he
 have := g k hk (by rw [e1]; exact decP_true.2 h1)
 rw [e2, h2] at this; cases this
noncomputable def spB (fs : List Nd) : Bool := goodB fs && decP (OkV fs fs.length)
noncomputable def spL (fs : List Nd) : Int × Int := if spB fs = true then (stK fs fs.length).1.getD (fs.length - 1) default else (0, 0)
noncomputable def spR (fs : List Nd) : Int × Int := if spB fs = true then (stK fs fs.length).2.getD (fs.length - 1) default else (0, 0)
theorem sp_no (h : spB fs = false) : spL fs = (0, 0) ∧ spR fs = (0, 0) := by unfold spL spR; rw [h]; exact ⟨rfl, rfl⟩
theorem sp_bad (h : goodB fs = false) : spB fs = false := by unfold spB; rw [h]; rfl
theorem sp_yes (hg : goodB fs = true) (h : OkV fs fs.length) : spB fs = true ∧ spL fs = (stK fs fs.length).1.getD (fs.length - 1) default ∧ spR fs = (stK fs fs.length).2.getD (fs.length - 1) default := by
 have e : spB fs = true := by unfold spB; rw [hg, decP_true.2 h]; rfl
 unfold spL spR
 rw [e]; exact ⟨rfl, rfl, rfl⟩
theorem sp_row (h : spB fs = true) : goodB fs = true ∧ OkV fs fs.length := by
 unfold spB at h
 rw [Bool.and_eq_true] at h
 exact ⟨h.1, decP_true.1 h.2⟩
theorem sp_yesb (hg : goodB fs = true) (h : OkV fs fs.length) : spB fs = true := (sp_yes hg h).1
theorem sp_nob (h : ¬ OkV fs fs.length) : spB fs = false := by unfold spB; rw [decP_false.2 h, Bool.and_false]
theorem sp_at (h : spB fs = true) : spL fs = (stK fs fs.length).1.getD (fs.length - 1) default ∧ spR fs = (stK fs fs.length).2.getD (fs.length - 1) default := by
 obtain ⟨h1, h2⟩ := sp_row h
 exact ⟨(sp_yes h1 h2).2.1, (sp_yes h1 h2).2.2⟩
end Go.GL
namespace Go.GL
open Go Go.RowKit
section
variable {P : Program} {ρ : Operand → Value} {w : World} {d : Option Nat} {t e ty t' : Nat} {pos : String} {aft : Array Edge} {g : Option (Nat × Bool)} {x y : Operand}
variable {a b : Int} {f0 f1 : Field}
theorem pE (n : Nat) {c d : Int} (ht : P.underlying t = some (.struct #[f0, f1])) (hn : f0.name ≠ "_" ∧ f1.name ≠ "_") (h0t : f0.type = e) (h1t : f1.type = e) (h0o : f0.offset = 0) (h1o : f1.offset = 1) (he : P.underlying e = some (.int .i64)) (hst : P.stoodInHeld t = false) :
  (Op.equalIn (n + 1 + 1) t (.agg #[.int .i64 a, .int .i64 b]) (.agg #[.int .i64 c, .int .i64 d])).run P w = .ok (decide ((a, b) = (c, d))) w := by
 have ha : (P.underlying e).map aggD = some false := by rw [he]; rfl
 have hpart : ∀ (u v : Int) (k : Nat) (z : Int), (#[Value.int .i64 u, .int .i64 v] : Array Value)[k]? = some (.int .i64 z) → (part e #[.int .i64 u, .int .i64 v] k).run P w = .ok (.int .i64 z) w := fun u v k z hk => by
  unfold part
  simp only [Sem.run_bind, jG ha, Result.andThen_ok]
  simp [hk]
 have h0 : (Op.equalIn (n + 1) e (.int .i64 a) (.int .i64 c)).run P w = .ok (a == c) w := run_equalIn_int w n e .i64 .i64 a c he
 have h1 : (Op.equalIn (n + 1) e (.int .i64 b) (.int .i64 d)).run P w = .ok (b == d) w := run_equalIn_int w n e .i64 .i64 b d he
 have hf : P.fieldsOf t = #[f0, f1] := by simp [Program.fieldsOf, ht]
 rw [run_equalIn_struct w (n + 1) t _ _ (by rw [hf]; exact ht) hst, hf]
 simp only [Op.eqFields, hn.1, hn.2, h0t, h1t, h0o, h1o, ne_eq, not_false_eq_true, if_true, Sem.run_bind, hpart a b 0 a rfl, hpart c d 0 c rfl, h0, Result.andThen_ok]
 cases hac : (a == c) with
 | false =>
  have h2 : ¬ a = c := by simpa using hac
  simp [h2]
 | true =>
  have h2 : a = c := by simpa using hac
  simp only [Bool.not_true, Bool.false_eq_true, if_false, Sem.run_bind, hpart a b 1 b rfl, hpart c d 1 d rfl, h1, Result.andThen_ok]
  cases hbd : (b == d) with
  | false =>
   have h3 : ¬ b = d := by simpa using hbd
   simp [h2, h3]
  | true =>
   have h3 : b = d := by simpa using hbd
   simp [h2, h3]
theorem mT {c e2 : Int} (ht : P.underlying t = some (.struct #[f0, f1])) (hn : f0.name ≠ "_" ∧ f1.name ≠ "_") (h0t : f0.type = e) (h1t : f1.type = e) (h0o : f0.offset = 0) (h1o : f1.offset = 1) (he : P.underlying e = some (.int .i64)) (hst : P.stoodInHeld t = false) (hg : P.eqGuardType P.depth t = false)
  (hx : ρ x = .agg #[.int .i64 a, .int .i64 b]) (hy : ρ y = .agg #[.int .i64 c, .int .i64 e2]) :
  (execOp ρ ⟨d, .binOp .eql t x y t', ty, pos, aft, g⟩).run P w = .ok (.value (.bool (decide ((a, b) = (c, e2))))) w := by
 have h1 := pE (w := w) 9998 (a := a) (b := b) (c := c) (d := e2) ht hn h0t h1t h0o h1o he hst
 have h2 := run_eqGuard_agg (P := P) w .eql t x y #[.int .i64 a, .int .i64 b] #[.int .i64 c, .int .i64 e2] hg
 have h3 := run_eql_struct (P := P) w t #[.int .i64 a, .int .i64 b] #[.int .i64 c, .int .i64 e2]
 simp only [execOp, hx, hy, Sem.run_bind, h2, Result.andThen_ok, h3, h1]
 rfl
end
end Go.GL
