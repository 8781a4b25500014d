/- The program's pool of games: how it lies in memory, and what its tables may hold. -/
import Derived.Test.YtndhhpaldhlghaaDoorSort
import Derived.Test.YtndhhpaldhlghaaDoorSg
namespace Go.GL
open Go Go.RowKit
/-- The five tables of a pool. -/
structure PM where
  f : Nat
  o : Nat
  c : Nat
  s : Nat
  n : Nat
/-- What a pool holds. -/
structure PSt where
  ns : List Nd
  bs : List Int
  fl : List (ByteArray × Int)
  om : List ((Int × Int) × Bool)
  cm : List (Int × Int)
  sm : List ((Int × Int) × Int)
  gm : List (Int × Int)
def inP (p : Nat) (L R B : Value) (mm : PM) (k : Nat) : Prop := k = p ∨ L.ownBlock = some k ∨ R.ownBlock = some k ∨ B.ownBlock = some k ∨ k = mm.f ∨ k = mm.o ∨ k = mm.c ∨ k = mm.s ∨ k = mm.n
/-- A place that is none of the pool's. -/
def NP (p : Nat) (L R B : Value) (mm : PM) (x : Option Nat) : Prop := ∀ k, x = some k → ¬ inP p L R B mm k
abbrev vStr (k : ByteArray) : Value := Value.string k
abbrev vInt (v : Int) : Value := Value.int .i64 v
abbrev vBool (v : Bool) : Value := Value.bool v
structure PDiff (mm : PM) : Prop where
  fo : mm.f ≠ mm.o
  fc : mm.f ≠ mm.c
  fs : mm.f ≠ mm.s
  fn : mm.f ≠ mm.n
  oc : mm.o ≠ mm.c
  os : mm.o ≠ mm.s
  on : mm.o ≠ mm.n
  cs : mm.c ≠ mm.s
  cn : mm.c ≠ mm.n
  sn : mm.s ≠ mm.n
structure Pk (er ei : Nat) (G : Pin) (w : World) (p : Nat) (L R B : Value) (mm : PM) (q : PSt) : Prop where
  bx : Bx G w p [L, R, B, .map (some mm.f), .map (some mm.o), .map (some mm.c), .map (some mm.s), .map (some mm.n)]
  ol : Own (eSl eInt) er G w 0 L (q.ns.map Nd.l)
  rr : Own (eSl eInt) er G w 0 R (q.ns.map Nd.r)
  ob : Own eInt ei G w 0 B q.bs
  ff : Mp (fun k : ByteArray => Value.string k) (fun v : Int => Value.int .i64 v) w mm.f q.fl
  fo : Mp encP2 (fun v : Bool => Value.bool v) w mm.o q.om
  fc : Mp (fun k : Int => Value.int .i64 k) (fun v : Int => Value.int .i64 v) w mm.c q.cm
  fs : Mp encP2 (fun v : Int => Value.int .i64 v) w mm.s q.sm
  fn : Mp (fun k : Int => Value.int .i64 k) (fun v : Int => Value.int .i64 v) w mm.n q.gm
  apl : Apart (some p) L.ownBlock
  apr : Apart (some p) R.ownBlock
  apb : Apart (some p) B.ownBlock
  alr : Apart L.ownBlock R.ownBlock
  alb : Apart L.ownBlock B.ownBlock
  arb : Apart R.ownBlock B.ownBlock
  df : PDiff mm
section
variable {er ei : Nat} {G G' : Pin} {w w' : World} {p : Nat} {L R B L' R' B' : Value} {mm : PM} {q : PSt}
theorem Mp.extS {κ ν : Type} {enc : κ → Value} {val : ν → Value} {m : Nat} {l : List (κ × ν)} {S : Nat → Prop} (h : Mp enc val w m l) (hx : Ext S G w G' w') (hS : ¬ S m) : Mp enc val w' m l := h.keep (hx.block m h.lt hS)
theorem Pk.lt (h : Pk er ei G w p L R B mm q) : ∀ k, inP p L R B mm k → k < w.heap.size := fun k hk => by
  rcases hk with rfl | hk | hk | hk | rfl | rfl | rfl | rfl | rfl
  · exact h.bx.lt
  · exact (h.ol.lt k hk).2
  · exact (h.rr.lt k hk).2
  · exact (h.ob.lt k hk).2
  · exact h.ff.lt
  · exact h.fo.lt
  · exact h.fc.lt
  · exact h.fs.lt
  · exact h.fn.lt
theorem Pk.extS {S : Nat → Prop} (h : Pk er ei G w p L R B mm q) (hx : Ext S G w G' w') (hS : ∀ k, inP p L R B mm k → ¬ S k) : Pk er ei G' w' p L R B mm q where
  bx := h.bx.extS hx (hS _ (Or.inl rfl))
  ol := h.ol.extS hx fun k hk => hS k (Or.inr (Or.inl hk))
  rr := h.rr.extS hx fun k hk => hS k (Or.inr (Or.inr (Or.inl hk)))
  ob := h.ob.extS hx fun k hk => hS k (Or.inr (Or.inr (Or.inr (Or.inl hk))))
  ff := h.ff.extS hx (hS _ (Or.inr (Or.inr (Or.inr (Or.inr (Or.inl rfl))))))
  fo := h.fo.extS hx (hS _ (Or.inr (Or.inr (Or.inr (Or.inr (Or.inr (Or.inl rfl)))))))
  fc := h.fc.extS hx (hS _ (Or.inr (Or.inr (Or.inr (Or.inr (Or.inr (Or.inr (Or.inl rfl))))))))
  fs := h.fs.extS hx (hS _ (Or.inr (Or.inr (Or.inr (Or.inr (Or.inr (Or.inr (Or.inr (Or.inl rfl)))))))))
  fn := h.fn.extS hx (hS _ (Or.inr (Or.inr (Or.inr (Or.inr (Or.inr (Or.inr (Or.inr (Or.inr rfl)))))))))
  apl := h.apl
  apr := h.apr
  apb := h.apb
  alr := h.alr
  alb := h.alb
  arb := h.arb
  df := h.df
theorem Pk.ext (h : Pk er ei G w p L R B mm q) (hx : Ext noS G w G' w') : Pk er ei G' w' p L R B mm q := h.extS hx fun _ _ => id
theorem Pk.below (h : Pk er ei G w p L R B mm q) (hb : Below w.heap.size w w') (hP : Pins G w') : Pk er ei G w' p L R B mm q :=
  h.ext ⟨Pin.le_refl _, hP, fun _ _ _ h => Or.inl h, hb.os, hb.tape, hb.output, hb.size, fun k hk _ => hb.block k hk⟩
theorem Pk.kept {x : Option Nat} (h : Pk er ei G w p L R B mm q) (hg : w.grownBy w' x) (hP : Pins G w') (hn : NP p L R B mm x) : Pk er ei G w' p L R B mm q :=
  h.extS (Ext.one hP hg) fun k hk hx => hn k hx hk
theorem Pk.more {b : Nat} (h : Pk er ei G w p L R B mm q) (hl : Pin.le G G') (hf : ∀ k o u, G' k o u → G k o u ∨ k = b) (hn : NP p L R B mm (some b)) : Pk er ei G' w p L R B mm q where
  bx := h.bx.moreA hf fun k a c => hn k c (by cases a; exact Or.inl rfl)
  ol := h.ol.moreA hl hf fun k a c => hn k c (Or.inr (Or.inl a))
  rr := h.rr.moreA hl hf fun k a c => hn k c (Or.inr (Or.inr (Or.inl a)))
  ob := h.ob.moreA hl hf fun k a c => hn k c (Or.inr (Or.inr (Or.inr (Or.inl a))))
  ff := h.ff
  fo := h.fo
  fc := h.fc
  fs := h.fs
  fn := h.fn
  apl := h.apl
  apr := h.apr
  apb := h.apb
  alr := h.alr
  alb := h.alb
  arb := h.arb
  df := h.df
theorem Pk.moreO {v : Value} (h : Pk er ei G w p L R B mm q) (hl : Pin.le G G') (hf : ∀ k o u, G' k o u → G k o u ∨ v.ownBlock = some k) (hn : NP p L R B mm v.ownBlock) : Pk er ei G' w p L R B mm q where
  bx := h.bx.moreO hf fun k a c => hn k c (by cases a; exact Or.inl rfl)
  ol := h.ol.moreO hl hf fun k a c => hn k c (Or.inr (Or.inl a))
  rr := h.rr.moreO hl hf fun k a c => hn k c (Or.inr (Or.inr (Or.inl a)))
  ob := h.ob.moreO hl hf fun k a c => hn k c (Or.inr (Or.inr (Or.inr (Or.inl a))))
  ff := h.ff
  fo := h.fo
  fc := h.fc
  fs := h.fs
  fn := h.fn
  apl := h.apl
  apr := h.apr
  apb := h.apb
  alr := h.alr
  alb := h.alb
  arb := h.arb
  df := h.df
/-- A block that is new is none of the pool's. -/
theorem Pk.new (h : Pk er ei G w p L R B mm q) {x : Option Nat} (hx : ∀ k, x = some k → w.heap.size ≤ k) : NP p L R B mm x := fun k hk hi => by
  have h1 := h.lt k hi; have h2 := hx k hk; omega
theorem np_app {x y : Option Nat} (hn : NP p L R B mm x) (h : Pk er ei G w p L R B mm q) (hw : y = x ∨ ∃ k, y = some k ∧ w.heap.size ≤ k) : NP p L R B mm y := by
  rcases hw with rfl | ⟨k, rfl, hk⟩
  · exact hn
  · exact h.new fun j hj => by cases hj; exact hk
theorem np_turn {x y : Option Nat} (hn : NP p L R B mm x) (h : Pk er ei G w p L R B mm q) (hl : Lo w (inO x) y) : NP p L R B mm y := fun k hk hi => by
  rcases hl k hk with h1 | h1
  · have := h.lt k hi; omega
  · exact hn k h1 hi
theorem np_none : NP p L R B mm none := fun k hk => by cases hk
theorem NP.not {x : Option Nat} (h : NP p L R B mm x) : ∀ k, x = some k → ¬ inP p L R B mm k := h
theorem NP.notb {c : Nat} (h : NP p L R B mm (some c)) : ¬ inP p L R B mm c := h c rfl
/-- What a call leaves of the pool's rows: they lie where they lay, or are new. -/
structure PLo (w : World) (p : Nat) (L R B : Value) (mm : PM) (L' R' B' : Value) : Prop where
  l : Lo w (inP p L R B mm) L'.ownBlock
  r : Lo w (inP p L R B mm) R'.ownBlock
  b : Lo w (inP p L R B mm) B'.ownBlock
theorem PLo.in (h : PLo w p L R B mm L' R' B') : ∀ k, inP p L' R' B' mm k → w.heap.size ≤ k ∨ inP p L R B mm k := fun k hk => by
  rcases hk with rfl | hk | hk | hk | hk
  · exact Or.inr (Or.inl rfl)
  · exact h.l k hk
  · exact h.r k hk
  · exact h.b k hk
  · exact Or.inr (Or.inr (Or.inr (Or.inr (Or.inr hk))))
theorem NP.call {x : Option Nat} (h : NP p L R B mm x) (hlo : PLo w p L R B mm L' R' B') (hl : ∀ k, x = some k → k < w.heap.size) : NP p L' R' B' mm x := fun k hk hi => by
  rcases hlo.in k hi with h1 | h1
  · have := hl k hk; omega
  · exact h k hk h1
/-- All of the pool's blocks are new since w0, or may turn. -/
def PIn (w0 : World) (S : Nat → Prop) (p : Nat) (L R B : Value) (mm : PM) : Prop := ∀ k, inP p L R B mm k → w0.heap.size ≤ k ∨ S k
theorem PIn.self {w0 : World} : PIn w0 (inP p L R B mm) p L R B mm := fun _ h => Or.inr h
theorem PIn.call {w0 : World} {S : Nat → Prop} (h : PIn w0 S p L R B mm) (hlo : PLo w p L R B mm L' R' B') (hs : w0.heap.size ≤ w.heap.size) : PIn w0 S p L' R' B' mm := fun k hk => by
  rcases hlo.in k hk with h1 | h1
  · exact Or.inl (by omega)
  · exact h k h1
theorem PIn.lo {w0 : World} {p0 : Nat} {L0 R0 B0 : Value} (h : PIn w0 (inP p0 L0 R0 B0 mm) p L R B mm) (hp : p = p0) : PLo w0 p0 L0 R0 B0 mm L R B := by
  subst hp
  exact ⟨fun k hk => h k (Or.inr (Or.inl hk)), fun k hk => h k (Or.inr (Or.inr (Or.inl hk))), fun k hk => h k (Or.inr (Or.inr (Or.inr (Or.inl hk))))⟩
theorem PIn.o {w0 : World} {S : Nat → Prop} (h : PIn w0 S p L R B mm) : Lo w0 S (some mm.o) := fun k hk => by
  cases hk; exact h _ (Or.inr (Or.inr (Or.inr (Or.inr (Or.inr (Or.inl rfl))))))
theorem PIn.c {w0 : World} {S : Nat → Prop} (h : PIn w0 S p L R B mm) : Lo w0 S (some mm.c) := fun k hk => by
  cases hk; exact h _ (Or.inr (Or.inr (Or.inr (Or.inr (Or.inr (Or.inr (Or.inl rfl)))))))
theorem PIn.s {w0 : World} {S : Nat → Prop} (h : PIn w0 S p L R B mm) : Lo w0 S (some mm.s) := fun k hk => by
  cases hk; exact h _ (Or.inr (Or.inr (Or.inr (Or.inr (Or.inr (Or.inr (Or.inr (Or.inl rfl))))))))
theorem PIn.n {w0 : World} {S : Nat → Prop} (h : PIn w0 S p L R B mm) : Lo w0 S (some mm.n) := fun k hk => by
  cases hk; exact h _ (Or.inr (Or.inr (Or.inr (Or.inr (Or.inr (Or.inr (Or.inr (Or.inr rfl))))))))
theorem NP.ho {x : Option Nat} (h : NP p L R B mm x) : Apart x (some mm.o) := fun k a c => h k a (by cases c; exact Or.inr (Or.inr (Or.inr (Or.inr (Or.inr (Or.inl rfl))))))
theorem NP.hc {x : Option Nat} (h : NP p L R B mm x) : Apart x (some mm.c) := fun k a c => h k a (by cases c; exact Or.inr (Or.inr (Or.inr (Or.inr (Or.inr (Or.inr (Or.inl rfl)))))))
theorem NP.hs {x : Option Nat} (h : NP p L R B mm x) : Apart x (some mm.s) := fun k a c => h k a (by cases c; exact Or.inr (Or.inr (Or.inr (Or.inr (Or.inr (Or.inr (Or.inr (Or.inl rfl))))))))
theorem NP.hn {x : Option Nat} (h : NP p L R B mm x) : Apart x (some mm.n) := fun k a c => h k a (by cases c; exact Or.inr (Or.inr (Or.inr (Or.inr (Or.inr (Or.inr (Or.inr (Or.inr rfl))))))))
theorem NP.hp {x : Option Nat} (h : NP p L R B mm x) : Apart x (some p) := fun k a c => h k a (by cases c; exact Or.inl rfl)
theorem NP.hl {x : Option Nat} (h : NP p L R B mm x) : Apart x L.ownBlock := fun k a c => h k a (Or.inr (Or.inl c))
theorem NP.hr {x : Option Nat} (h : NP p L R B mm x) : Apart x R.ownBlock := fun k a c => h k a (Or.inr (Or.inr (Or.inl c)))
theorem NP.hb {x : Option Nat} (h : NP p L R B mm x) : Apart x B.ownBlock := fun k a c => h k a (Or.inr (Or.inr (Or.inr (Or.inl c))))
/-- The table of what was compared was written. -/
theorem Pk.setO (h : Pk er ei G w p L R B mm q) (hx : Ext (inO (some mm.o)) G w G' w') {om : List ((Int × Int) × Bool)} (hm : Mp encP2 (fun v : Bool => Value.bool v) w' mm.o om) : Pk er ei G' w' p L R B mm { q with om := om } where
  bx := h.bx.extS hx (notOb fun k a c => (map_ne_box h.fo h.bx) k c a)
  ol := h.ol.extS hx (notO (map_ne_own h.fo h.ol).symm)
  rr := h.rr.extS hx (notO (map_ne_own h.fo h.rr).symm)
  ob := h.ob.extS hx (notO (map_ne_own h.fo h.ob).symm)
  ff := h.ff.extS hx (fun e => h.df.fo (Option.some.inj e).symm)
  fo := hm
  fc := h.fc.extS hx (fun e => h.df.oc (Option.some.inj e))
  fs := h.fs.extS hx (fun e => h.df.os (Option.some.inj e))
  fn := h.fn.extS hx (fun e => h.df.on (Option.some.inj e))
  apl := h.apl
  apr := h.apr
  apb := h.apb
  alr := h.alr
  alb := h.alb
  arb := h.arb
  df := h.df
theorem Pk.setC (h : Pk er ei G w p L R B mm q) (hx : Ext (inO (some mm.c)) G w G' w') {cm : List (Int × Int)} (hm : Mp (fun k : Int => Value.int .i64 k) (fun v : Int => Value.int .i64 v) w' mm.c cm) : Pk er ei G' w' p L R B mm { q with cm := cm } where
  bx := h.bx.extS hx (notOb fun k a c => (map_ne_box h.fc h.bx) k c a)
  ol := h.ol.extS hx (notO (map_ne_own h.fc h.ol).symm)
  rr := h.rr.extS hx (notO (map_ne_own h.fc h.rr).symm)
  ob := h.ob.extS hx (notO (map_ne_own h.fc h.ob).symm)
  ff := h.ff.extS hx (fun e => h.df.fc (Option.some.inj e).symm)
  fo := h.fo.extS hx (fun e => h.df.oc (Option.some.inj e).symm)
  fc := hm
  fs := h.fs.extS hx (fun e => h.df.cs (Option.some.inj e))
  fn := h.fn.extS hx (fun e => h.df.cn (Option.some.inj e))
  apl := h.apl
  apr := h.apr
  apb := h.apb
  alr := h.alr
  alb := h.alb
  arb := h.arb
  df := h.df
theorem Pk.setS (h : Pk er ei G w p L R B mm q) (hx : Ext (inO (some mm.s)) G w G' w') {sm : List ((Int × Int) × Int)} (hm : Mp encP2 (fun v : Int => Value.int .i64 v) w' mm.s sm) : Pk er ei G' w' p L R B mm { q with sm := sm } where
  bx := h.bx.extS hx (notOb fun k a c => (map_ne_box h.fs h.bx) k c a)
  ol := h.ol.extS hx (notO (map_ne_own h.fs h.ol).symm)
  rr := h.rr.extS hx (notO (map_ne_own h.fs h.rr).symm)
  ob := h.ob.extS hx (notO (map_ne_own h.fs h.ob).symm)
  ff := h.ff.extS hx (fun e => h.df.fs (Option.some.inj e).symm)
  fo := h.fo.extS hx (fun e => h.df.os (Option.some.inj e).symm)
  fc := h.fc.extS hx (fun e => h.df.cs (Option.some.inj e).symm)
  fs := hm
  fn := h.fn.extS hx (fun e => h.df.sn (Option.some.inj e))
  apl := h.apl
  apr := h.apr
  apb := h.apb
  alr := h.alr
  alb := h.alb
  arb := h.arb
  df := h.df
theorem Pk.setN (h : Pk er ei G w p L R B mm q) (hx : Ext (inO (some mm.n)) G w G' w') {gm : List (Int × Int)} (hm : Mp (fun k : Int => Value.int .i64 k) (fun v : Int => Value.int .i64 v) w' mm.n gm) : Pk er ei G' w' p L R B mm { q with gm := gm } where
  bx := h.bx.extS hx (notOb fun k a c => (map_ne_box h.fn h.bx) k c a)
  ol := h.ol.extS hx (notO (map_ne_own h.fn h.ol).symm)
  rr := h.rr.extS hx (notO (map_ne_own h.fn h.rr).symm)
  ob := h.ob.extS hx (notO (map_ne_own h.fn h.ob).symm)
  ff := h.ff.extS hx (fun e => h.df.fn (Option.some.inj e).symm)
  fo := h.fo.extS hx (fun e => h.df.on (Option.some.inj e).symm)
  fc := h.fc.extS hx (fun e => h.df.cn (Option.some.inj e).symm)
  fs := h.fs.extS hx (fun e => h.df.sn (Option.some.inj e).symm)
  fn := hm
  apl := h.apl
  apr := h.apr
  apb := h.apb
  alr := h.alr
  alb := h.alb
  arb := h.arb
  df := h.df
end

/-! ### what the tables may hold -/
/-- The game of a place. -/
def pd (q : PSt) (z : Int) : Nat := den q.ns z.toNat
def PlaceOk (q : PSt) (z : Int) : Prop := 0 ≤ z ∧ z < q.ns.length
structure FindOk (ns : List Nd) (fl : List (ByteArray × Int)) : Prop where
  has : ∀ i : Nat, i < ns.length → look fl (b2s (keyN (ns.getD i default).l (ns.getD i default).r)) = some (i : Int)
  is : ∀ (l r : List Int) (z : Int), (∀ x ∈ l, 0 ≤ x) → (∀ x ∈ r, 0 ≤ x) → look fl (b2s (keyN l r)) = some z → ∃ i : Nat, i < ns.length ∧ z = i ∧ ns.getD i default = ⟨l, r⟩
structure PoolOk (q : PSt) : Prop where
  ar : Ar q.ns q.bs
  find : FindOk q.ns q.fl
  ord : ∀ a b v, look q.om (a, b) = some v → PlaceOk q a ∧ PlaceOk q b ∧ v = decP (geG (pd q a) (pd q b))
  can : ∀ a z, look q.cm a = some z → PlaceOk q a ∧ PlaceOk q z ∧ CanonG (pd q z) ∧ eqG (pd q z) (pd q a)
  sum : ∀ a b z, look q.sm (a, b) = some z → PlaceOk q a ∧ PlaceOk q b ∧ PlaceOk q z ∧ pd q z = addG (pd q a) (pd q b)
  neg : ∀ a z, look q.gm a = some z → PlaceOk q a ∧ PlaceOk q z ∧ pd q z = negG (pd q a)
/-- The pool has grown. -/
structure PX (q q' : PSt) : Prop where
  len : q.ns.length ≤ q'.ns.length
  old : ∀ k, k < q.ns.length → q'.ns.getD k default = q.ns.getD k default
theorem PX.refl (q : PSt) : PX q q := ⟨Nat.le_refl _, fun _ _ => rfl⟩
theorem PX.trans {a b c : PSt} (h : PX a b) (k : PX b c) : PX a c := ⟨Nat.le_trans h.len k.len, fun i hi => (k.old i (by have := h.len; omega)).trans (h.old i hi)⟩
theorem PX.den {q q' : PSt} (h : PX q q') (ho : OptsOk q.ns) (ho' : OptsOk q'.ns) : ∀ k, k < q.ns.length → den q'.ns k = den q.ns k := by
  intro k
  induction k using Nat.strongRecOn with
  | _ k ih =>
    intro hk
    have oo := optsAt ho hk
    rw [den_opt ho' (by have := h.len; omega), den_opt ho hk, h.old k hk]
    rw [List.map_congr_left fun z hz => ih z.toNat (by have := oo.1 z hz; omega) (by have := oo.1 z hz; omega)]
    rw [List.map_congr_left (l := (q.ns.getD k default).r) fun z hz => ih z.toNat (by have := oo.2 z hz; omega) (by have := oo.2 z hz; omega)]
theorem PX.pd {q q' : PSt} (h : PX q q') (hq : PoolOk q) (hq' : PoolOk q') {z : Int} (hz : PlaceOk q z) : pd q' z = pd q z := h.den hq.ar.opts hq'.ar.opts _ (by have := hz.1; have := hz.2; omega)
theorem PX.place {q q' : PSt} (h : PX q q') {z : Int} (hz : PlaceOk q z) : PlaceOk q' z := ⟨hz.1, by have := hz.2; have := h.len; omega⟩
theorem mapl_getD (ns : List Nd) (i : Nat) : (ns.map Nd.l).getD i [] = (ns.getD i default).l := by
  simp only [List.getD, List.getElem?_map]
  cases ns[i]? <;> rfl
theorem mapr_getD (ns : List Nd) (i : Nat) : (ns.map Nd.r).getD i [] = (ns.getD i default).r := by
  simp only [List.getD, List.getElem?_map]
  cases ns[i]? <;> rfl
theorem PoolOk.empty : PoolOk ⟨[], [], [], [], [], [], []⟩ where
  ar := Ar.empty
  find := ⟨fun i hi => absurd hi (Nat.not_lt_zero i), fun l r z _ _ h => by cases h⟩
  ord := fun a b v h => by cases h
  can := fun a z h => by cases h
  sum := fun a b z h => by cases h
  neg := fun a z h => by cases h
/-- An answer is put into the table. -/
theorem PoolOk.setO {q : PSt} (h : PoolOk q) {a b : Int} {v : Bool} (ha : PlaceOk q a) (hb : PlaceOk q b) (hv : v = decP (geG (pd q a) (pd q b))) : PoolOk { q with om := putE q.om (a, b) v } :=
  by
  refine ⟨h.ar, h.find, ?_, h.can, h.sum, h.neg⟩
  intro c d u hu
  simp only at hu
  rw [look_put] at hu
  split at hu
  · rename_i he
    cases he; cases hu
    exact ⟨ha, hb, hv⟩
  · exact h.ord c d u hu
theorem PoolOk.setC {q : PSt} (h : PoolOk q) {a z : Int} (ha : PlaceOk q a) (hz : PlaceOk q z) (hc : CanonG (pd q z)) (he : eqG (pd q z) (pd q a)) : PoolOk { q with cm := putE q.cm a z } :=
  by
  refine ⟨h.ar, h.find, h.ord, ?_, h.sum, h.neg⟩
  intro c d hu
  simp only at hu
  rw [look_put] at hu
  split at hu
  · rename_i he'
    cases he'; cases hu
    exact ⟨ha, hz, hc, he⟩
  · exact h.can c d hu
theorem PoolOk.setS {q : PSt} (h : PoolOk q) {a b z : Int} (ha : PlaceOk q a) (hb : PlaceOk q b) (hz : PlaceOk q z) (hv : pd q z = addG (pd q a) (pd q b)) : PoolOk { q with sm := putE q.sm (a, b) z } :=
  by
  refine ⟨h.ar, h.find, h.ord, h.can, ?_, h.neg⟩
  intro c d u hu
  simp only at hu
  rw [look_put] at hu
  split at hu
  · rename_i he
    cases he; cases hu
    exact ⟨ha, hb, hz, hv⟩
  · exact h.sum c d u hu
theorem PoolOk.setN {q : PSt} (h : PoolOk q) {a z : Int} (ha : PlaceOk q a) (hz : PlaceOk q z) (hv : pd q z = negG (pd q a)) : PoolOk { q with gm := putE q.gm a z } :=
  by
  refine ⟨h.ar, h.find, h.ord, h.can, h.sum, ?_⟩
  intro c u hu
  simp only at hu
  rw [look_put] at hu
  split at hu
  · rename_i he
    cases he; cases hu
    exact ⟨ha, hz, hv⟩
  · exact h.neg c u hu
/-! ### a new pool, a new node -/
section
variable {p : Nat} {L R B : Value} {mm : PM} {w0 : World} {S : Nat → Prop}
theorem PIn.lp (h : PIn w0 S p L R B mm) : Lo w0 S (some p) := fun k hk => by cases hk; exact h _ (Or.inl rfl)
theorem PIn.ll (h : PIn w0 S p L R B mm) : Lo w0 S L.ownBlock := fun k hk => h k (Or.inr (Or.inl hk))
theorem PIn.lr (h : PIn w0 S p L R B mm) : Lo w0 S R.ownBlock := fun k hk => h k (Or.inr (Or.inr (Or.inl hk)))
theorem PIn.lb (h : PIn w0 S p L R B mm) : Lo w0 S B.ownBlock := fun k hk => h k (Or.inr (Or.inr (Or.inr (Or.inl hk))))
theorem PIn.f (h : PIn w0 S p L R B mm) : Lo w0 S (some mm.f) := fun k hk => by cases hk; exact h _ (Or.inr (Or.inr (Or.inr (Or.inr (Or.inl rfl)))))
theorem NP.hf {x : Option Nat} (h : NP p L R B mm x) : Apart x (some mm.f) := fun k a c => h k a (by cases c; exact Or.inr (Or.inr (Or.inr (Or.inr (Or.inl rfl)))))
theorem PIn.fresh {w : World} (h : ∀ k, inP p L R B mm k → w.heap.size ≤ k) (hs : w0.heap.size ≤ w.heap.size) : PIn w0 S p L R B mm := fun k hk => Or.inl (by have := h k hk; omega)
theorem np_fresh {w : World} {x : Option Nat} (h : ∀ k, inP p L R B mm k → w.heap.size ≤ k) (hl : ∀ k, x = some k → k < w.heap.size) : NP p L R B mm x := fun k hk hi => by have := h k hi; have := hl k hk; omega
theorem apart_maps {a b : Nat} (h : a ≠ b) : Apart (some a) (some b) := fun k hk hb => by cases hk; cases hb; exact h rfl
end
theorem lookF {q : PSt} (h : PoolOk q) {xs ys : List Int} (h1 : ∀ i, i < xs.length → 0 ≤ xs.getD i 0 ∧ xs.getD i 0 < q.ns.length) (h2 : ∀ i, i < ys.length → 0 ≤ ys.getD i 0 ∧ ys.getD i 0 < q.ns.length)
    {z : Int} (hz : look q.fl (b2s (keyN (sortL xs) (sortL ys))) = some z) : PlaceOk q z ∧ pd q z = mkG (xs.map (pd q)) (ys.map (pd q)) := by
  have m1 := mem_of_getD (P := fun k => 0 ≤ k ∧ k < (q.ns.length : Int)) h1
  have m2 := mem_of_getD (P := fun k => 0 ≤ k ∧ k < (q.ns.length : Int)) h2
  obtain ⟨i, hi, rfl, e⟩ := h.find.is _ _ _ (fun x hx => (m1 x (mem_sortL.1 hx)).1) (fun x hx => (m2 x (mem_sortL.1 hx)).1) hz
  refine ⟨⟨by omega, by omega⟩, ?_⟩
  unfold pd
  rw [Int.toNat_natCast, den_opt h.ar.opts hi, e]
  exact mk_congr (fun x => by simp only [List.mem_map, mem_sortL]) (fun x => by simp only [List.mem_map, mem_sortL])
/-- A node that was not there. -/
def addQ (q : PSt) (xs ys : List Int) (b : Int) : PSt := { q with ns := q.ns ++ [⟨sortL xs, sortL ys⟩], bs := q.bs ++ [b], fl := putE q.fl (b2s (keyN (sortL xs) (sortL ys))) (q.ns.length : Int) }
theorem PoolOk.add {q : PSt} (h : PoolOk q) {xs ys : List Int} {b : Int} (hl : q.ns.length + 1 ≤ 1048576) (hls : xs.length ≤ 1048576 ∧ ys.length ≤ 1048576)
    (h1 : ∀ i, i < xs.length → 0 ≤ xs.getD i 0 ∧ xs.getD i 0 < q.ns.length) (h2 : ∀ i, i < ys.length → 0 ≤ ys.getD i 0 ∧ ys.getD i 0 < q.ns.length)
    (hn : look q.fl (b2s (keyN (sortL xs) (sortL ys))) = none) (hb : b = bornOf q.bs (sortL ys) (bornOf q.bs (sortL xs) 0)) :
    PoolOk (addQ q xs ys b) ∧ PX q (addQ q xs ys b) ∧ PlaceOk (addQ q xs ys b) (q.ns.length : Int) ∧ pd (addQ q xs ys b) (q.ns.length : Int) = mkG (xs.map (pd q)) (ys.map (pd q)) ∧ (addQ q xs ys b).ns.length ≤ q.ns.length + 1 := by
  have m1 := mem_of_getD (P := fun k => 0 ≤ k ∧ k < (q.ns.length : Int)) h1
  have m2 := mem_of_getD (P := fun k => 0 ≤ k ∧ k < (q.ns.length : Int)) h2
  have hb2 : b = putBorn q.bs xs ys := hb.trans putBorn_sort
  have hf : findK q.ns q.bs (putNd xs ys) (putBorn q.bs xs ys) = none := by
    cases hf : findK q.ns q.bs (putNd xs ys) (putBorn q.bs xs ys) with
    | none => rfl
    | some k =>
      exfalso
      have hk : k < q.ns.length := by simpa using List.mem_of_find?_eq_some hf
      have hd : q.bs.getD k 0 = putBorn q.bs xs ys ∧ (q.ns.getD k default).l = sortL xs ∧ (q.ns.getD k default).r = sortL ys := by
        have hdec := List.find?_some hf
        exact of_decide_eq_true hdec
      have := h.find.has k hk
      rw [hd.2.1, hd.2.2, hn] at this
      cases this
  have hp := h.ar.put hl hls h1 h2
  have eN : putN q.ns q.bs xs ys = q.ns ++ [⟨sortL xs, sortL ys⟩] := by unfold putN; rw [hf]; rfl
  have eB : putB q.ns q.bs xs ys = q.bs ++ [b] := by unfold putB; rw [hf, hb2]
  have eK : putK q.ns q.bs xs ys = q.ns.length := by unfold putK; rw [hf]
  rw [eN, eB, eK] at hp
  have hpx : PX q (addQ q xs ys b) := ⟨by simp [addQ], fun k hk => getD_append_left hk⟩
  have hpd : ∀ z : Int, PlaceOk q z → pd (addQ q xs ys b) z = pd q z := fun z hz => hp.2.2 z.toNat (by have := hz.1; have := hz.2; omega)
  have hpl : ∀ z : Int, PlaceOk q z → PlaceOk (addQ q xs ys b) z := fun z hz => hpx.place hz
  have hlen : (q.ns ++ [(⟨sortL xs, sortL ys⟩ : Nd)]).length = q.ns.length + 1 := by simp
  refine ⟨⟨hp.1, ⟨fun i hi => ?_, fun l r z hl0 hr0 hz => ?_⟩, fun a c v hv => ?_, fun a z hz => ?_, fun a c z hz => ?_, fun a z hz => ?_⟩, hpx, ⟨by omega, by show (q.ns.length : Int) < ((q.ns ++ [(⟨sortL xs, sortL ys⟩ : Nd)]).length : Int); rw [hlen]; omega⟩, ?_, by show (q.ns ++ [(⟨sortL xs, sortL ys⟩ : Nd)]).length ≤ _; rw [hlen]; exact Nat.le_refl _⟩
  · show look (putE q.fl _ _) _ = _
    have hi' : i < q.ns.length + 1 := by rw [← hlen]; exact hi
    by_cases he : i < q.ns.length
    · have e : (addQ q xs ys b).ns.getD i default = q.ns.getD i default := getD_append_left he
      rw [e, look_put, if_neg]
      · exact h.find.has i he
      · intro hk
        have oo := optsAt h.ar.opts he
        obtain ⟨e1, e2⟩ := keyN_inj (fun z hz => (oo.1 z hz).1) (fun z hz => (oo.2 z hz).1) (fun z hz => (m1 z (mem_sortL.1 hz)).1) (fun z hz => (m2 z (mem_sortL.1 hz)).1) (b2s_inj hk)
        have := h.find.has i he
        rw [e1, e2, hn] at this
        cases this
    · have e0 : i = q.ns.length := by omega
      subst e0
      have e : (addQ q xs ys b).ns.getD q.ns.length default = ⟨sortL xs, sortL ys⟩ := getD_append_self rfl
      rw [e, look_put, if_pos rfl]
  · have hz' : look (putE q.fl (b2s (keyN (sortL xs) (sortL ys))) (q.ns.length : Int)) (b2s (keyN l r)) = some z := hz
    rw [look_put] at hz'
    split at hz'
    · rename_i hk
      obtain ⟨e1, e2⟩ := keyN_inj hl0 hr0 (fun z hz => (m1 z (mem_sortL.1 hz)).1) (fun z hz => (m2 z (mem_sortL.1 hz)).1) (b2s_inj hk)
      cases hz'
      exact ⟨q.ns.length, by show _ < (q.ns ++ [_]).length; rw [hlen]; omega, rfl, by rw [e1, e2]; exact getD_append_self rfl⟩
    · obtain ⟨i, h3, h4, h5⟩ := h.find.is l r z hl0 hr0 hz'
      exact ⟨i, by show _ < (q.ns ++ [_]).length; rw [hlen]; omega, h4, (getD_append_left h3).trans h5⟩
  · obtain ⟨h3, h4, h5⟩ := h.ord a c v hv
    exact ⟨hpl a h3, hpl c h4, by rw [hpd a h3, hpd c h4]; exact h5⟩
  · obtain ⟨h3, h4, h5, h6⟩ := h.can a z hz
    exact ⟨hpl a h3, hpl z h4, by rw [hpd z h4]; exact h5, by rw [hpd z h4, hpd a h3]; exact h6⟩
  · obtain ⟨h3, h4, h5, h6⟩ := h.sum a c z hz
    exact ⟨hpl a h3, hpl c h4, hpl z h5, by rw [hpd z h5, hpd a h3, hpd c h4]; exact h6⟩
  · obtain ⟨h3, h4, h5⟩ := h.neg a z hz
    exact ⟨hpl a h3, hpl z h4, by rw [hpd z h4, hpd a h3]; exact h5⟩
  · exact hp.2.1
theorem px_map {q q' : PSt} (h : PX q q') (hq : PoolOk q) (hq' : PoolOk q') {ls : List Int} (hl : ∀ z ∈ ls, PlaceOk q z) : ls.map (pd q') = ls.map (pd q) := List.map_congr_left fun z hz => h.pd hq hq' (hl z hz)
theorem places_of {q : PSt} {ls : List Int} (h : ∀ z ∈ ls, PlaceOk q z) : ∀ i, i < ls.length → 0 ≤ ls.getD i 0 ∧ ls.getD i 0 < q.ns.length := fun _ hi => h _ (getD_mem hi)
theorem sort_bounds {xs : List Int} {n : Nat} (h1 : ∀ i, i < xs.length → 0 ≤ xs.getD i 0 ∧ xs.getD i 0 < n) : ∀ i, i < (sortL xs).length → 0 ≤ (sortL xs).getD i 0 ∧ (sortL xs).getD i 0 < n := fun _ hi =>
  mem_of_getD (P := fun k => 0 ≤ k ∧ k < (n : Int)) h1 _ (mem_sortL.1 (getD_mem hi))
theorem key_bound {xs : List Int} {n j : Nat} (h1 : ∀ i, i < xs.length → 0 ≤ xs.getD i 0 ∧ xs.getD i 0 < n) (hn : n ≤ 1048576) : (keyL (xs.take j)).length ≤ 14 * xs.length := by
  have := key_len (l := xs.take j) fun z hz => by
    have := mem_of_getD (P := fun k => 0 ≤ k ∧ k < (n : Int)) h1 z (List.mem_of_mem_take hz); omega
  have h2 : (xs.take j).length ≤ xs.length := by simp; omega
  omega
end Go.GL
