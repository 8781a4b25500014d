/- Maps that a call makes: a block of entries, in the order of their birth; look-ups and stores by key. -/
import Derived.Test.YtndhhpaldhlghaaDoorClaim
import Derived.Carry
import Derived.MapKept
namespace Go.GL
open Go Go.RowKit

/-! ### plain: lists of entries -/
section
variable {κ ν : Type} [DecidableEq κ]
def look (l : List (κ × ν)) (k : κ) : Option ν := (l.find? fun p => decide (p.1 = k)).map (·.2)
def putE : List (κ × ν) → κ → ν → List (κ × ν)
  | [], k, v => [(k, v)]
  | p :: r, k, v => if k = p.1 then (k, v) :: r else p :: putE r k v
/-- The first entry of a key and its place. -/
def findE : List (κ × ν) → κ → Nat → Option (Nat × ν)
  | [], _, _ => none
  | p :: r, k, i => if k = p.1 then some (i, p.2) else findE r k (i + 1)
theorem findE_look (k : κ) : ∀ (l : List (κ × ν)) (i : Nat), (findE l k i).map (·.2) = look l k
  | [], _ => rfl
  | p :: r, i => by
    unfold findE look
    by_cases h : k = p.1
    · rw [if_pos h, List.find?_cons_of_pos (by simp [h])]; rfl
    · rw [if_neg h, List.find?_cons_of_neg (by simp [Ne.symm h])]; exact findE_look k r (i + 1)
theorem look_nil (k : κ) : look ([] : List (κ × ν)) k = none := rfl
theorem look_cons (p : κ × ν) (r : List (κ × ν)) (k : κ) : look (p :: r) k = if k = p.1 then some p.2 else look r k := by
  unfold look
  by_cases h : k = p.1
  · rw [List.find?_cons_of_pos (by simp [h]), if_pos h]; rfl
  · rw [List.find?_cons_of_neg (by simp [Ne.symm h]), if_neg h]
theorem look_put (k k' : κ) (v : ν) : ∀ (l : List (κ × ν)), look (putE l k v) k' = if k' = k then some v else look l k'
  | [] => by
    unfold putE
    rw [look_cons]
  | p :: r => by
    unfold putE
    by_cases h : k = p.1
    · rw [if_pos h, look_cons, look_cons]
      by_cases h2 : k' = k
      · rw [if_pos h2, if_pos h2]
      · rw [if_neg h2, if_neg h2, if_neg (by rw [← h]; exact h2)]
    · rw [if_neg h, look_cons, look_cons, look_put k k' v r]
      by_cases h2 : k' = p.1
      · rw [if_pos h2, if_pos h2, if_neg (by rw [h2]; exact Ne.symm h)]
      · rw [if_neg h2, if_neg h2]
theorem putE_none {k : κ} {v : ν} : ∀ {l : List (κ × ν)} {i : Nat}, findE l k i = none → putE l k v = l ++ [(k, v)]
  | [], _, _ => rfl
  | p :: r, i, h => by
    unfold findE at h
    split at h
    · cases h
    · rename_i hk
      unfold putE
      rw [if_neg hk, putE_none h]; rfl
theorem putE_some {k : κ} {v : ν} : ∀ {l : List (κ × ν)} {i j : Nat} {u : ν}, findE l k i = some (j, u) → i ≤ j ∧ (∃ p, l[j - i]? = some p ∧ p.1 = k) ∧ putE l k v = l.set (j - i) (k, v)
  | [], _, _, _, h => by cases h
  | p :: r, i, j, u, h => by
    unfold findE at h
    split at h
    · rename_i hk
      simp only [Option.some.injEq, Prod.mk.injEq] at h
      obtain ⟨rfl, rfl⟩ := h
      refine ⟨Nat.le_refl _, ⟨p, by simp, hk.symm⟩, ?_⟩
      unfold putE
      rw [if_pos hk, Nat.sub_self]; rfl
    · rename_i hk
      obtain ⟨h1, ⟨q, h2, h3⟩, h4⟩ := putE_some (v := v) h
      have e : j - i = (j - (i + 1)) + 1 := by omega
      refine ⟨by omega, ⟨q, by rw [e, List.getElem?_cons_succ]; exact h2, h3⟩, ?_⟩
      unfold putE
      rw [if_neg hk, h4, e]; rfl
theorem putE_map {μ : Type} {f : ν → μ} (k : κ) (v : ν) : ∀ (l : List (κ × ν)), putE (l.map fun p => (p.1, f p.2)) k (f v) = (putE l k v).map fun p => (p.1, f p.2)
  | [] => rfl
  | p :: r => by
    rw [List.map_cons]
    unfold putE
    by_cases h : k = p.1
    · rw [if_pos h, if_pos h]; rfl
    · rw [if_neg h, if_neg h, putE_map k v r]; rfl
end

/-! ### keys of three kinds -/
/-- A kind of keys: how they are told apart. -/
structure KeyK {κ : Type} [DecidableEq κ] (P : Program) (kt : TypeId) (enc : κ → Value) : Prop where
  check : ∀ (b : Bool) (k : κ) (w : World), (Instr.checkKey b 10000 kt (enc k)).run P w = .ok () w
  find : ∀ (k : κ) (es : List MapEntry) (l : List (κ × Value)) (w : World), es.map (fun e => (e.key, e.val)) = l.map (fun p => (enc p.1, p.2)) → (Instr.findKey kt (enc k) es).run P w = .ok (findE l k 0) w
  same : ∀ (k : κ), Instr.sameBits 10000 (enc k) (enc k) = true
theorem ba_beq (a b : ByteArray) : (a == b) = decide (a = b) := by
  cases a with
  | mk x =>
    cases b with
    | mk y =>
      have e : ((⟨x⟩ : ByteArray) == ⟨y⟩) = (x == y) := rfl
      rw [e]
      by_cases h : x = y
      · subst h; simp
      · rw [decide_eq_false (by simpa using h)]
        simpa using h
section
variable {P : Program}
theorem check_int {kt : TypeId} (h : P.underlying kt = some (.int .i64)) (b : Bool) (n : Nat) (k : Int) (w : World) : (Instr.checkKey b (n + 1) kt (.int .i64 k)).run P w = .ok () w := by
  rw [Instr.checkKey]
  simp only [Sem.run_bind, run_underlying h, Result.andThen_ok]
  rfl
theorem check_str {kt : TypeId} (h : P.underlying kt = some .string) (b : Bool) (n : Nat) (k : ByteArray) (w : World) : (Instr.checkKey b (n + 1) kt (.string k)).run P w = .ok () w := by
  rw [Instr.checkKey]
  simp only [Sem.run_bind, run_underlying h, Result.andThen_ok]
  rfl
theorem getObj_at {w : World} {r : Nat} {es : Array MapEntry} {c : Nat} (h : w.heap[r]? = some (.map es c)) : (getObj r).run P w = .ok (.map es c) w := by simp [getObj, Sem.run, h]
theorem key_int {kt : TypeId} (h : P.underlying kt = some (.int .i64)) : KeyK P kt (fun k : Int => Value.int .i64 k) where
  check := fun b k w => check_int h b 9999 k w
  find := fun k es l w hl => by
    have key : ∀ (es : List MapEntry) (l : List (Int × Value)) (i : Nat), es.map (fun e => (e.key, e.val)) = l.map (fun p => (Value.int .i64 p.1, p.2)) → Instr.findNow (.int .i64) (.int .i64 k) es i = some (findE l k i) := by
      intro es
      induction es with
      | nil => intro l i hl; cases l with | nil => rfl | cons p r => cases hl
      | cons e r ih =>
        intro l i hl
        cases l with
        | nil => cases hl
        | cons p q =>
          simp only [List.map_cons, List.cons.injEq, Prod.mk.injEq] at hl
          obtain ⟨⟨h1, h2⟩, h3⟩ := hl
          unfold Instr.findNow findE
          rw [h1]
          simp only [Instr.sameNow, if_true]
          by_cases hk : k = p.1
          · subst hk; simp [h2]
          · have : (k == p.1) = false := by simpa using hk
            rw [this, if_neg hk]
            exact ih q (i + 1) h3
    simp [Instr.findKey, run_underlying h, key es l 0 hl]
  same := fun k => by show Instr.sameBits (9999 + 1) _ _ = true; simp [Instr.sameBits]
theorem key_str {kt : TypeId} (h : P.underlying kt = some .string) : KeyK P kt (fun k : ByteArray => Value.string k) where
  check := fun b k w => check_str h b 9999 k w
  find := fun k es l w hl => by
    have key : ∀ (es : List MapEntry) (l : List (ByteArray × Value)) (i : Nat), es.map (fun e => (e.key, e.val)) = l.map (fun p => (Value.string p.1, p.2)) → Instr.findNow .string (.string k) es i = some (findE l k i) := by
      intro es
      induction es with
      | nil => intro l i hl; cases l with | nil => rfl | cons p r => cases hl
      | cons e r ih =>
        intro l i hl
        cases l with
        | nil => cases hl
        | cons p q =>
          simp only [List.map_cons, List.cons.injEq, Prod.mk.injEq] at hl
          obtain ⟨⟨h1, h2⟩, h3⟩ := hl
          unfold Instr.findNow findE
          rw [h1]
          simp only [Instr.sameNow, ba_beq]
          by_cases hk : k = p.1
          · subst hk; simp [h2]
          · rw [decide_eq_false hk, if_neg hk]
            exact ih q (i + 1) h3
    simp [Instr.findKey, run_underlying h, key es l 0 hl]
  same := fun k => by show Instr.sameBits (9999 + 1) _ _ = true; simp [Instr.sameBits, ba_beq]
theorem check_pair {kt e : TypeId} (h : P.underlying kt = some (.array 2 e)) (he : P.underlying e = some (.int .i64)) (hs : (P.info? e).map (·.size) = some 1) (b : Bool) (n : Nat) (k : Int × Int) (w : World) :
    (Instr.checkKey b (n + 1 + 1) kt (.agg #[.int .i64 k.1, .int .i64 k.2])).run P w = .ok () w := by
  have ha : (P.underlying e).map aggD = some false := by rw [he]; rfl
  have hpart : ∀ (u v : Int) (i : Nat) (z : Int), (#[Value.int .i64 u, .int .i64 v] : Array Value)[i]? = some (.int .i64 z) → (part e #[.int .i64 u, .int .i64 v] i).run P w = .ok (.int .i64 z) w := fun u v i z hk => by
    unfold part
    simp only [Sem.run_bind, run_isAgg ha, Result.andThen_ok]
    simp [hk]
  have hin : ∀ z : Int, (Instr.checkKey b (n + 1) e (.int .i64 z)).run P w = .ok () w := fun z => check_int he b n z w
  rw [Instr.checkKey]
  simp only [Sem.run_bind, run_underlying h, Result.andThen_ok]
  simp [Std.Legacy.Range.forIn_eq_forIn_range', Std.Legacy.Range.size, List.range', run_sizeOf hs, hpart k.1 k.2 0 k.1 rfl, hpart k.1 k.2 1 k.2 rfl, hin]
def encP2 (k : Int × Int) : Value := .agg #[.int .i64 k.1, .int .i64 k.2]
theorem key_pair {kt e : TypeId} (h : P.underlying kt = some (.array 2 e)) (he : P.underlying e = some (.int .i64)) (hs : (P.info? e).map (·.size) = some 1) : KeyK P kt encP2 where
  check := fun b k w => check_pair h he hs b 9998 k w
  find := fun k es l w hl => by
    have hask : ∀ (es : List MapEntry) (l : List ((Int × Int) × Value)) (i : Nat), es.map (fun e => (e.key, e.val)) = l.map (fun p => (encP2 p.1, p.2)) → (Instr.findAsking kt (encP2 k) es i).run P w = .ok (findE l k i) w := by
      intro es
      induction es with
      | nil => intro l i hl; cases l with | nil => rfl | cons p r => cases hl
      | cons x r ih =>
        intro l i hl
        cases l with
        | nil => cases hl
        | cons p q =>
          simp only [List.map_cons, List.cons.injEq, Prod.mk.injEq] at hl
          obtain ⟨⟨h1, h2⟩, h3⟩ := hl
          have heq : (Op.equal kt (encP2 k) (encP2 p.1)).run P w = .ok (decide (k = p.1)) w := run_equalIn_pair (w := w) 9998 h he hs
          unfold Instr.findAsking findE
          rw [h1]
          simp only [Sem.run_bind, heq, Result.andThen_ok]
          by_cases hk : k = p.1
          · simp [hk, h2]
          · simp only [hk, decide_false, if_false, Bool.false_eq_true]
            exact ih q (i + 1) h3
    unfold Instr.findKey
    simp only [Sem.run_bind, run_underlying h, Result.andThen_ok]
    match es, l, hl with
    | [], [], _ => rfl
    | x :: r, p :: q, hl =>
      have hx : x.key = encP2 p.1 := by simp only [List.map_cons, List.cons.injEq, Prod.mk.injEq] at hl; exact hl.1.1
      have : Instr.findNow (.array 2 e) (encP2 k) (x :: r) 0 = none := by
        unfold Instr.findNow
        rw [hx]; rfl
      rw [this]
      exact hask (x :: r) (p :: q) 0 hl
    | [], p :: q, hl => cases hl
    | x :: r, [], hl => cases hl
  same := fun k => by show Instr.sameBits (9998 + 1 + 1) _ _ = true; simp [encP2, Instr.sameBits]
end

/-! ### a map's block -/
structure Mp {κ ν : Type} (enc : κ → Value) (val : ν → Value) (w : World) (m : Nat) (l : List (κ × ν)) : Prop where
  heap : ∃ es clock, w.heap[m]? = some (.map es clock) ∧ es.toList.map (fun e => (e.key, e.val)) = l.map fun p => (enc p.1, val p.2)
section
variable {κ ν : Type} {enc : κ → Value} {val : ν → Value} {w w' : World} {m : Nat} {l : List (κ × ν)}
theorem Mp.lt (h : Mp enc val w m l) : m < w.heap.size := by
  obtain ⟨es, c, h1, _⟩ := h.heap
  exact (Array.getElem?_eq_some_iff.1 h1).1
theorem Mp.keep (h : Mp enc val w m l) (hb : w'.heap[m]? = w.heap[m]?) : Mp enc val w' m l := by
  obtain ⟨es, c, h1, h2⟩ := h.heap
  exact ⟨es, c, hb.trans h1, h2⟩
theorem Mp.below (h : Mp enc val w m l) (hb : Below w.heap.size w w') : Mp enc val w' m l := h.keep (hb.block m h.lt)
theorem Mp.kept {row : Option Nat} (h : Mp enc val w m l) (hg : w.grownBy w' row) (hne : Apart (some m) row) : Mp enc val w' m l :=
  h.keep (hg.block m h.lt fun e => hne m rfl e.symm)
theorem Mp.free {G : Pin} (h : Mp enc val w m l) (hP : Pins G w) : ∀ o u, ¬ G m o u := fun o u hg => by
  obtain ⟨es, c, h1, _⟩ := h.heap
  have := hP m o u hg
  simp [World.cell?, h1] at this
end
theorem map_ne_own {α : Type} {E : Elt α} {e : Nat} {G : Pin} {w : World} {base : Nat} {v : Value} {xs : List α} {κ ν : Type} {enc : κ → Value} {val : ν → Value} {m : Nat} {l : List (κ × ν)} (h : Mp enc val w m l) (ho : Own E e G w base v xs) : Apart (some m) v.ownBlock := fun k hk hv => by
  cases hk
  obtain ⟨es, c, h1, _⟩ := h.heap
  obtain ⟨cells, ⟨hl, hown⟩, hr⟩ := ho.ex
  rcases hown with ⟨rfl, _⟩ | ⟨g, cap, cur, rfl, _, hg, _⟩
  · cases hv
  · have : g = m := by simpa [Value.ownBlock] using hv
    subst this
    rw [h1] at hg; cases hg
theorem map_ne_box {G : Pin} {w : World} {b : Nat} {cs : List Value} {κ ν : Type} {enc : κ → Value} {val : ν → Value} {m : Nat} {l : List (κ × ν)} (h : Mp enc val w m l) (hb : Bx G w b cs) : Apart (some m) (some b) := fun k hk hv => by
  cases hk; cases hv
  obtain ⟨es, c, h1, _⟩ := h.heap
  obtain ⟨T, hT⟩ := hb.heap
  rw [h1] at hT; cases hT
section
variable {P : Program} {ρ : Operand → Value} {w : World} {K : Value → World → Prop} {d : Option Nat} {t kt et ty : Nat} {pos : String} {aft : Array Edge} {g : Option (Nat × Bool)} {x y z : Operand} {G : Pin}
  {κ ν : Type} [DecidableEq κ] {enc : κ → Value} {val : ν → Value} {m : Nat} {l : List (κ × ν)}
omit [DecidableEq κ] in
theorem o_makeMap (enc : κ → Value) (val : ν → Value) (hP : Pins G w) (h : ∀ m w', m = w.heap.size → Mp enc val w' m [] → Pins G w' → Below w.heap.size w w' → K (.map (some m)) w') : EO P ρ ⟨d, .makeMap t none, ty, pos, aft, g⟩ w K := by
  have hb : Below w.heap.size w (w.alloc (.map #[] 0)) := (Below.refl _ _).alloc (Nat.le_refl _) _
  refine EO.run (v := .map (some w.heap.size)) (w' := w.alloc (.map #[] 0)) ?_ (h _ _ rfl ⟨#[], 0, ?_, rfl⟩ (hP.below hb) hb)
  · simp [execOp, run_makeMap]
  · exact heap_alloc_new w _
theorem run_look (hk : KeyK P kt enc) (ht : P.underlying t = some (.map kt et)) {zv : Value} (hz : (P.info? et).bind (·.zero) = some zv) (hm : Mp enc val w m l) {k : κ} (hx : ρ x = .map (some m)) (hy : ρ y = enc k) :
    (execOp ρ ⟨d, .lookup t x y true, ty, pos, aft, g⟩).run P w = .ok (.value (.tuple #[((look l k).map val).getD zv, .bool (look l k).isSome])) w := by
  obtain ⟨es, c, h1, h2⟩ := hm.heap
  obtain ⟨it, hit, hzz⟩ := Option.bind_eq_some_iff.1 hz
  have hzv : (zeroValue et).run P w = .ok zv w := by simp [zeroValue, typeInfo, hit, hzz]
  have h2' : es.toList.map (fun e => (e.key, e.val)) = (l.map fun p => (p.1, val p.2)).map fun p => (enc p.1, p.2) := by rw [h2, List.map_map]; rfl
  have hf := hk.find k es.toList _ w h2'
  have hl : look (l.map fun p => (p.1, val p.2)) k = (look l k).map val := by
    unfold look
    rw [List.find?_map, Option.map_map, Option.map_map]; rfl
  have hfl := findE_look k (l.map fun p => (p.1, val p.2)) 0
  rw [hl] at hfl
  have hrun : (Instr.lookup t (.map (some m)) (enc k) true).run P w = .ok (.tuple #[((look l k).map val).getD zv, .bool (look l k).isSome]) w := by
    unfold Instr.lookup
    simp only [Sem.run_bind, run_underlying ht, Result.andThen_ok, getObj_at h1, Sem.run_pure, hk.check, hf]
    cases hq : findE (l.map fun p => (p.1, val p.2)) k 0 with
    | none =>
      rw [hq] at hfl
      have hn : look l k = none := by
        cases hh : look l k with
        | none => rfl
        | some v => rw [hh] at hfl; cases hfl
      simp [hzv, hn]
    | some r =>
      rw [hq] at hfl
      cases hh : look l k with
      | none => rw [hh] at hfl; cases hfl
      | some v =>
        rw [hh] at hfl
        simp only [Option.map_some, Option.some.injEq] at hfl
        simp [hfl]
  simp [execOp, hx, hy, hrun]
theorem run_lookv_int {l : List (κ × Int)} (hk : KeyK P kt enc) (ht : P.underlying t = some (.map kt et)) (hz : (P.info? et).bind (·.zero) = some (.int .i64 0)) (hm : Mp enc (fun v : Int => Value.int .i64 v) w m l) {k : κ} (hx : ρ x = .map (some m)) (hy : ρ y = enc k) :
    (execOp ρ ⟨d, .lookup t x y true, ty, pos, aft, g⟩).run P w = .ok (.value (.tuple #[.int .i64 ((look l k).getD 0), .bool (look l k).isSome])) w := by
  rw [run_look hk ht hz hm hx hy]
  cases look l k <;> rfl
theorem run_lookv_bool {l : List (κ × Bool)} (hk : KeyK P kt enc) (ht : P.underlying t = some (.map kt et)) (hz : (P.info? et).bind (·.zero) = some (.bool false)) (hm : Mp enc (fun v : Bool => Value.bool v) w m l) {k : κ} (hx : ρ x = .map (some m)) (hy : ρ y = enc k) :
    (execOp ρ ⟨d, .lookup t x y true, ty, pos, aft, g⟩).run P w = .ok (.value (.tuple #[.bool ((look l k).getD false), .bool (look l k).isSome])) w := by
  rw [run_look hk ht hz hm hx hy]
  cases look l k <;> rfl
theorem o_mapUpdate (hk : KeyK P kt enc) (ht : P.underlying t = some (.map kt et)) {k : κ} {v : ν} (hx : ρ x = .map (some m)) (hy : ρ y = enc k) (hz : ρ z = val v) (hP : Pins G w) (hm : Mp enc val w m l)
    (h : ∀ w', Mp enc val w' m (putE l k v) → Pins G w' → w.grownBy w' (some m) → w'.heap.size = w.heap.size → K undef w') : EO P ρ ⟨d, .mapUpdate t x y z, ty, pos, aft, g⟩ w K := by
  obtain ⟨es, c, h1, h2⟩ := hm.heap
  have h2' : es.toList.map (fun e => (e.key, e.val)) = (l.map fun p => (p.1, val p.2)).map fun p => (enc p.1, p.2) := by rw [h2, List.map_map]; rfl
  have hf := hk.find k es.toList _ w h2'
  have hl : look (l.map fun p => (p.1, val p.2)) k = (look l k).map val := by
    unfold look
    rw [List.find?_map, Option.map_map, Option.map_map]; rfl
  have hfl := findE_look k (l.map fun p => (p.1, val p.2)) 0
  rw [hl] at hfl
  have hset : ∀ o : Obj, (setObj m o).run P w = .ok () { w with heap := w.heap.setIfInBounds m o } := fun o => by simp [setObj, Sem.run, h1]
  have hgrow : ∀ o : Obj, w.grownBy { w with heap := w.heap.setIfInBounds m o } (some m) := fun o =>
    ⟨rfl, rfl, rfl, by simp, fun j _ hj => by
      simp only [Array.getElem?_setIfInBounds]
      rw [if_neg (fun e => hj (by rw [e]))]⟩
  have hlt := hm.lt
  have hat : ∀ o : Obj, ({ w with heap := w.heap.setIfInBounds m o } : World).heap[m]? = some o := fun o => by
    simp [hlt]
  have hpins : ∀ o : Obj, Pins G { w with heap := w.heap.setIfInBounds m o } := fun o => hP.grown (hgrow o) (fun j hj o' u' => by cases hj; exact hm.free hP o' u')
  have fin : ∀ o : Obj, (Instr.mapUpdate t (.map (some m)) (enc k) (val v)).run P w = .ok () { w with heap := w.heap.setIfInBounds m o } → Mp enc val { w with heap := w.heap.setIfInBounds m o } m (putE l k v) → EO P ρ ⟨d, .mapUpdate t x y z, ty, pos, aft, g⟩ w K := fun o hr hmp =>
    EO.skip (w' := { w with heap := w.heap.setIfInBounds m o }) (by simp [execOp, hx, hy, hz, hr]) (h _ hmp (hpins o) (hgrow o) (by simp))
  have hpm := putE_map (f := val) k v l
  cases hq : findE (l.map fun p => (p.1, val p.2)) k 0 with
  | none =>
    rw [hq] at hf
    refine fin (.map (es.push { key := enc k, val := val v, born := c }) (c + 1)) ?_ ⟨_, _, hat _, ?_⟩
    · unfold Instr.mapUpdate
      simp only [Sem.run_bind, run_underlying ht, Result.andThen_ok, getObj_at h1, hk.check, hf, hset]
    · rw [putE_none hq] at hpm
      have : (putE l k v).map (fun p => (enc p.1, val p.2)) = ((putE l k v).map fun p => (p.1, val p.2)).map fun p => (enc p.1, p.2) := by rw [List.map_map]; rfl
      rw [this, ← hpm, List.map_append, ← h2']
      simp
  | some r =>
    obtain ⟨i, u⟩ := r
    rw [hq] at hf
    obtain ⟨_, ⟨p, hp, hpk⟩, hset2⟩ := putE_some (v := val v) hq
    rw [Nat.sub_zero] at hp hset2
    have hei : (es.toList.map (fun e => (e.key, e.val)))[i]? = some (enc k, p.2) := by
      rw [h2', List.getElem?_map, hp]
      simp [hpk]
    obtain ⟨e, he, hek⟩ : ∃ e, es[i]? = some e ∧ e.key = enc k := by
      rw [List.getElem?_map] at hei
      cases hh : es.toList[i]? with
      | none => rw [hh] at hei; cases hei
      | some e =>
        rw [hh] at hei
        simp only [Option.map_some, Option.some.injEq, Prod.mk.injEq] at hei
        exact ⟨e, by rw [← Array.getElem?_toList]; exact hh, hei.1⟩
    have hstay : (Instr.keyThatStays (enc k) (enc k)).run P w = .ok (enc k) w := by
      unfold Instr.keyThatStays
      rw [if_pos (hk.same k)]; rfl
    refine fin (.map (es.modify i fun e => { e with key := enc k, val := val v }) c) ?_ ⟨_, _, hat _, ?_⟩
    · unfold Instr.mapUpdate
      simp only [Sem.run_bind, run_underlying ht, Result.andThen_ok, getObj_at h1, hk.check, hf, he, Option.map_some, Option.getD_some, hek, hstay, hset]
    · have : (putE l k v).map (fun p => (enc p.1, val p.2)) = ((putE l k v).map fun p => (p.1, val p.2)).map fun p => (enc p.1, p.2) := by rw [List.map_map]; rfl
      rw [this, ← hpm, hset2, List.map_set, ← h2']
      rw [Array.toList_modify]
      apply List.ext_getElem?
      intro n
      simp only [List.getElem?_map, List.getElem?_set, List.getElem?_modify, List.length_map]
      by_cases hn : i = n
      · subst hn
        have hlt2 : i < es.toList.length := by
          have := (Array.getElem?_eq_some_iff.1 he).1
          simpa using this
        have hlt3 : i < es.size := by simpa using hlt2
        simp [hlt3]
      · simp [hn]
end
end Go.GL
