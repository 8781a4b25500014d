/- Walks, printed by a program (walkgen.py) from the spec specs_or. -/
import Derived.Test.YtndhhpaldhlghaaDoorChecked
import Derived.Test.YtndhhpaldhlghaaDoorRow
import Derived.Test.YtndhhpaldhlghaaDoorOrd
import Derived.Test.YtndhhpaldhlghaaDoorB1
import Derived.Test.YtndhhpaldhlghaaDoorC1
import Derived.Test.YtndhhpaldhlghaaDoorD1
import Derived.Test.YtndhhpaldhlghaaDoorE1
set_option maxRecDepth 20000
set_option maxHeartbeats 2000000
namespace Go.Proofs.YtndhhpaldhlghaaDoor
namespace OR1
open Go.RowKit Go.GL Go.Proofs
open Go.Proofs.YtndhhpaldhlghaaDoor.B1
open Go.Proofs.YtndhhpaldhlghaaDoor.C1
open Go.Proofs.YtndhhpaldhlghaaDoor.D1
open Go.Proofs.YtndhhpaldhlghaaDoor.E1
theorem ag28 : (Tryd.prog.underlying 28).map aggD = some false := by kernel_rfl
theorem ag3 : (Tryd.prog.underlying 3).map aggD = some false := by kernel_rfl
theorem ag38 : (Tryd.prog.underlying 38).map aggD = some false := by kernel_rfl
theorem ag72 : (Tryd.prog.underlying 72).map aggD = some false := by kernel_rfl
theorem nm60 : (Tryd.f60.name == "runtime.NumGoroutine") = false := by kernel_rfl
theorem nm84 : (Tryd.f84.name == "runtime.NumGoroutine") = false := by kernel_rfl
theorem nz28 : (Tryd.prog.info? 28).map (·.size == 0) = some false := by kernel_rfl
theorem nz38 : (Tryd.prog.info? 38).map (·.size == 0) = some false := by kernel_rfl
theorem nz72 : (Tryd.prog.info? 72).map (·.size == 0) = some false := by kernel_rfl
theorem sz3 : (Tryd.prog.info? 3).map (·.size) = some 1 := by kernel_rfl
theorem sz69 : (Tryd.prog.info? 69).map (·.size) = some 2 := by kernel_rfl

/-- What geq answers for pairs below m. -/
def GeqC (m : Nat) (o b : Nat) (bu bv kv : Value) (ns : List Nd) (bs : List Int) : Prop := ∀ {w : World} {G : Pin} {ks : List Int} {x y : Int} (_ : Pins G w) (_ : Od 69 3 G w o b bu bv kv ns bs ks) (_ : 0 ≤ x ∧ x < ns.length) (_ : 0 ≤ y ∧ y < ns.length) (_ : ks.length = ns.length * ns.length), x.toNat + y.toNat < m → KOk ns ks (x.toNat + y.toNat + 1) →
    Calls Tryd.prog 60 [(.pointer (some ⟨o, 0, none⟩)), (.int .i64 x), (.int .i64 y)].toArray w fun e w' => ∃ (ks' : List Int) (G' : Pin), e = .returned (.bool (geB ns x y)) ∧ Od 69 3 G' w' o b bu bv kv ns bs ks' ∧ KRes ns ks ks' (x.toNat + y.toNat + 1) ∧ Ext (inO kv.ownBlock) G w G' w'

theorem look_spec {w : World} {G : Pin} {m : Nat} {o b : Nat} {bu bv kv : Value} {ns : List Nd} {bs : List Int} {ks : List Int} {x y : Int} (hP : Pins G w) (hO : Od 69 3 G w o b bu bv kv ns bs ks) (hx : 0 ≤ x ∧ x < ns.length) (hy : 0 ≤ y ∧ y < ns.length) (hkl : ks.length = ns.length * ns.length) (hok : BookOk ns bs) (ih : GeqC m o b bu bv kv ns bs) (hm : x.toNat + y.toNat ≤ m) (hkok : KOk ns ks (x.toNat + y.toNat)) :
    Calls Tryd.prog 84 [(.pointer (some ⟨o, 0, none⟩)), (.int .i64 x), (.int .i64 y)].toArray w fun e w' => ∃ (ks' : List Int) (G' : Pin), e = .returned (.bool (geB ns x y)) ∧ Od 69 3 G' w' o b bu bv kv ns bs ks' ∧ KRes ns ks ks' (x.toNat + y.toNat) ∧ Ext (inO kv.ownBlock) G w G' w' := by
  refine s_enter (n := 75) Tryd.func84 Tryd.ntmps84 rfl rfl ?_
  have hX0 : Ext (inO kv.ownBlock) G w G w := Ext.refl hP
  have hB := hO.bk
  have hbx := hB.bx
  have hou := hB.ou
  have hov := hB.ov
  have habu := hB.abu
  have habv := hB.abv
  have hauv := hB.auv
  have hlen := hok.len
  have hlim := hok.lim
  have hox := hO.ox
  have hok2 := hO.ok
  have haok := hO.aok
  have habk := hO.abk
  have hauk := hO.auk
  have havk := hO.avk
  have hlok : Lo w (inO kv.ownBlock) kv.ownBlock := lo_self
  have hoo : OptsOk ns := hok.optsOk
  have hlens := hok.lens
  refine s_seq ?_
  refine c_reg ?_
  refine qd rfl rfl rfl (r_assign (v := (.bool false)) rfl) ?_
  refine qe ?_
  refine s_then ?_
  refine s_seq ?_
  refine s_seq ?_
  refine c_reg ?_
  refine qd rfl rfl rfl (r_assign (v := (.int .i64 0)) rfl) ?_
  refine qe ?_
  refine s_then ?_
  refine s_blk ?_
  refine s_loop (fun (k : Nat) (en : Nat → Value) (W : World) => ∃ (env1 : Nat → Value) (i : Nat) (kqr : List Int) (GLr : Pin), en = (upd (upd (upd (upd env1 0 (.pointer (some ⟨o, 0, none⟩))) 1 (.int .i64 x)) 2 (.int .i64 y)) 7 (.int .i64 (i : Int))) ∧ k = (ns.getD (x).toNat default).r.length - i ∧ Ext (inO kv.ownBlock) G w GLr W ∧ Pin.le G GLr ∧ (i ≤ (ns.getD (x).toNat default).r.length) ∧ (KRes ns ks kqr (x.toNat + y.toNat)) ∧ (∀ q, q < i → geB ns y ((ns.getD (x).toNat default).r.getD q 0) = false) ∧ (Own eInt 3 GLr W 0 kv (kqr)) ∧ (Own eNode 69 GLr W 0 bu (ns)) ∧ (Own eInt 3 GLr W 0 bv (bs)) ∧ (Bx GLr W b [bu, bv]) ∧ (Bx GLr W o [(.pointer (some ⟨b, 0, none⟩)), kv])) _ ⟨_, 0, ks, G, (packS (x := 7) (packS (x := 2) (packS (x := 1) (pack1 (x := 0) rfl) rfl) rfl) rfl), rfl, hX0, Pin.le_refl _, Nat.zero_le _, (KRes.refl hkok), (fun q hq => absurd hq (Nat.not_lt_zero q)), hok2, hou, hov, hbx, hox⟩ ?_
  rintro k1 _ w2 ⟨env1, i, kqr, GLr, rfl, hk3, hX4, hlek1, hji, hkrr, hpr, hw5, hw6, hw7, hw8, hw9⟩
  have hklr := hkrr.len
  refine s_seq ?_
  refine s_seq ?_
  refine c_reg ?_
  refine qd rfl rfl rfl (r_move (v := (.int .i64 (i : Int))) rfl) ?_
  refine qd rfl rfl rfl (r_move (v := (.pointer (some ⟨o, 0, none⟩))) rfl) ?_
  refine qd rfl rfl rfl (r_nil rfl) ?_
  refine qd rfl rfl rfl (r_fldp (k := 0) rfl Tryd.underlying74 rfl nz72 rfl) ?_
  refine qd rfl rfl rfl (r_ldp1 (u := (.pointer (some ⟨b, 0, none⟩))) ag72 rfl (hw9.cell (o := 0) rfl)) ?_
  refine qd rfl rfl rfl (r_nil rfl) ?_
  refine qd rfl rfl rfl (r_fldp (k := 0) rfl Tryd.underlying71 rfl nz28 rfl) ?_
  refine qd rfl rfl rfl (r_ldp1 (u := bu) ag28 rfl (hw8.cell (o := 0) rfl)) ?_
  refine qd rfl rfl rfl (r_move (v := (.int .i64 x)) rfl) ?_
  refine qd rfl rfl rfl (run_idx Tryd.underlying28 sz69 (v := bu) rfl rfl hw6.read (by omega) (by omega)) ?_
  refine qd rfl rfl rfl (run_fld (off := 1) Tryd.underlying69 rfl rfl nz38 (z := x) (k := 0) rfl hw6.read (by omega) (by omega)) ?_
  obtain ⟨u10, hr11, hl12⟩ := nm_nr (hw6.at (z := x) (by omega) (by omega)) (j := (x).toNat) rfl
  have hm13 := hr11.max
  refine qd rfl rfl rfl (hl12 ag38 rfl (Gadd.pins hX4.pins bu)) ?_
  refine qd rfl rfl rfl (run_len Tryd.underlying38 (v := u10) rfl hr11) ?_
  refine qd rfl rfl rfl (r_lss rfl rfl) ?_
  refine qe ?_
  refine s_then ?_
  refine c_ifd (p := ((i : Int) : Int) < (((ns.getD (x).toNat default).r).length : Int)) rfl rfl (fun h14 => ?_) (fun h14 => ?_)
  · skip
    have hki := hoo.right (j := (x).toNat) (i := i) (by omega) (by omega)
    refine wp_skip ?_
    refine s_then ?_
    refine s_seq ?_
    refine s_blk ?_
    refine s_seq ?_
    refine c_reg ?_
    refine qd rfl rfl rfl (r_move (v := (.pointer (some ⟨o, 0, none⟩))) rfl) ?_
    refine qd rfl rfl rfl (r_move (v := (.int .i64 y)) rfl) ?_
    refine qd rfl rfl rfl (r_move (v := (.pointer (some ⟨o, 0, none⟩))) rfl) ?_
    refine qd rfl rfl rfl (r_nil rfl) ?_
    refine qd rfl rfl rfl (r_fldp (k := 0) rfl Tryd.underlying74 rfl nz72 rfl) ?_
    refine qd rfl rfl rfl (r_ldp1 (u := (.pointer (some ⟨b, 0, none⟩))) ag72 rfl (hw9.cell (o := 0) rfl)) ?_
    refine qd rfl rfl rfl (r_nil rfl) ?_
    refine qd rfl rfl rfl (r_fldp (k := 0) rfl Tryd.underlying71 rfl nz28 rfl) ?_
    refine qd rfl rfl rfl (r_ldp1 (u := bu) ag28 rfl (hw8.cell (o := 0) rfl)) ?_
    refine qd rfl rfl rfl (r_move (v := (.int .i64 x)) rfl) ?_
    refine qd rfl rfl rfl (run_idx Tryd.underlying28 sz69 (v := bu) rfl rfl hw6.read (by omega) (by omega)) ?_
    refine qd rfl rfl rfl (run_fld (off := 1) Tryd.underlying69 rfl rfl nz38 (z := x) (k := 0) rfl hw6.read (by omega) (by omega)) ?_
    obtain ⟨u15, hr16, hl17⟩ := nm_nr (hw6.at (z := x) (by omega) (by omega)) (j := (x).toNat) rfl
    have hm18 := hr16.max
    refine qd rfl rfl rfl (hl17 ag38 rfl (Gadd.pins hX4.pins bu)) ?_
    refine qd rfl rfl rfl (r_move (v := (.int .i64 (i : Int))) rfl) ?_
    refine qd rfl rfl rfl (run_idx Tryd.underlying38 sz3 (v := u15) rfl rfl hr16 (by omega) (by omega)) ?_
    refine qd rfl rfl rfl (run_load_int (r := ((ns.getD (x).toNat default).r).getD i 0) rfl ag3 (z := (i : Int)) rfl hr16 hX4.pins (by omega) (by omega)) ?_
    refine q1 rfl rfl rfl (o_call (vs := [(.pointer (some ⟨o, 0, none⟩)), (.int .i64 y), (.int .i64 (((ns.getD (x).toNat default).r).getD i 0))]) Tryd.func60 nm60 rfl rfl rfl ?_)
    refine Calls.mono (ih hX4.pins ⟨⟨hw8, hw6, hw7, habu, habv, hauv⟩, hw9, hw5, haok, habk, hauk, havk⟩ (by omega) (by omega) (by omega) (by omega) (hkrr.ok.mono (by omega))) ?_
    rintro _ w21 ⟨ks19, G20, rfl, hd22, hr23, hx24⟩
    refine ⟨_, rfl, ?_⟩
    have hX25 := hX4.trans hx24 (fun i hi => hlok i hi)
    have ho26 := hw6.extS hx24 (notO hauk)
    have ho27 := hw7.extS hx24 (notO havk)
    have hb28 := hw8.extS hx24 (notOb habk)
    have hb29 := hw9.extS hx24 (notOb haok)
    have hkl31 := hr23.len
    refine qe ?_
    refine s_then ?_
    refine c_if rfl rfl (fun h32 => ?_) (fun h32 => ?_)
    · skip
      refine s_seq ?_
      refine c_reg ?_
      refine qd rfl rfl rfl (r_assign (v := (.bool false)) rfl) ?_
      refine qe ?_
      refine s_then ?_
      refine wp_ret ?_
      refine s_ret ?_
      refine c_ret1 (v := (.bool false)) rfl rfl rfl ?_
      exact ⟨_, _, congrArg (fun z => Ending.returned (Value.bool z)) (geB_no_right hoo hx (by omega) h32).symm, ⟨⟨hb28, ho26, ho27, habu, habv, hauv⟩, hb29, hd22.ok, haok, habk, hauk, havk⟩, (hkrr.wide hr23 (by omega)), hX25⟩
    refine wp_skip ?_
    refine s_blkN ?_
    refine s_then ?_
    refine c_reg ?_
    refine qd rfl rfl rfl (r_move (v := (.int .i64 (i : Int))) rfl) ?_
    refine qd rfl rfl rfl (r_add rfl rfl (by omega)) ?_
    refine qd rfl rfl rfl (r_assign (v := (.int .i64 ((i : Int) + 1))) rfl) ?_
    refine qe ?_
    refine s_lopN ?_
    refine ⟨_, ?_, _, rfl, _, i + 1, ks19, G20, (packS (x := 7) (packS (x := 2) (packS (x := 1) (pack1 (x := 0) rfl) rfl) rfl) rfl), rfl, hX25, (Pin.le_trans hlek1 hx24.le), (by omega), (hkrr.wide hr23 (by omega)), (fun q hq => if h3 : q = i then h3 ▸ h32 else hpr q (by omega)), hd22.ok, ho26, ho27, hb28, hb29⟩
    omega
  refine wp_exit ?_
  refine s_thenE ?_
  refine s_lopE ?_
  refine s_blkE ?_
  refine s_then ?_
  refine s_seq ?_
  refine s_seq ?_
  refine c_reg ?_
  refine qd rfl rfl rfl (r_assign (v := (.int .i64 0)) rfl) ?_
  refine qe ?_
  refine s_then ?_
  refine s_blk ?_
  refine s_loop (fun (k : Nat) (en : Nat → Value) (W : World) => ∃ (env1 : Nat → Value) (i2 : Nat) (kql : List Int) (GLl : Pin), en = (upd (upd (upd (upd env1 0 (.pointer (some ⟨o, 0, none⟩))) 1 (.int .i64 x)) 2 (.int .i64 y)) 8 (.int .i64 (i2 : Int))) ∧ k = (ns.getD (y).toNat default).l.length - i2 ∧ Ext (inO kv.ownBlock) G w GLl W ∧ Pin.le GLr GLl ∧ (i2 ≤ (ns.getD (y).toNat default).l.length) ∧ (KRes ns ks kql (x.toNat + y.toNat)) ∧ (∀ q, q < i2 → geB ns ((ns.getD (y).toNat default).l.getD q 0) x = false) ∧ (Own eInt 3 GLl W 0 kv (kql)) ∧ (Own eNode 69 GLl W 0 bu (ns)) ∧ (Own eInt 3 GLl W 0 bv (bs)) ∧ (Bx GLl W b [bu, bv]) ∧ (Bx GLl W o [(.pointer (some ⟨b, 0, none⟩)), kv])) _ ⟨_, 0, kqr, GLr, (packS (x := 8) (packS (x := 2) (packS (x := 1) (pack1 (x := 0) rfl) rfl) rfl) rfl), rfl, hX4, Pin.le_refl _, Nat.zero_le _, hkrr, (fun q hq => absurd hq (Nat.not_lt_zero q)), hw5, hw6, hw7, hw8, hw9⟩ ?_
  rintro k33 _ w34 ⟨env1, i2, kql, GLl, rfl, hk35, hX36, hlek33, hji2, hkrl, hpl, hw37, hw38, hw39, hw40, hw41⟩
  have hkll := hkrl.len
  refine s_seq ?_
  refine s_seq ?_
  refine c_reg ?_
  refine qd rfl rfl rfl (r_move (v := (.int .i64 (i2 : Int))) rfl) ?_
  refine qd rfl rfl rfl (r_move (v := (.pointer (some ⟨o, 0, none⟩))) rfl) ?_
  refine qd rfl rfl rfl (r_nil rfl) ?_
  refine qd rfl rfl rfl (r_fldp (k := 0) rfl Tryd.underlying74 rfl nz72 rfl) ?_
  refine qd rfl rfl rfl (r_ldp1 (u := (.pointer (some ⟨b, 0, none⟩))) ag72 rfl (hw41.cell (o := 0) rfl)) ?_
  refine qd rfl rfl rfl (r_nil rfl) ?_
  refine qd rfl rfl rfl (r_fldp (k := 0) rfl Tryd.underlying71 rfl nz28 rfl) ?_
  refine qd rfl rfl rfl (r_ldp1 (u := bu) ag28 rfl (hw40.cell (o := 0) rfl)) ?_
  refine qd rfl rfl rfl (r_move (v := (.int .i64 y)) rfl) ?_
  refine qd rfl rfl rfl (run_idx Tryd.underlying28 sz69 (v := bu) rfl rfl hw38.read (by omega) (by omega)) ?_
  refine qd rfl rfl rfl (run_fld (off := 0) Tryd.underlying69 rfl rfl nz38 (z := y) (k := 0) rfl hw38.read (by omega) (by omega)) ?_
  obtain ⟨u42, hr43, hl44⟩ := nm_nl (hw38.at (z := y) (by omega) (by omega)) (j := (y).toNat) rfl
  have hm45 := hr43.max
  refine qd rfl rfl rfl (hl44 ag38 rfl (Gadd.pins hX36.pins bu)) ?_
  refine qd rfl rfl rfl (run_len Tryd.underlying38 (v := u42) rfl hr43) ?_
  refine qd rfl rfl rfl (r_lss rfl rfl) ?_
  refine qe ?_
  refine s_then ?_
  refine c_ifd (p := ((i2 : Int) : Int) < (((ns.getD (y).toNat default).l).length : Int)) rfl rfl (fun h46 => ?_) (fun h46 => ?_)
  · skip
    have hki := hoo.left (j := (y).toNat) (i := i2) (by omega) (by omega)
    refine wp_skip ?_
    refine s_then ?_
    refine s_seq ?_
    refine s_blk ?_
    refine s_seq ?_
    refine c_reg ?_
    refine qd rfl rfl rfl (r_move (v := (.pointer (some ⟨o, 0, none⟩))) rfl) ?_
    refine qd rfl rfl rfl (r_move (v := (.pointer (some ⟨o, 0, none⟩))) rfl) ?_
    refine qd rfl rfl rfl (r_nil rfl) ?_
    refine qd rfl rfl rfl (r_fldp (k := 0) rfl Tryd.underlying74 rfl nz72 rfl) ?_
    refine qd rfl rfl rfl (r_ldp1 (u := (.pointer (some ⟨b, 0, none⟩))) ag72 rfl (hw41.cell (o := 0) rfl)) ?_
    refine qd rfl rfl rfl (r_nil rfl) ?_
    refine qd rfl rfl rfl (r_fldp (k := 0) rfl Tryd.underlying71 rfl nz28 rfl) ?_
    refine qd rfl rfl rfl (r_ldp1 (u := bu) ag28 rfl (hw40.cell (o := 0) rfl)) ?_
    refine qd rfl rfl rfl (r_move (v := (.int .i64 y)) rfl) ?_
    refine qd rfl rfl rfl (run_idx Tryd.underlying28 sz69 (v := bu) rfl rfl hw38.read (by omega) (by omega)) ?_
    refine qd rfl rfl rfl (run_fld (off := 0) Tryd.underlying69 rfl rfl nz38 (z := y) (k := 0) rfl hw38.read (by omega) (by omega)) ?_
    obtain ⟨u47, hr48, hl49⟩ := nm_nl (hw38.at (z := y) (by omega) (by omega)) (j := (y).toNat) rfl
    have hm50 := hr48.max
    refine qd rfl rfl rfl (hl49 ag38 rfl (Gadd.pins hX36.pins bu)) ?_
    refine qd rfl rfl rfl (r_move (v := (.int .i64 (i2 : Int))) rfl) ?_
    refine qd rfl rfl rfl (run_idx Tryd.underlying38 sz3 (v := u47) rfl rfl hr48 (by omega) (by omega)) ?_
    refine qd rfl rfl rfl (run_load_int (r := ((ns.getD (y).toNat default).l).getD i2 0) rfl ag3 (z := (i2 : Int)) rfl hr48 hX36.pins (by omega) (by omega)) ?_
    refine qd rfl rfl rfl (r_move (v := (.int .i64 x)) rfl) ?_
    refine q1 rfl rfl rfl (o_call (vs := [(.pointer (some ⟨o, 0, none⟩)), (.int .i64 (((ns.getD (y).toNat default).l).getD i2 0)), (.int .i64 x)]) Tryd.func60 nm60 rfl rfl rfl ?_)
    refine Calls.mono (ih hX36.pins ⟨⟨hw40, hw38, hw39, habu, habv, hauv⟩, hw41, hw37, haok, habk, hauk, havk⟩ (by omega) (by omega) (by omega) (by omega) (hkrl.ok.mono (by omega))) ?_
    rintro _ w53 ⟨ks51, G52, rfl, hd54, hr55, hx56⟩
    refine ⟨_, rfl, ?_⟩
    have hX57 := hX36.trans hx56 (fun i hi => hlok i hi)
    have ho58 := hw38.extS hx56 (notO hauk)
    have ho59 := hw39.extS hx56 (notO havk)
    have hb60 := hw40.extS hx56 (notOb habk)
    have hb61 := hw41.extS hx56 (notOb haok)
    have hkl63 := hr55.len
    refine qe ?_
    refine s_then ?_
    refine c_if rfl rfl (fun h64 => ?_) (fun h64 => ?_)
    · skip
      refine s_seq ?_
      refine c_reg ?_
      refine qd rfl rfl rfl (r_assign (v := (.bool false)) rfl) ?_
      refine qe ?_
      refine s_then ?_
      refine wp_ret ?_
      refine s_ret ?_
      refine c_ret1 (v := (.bool false)) rfl rfl rfl ?_
      exact ⟨_, _, congrArg (fun z => Ending.returned (Value.bool z)) (geB_no_left hoo hy (by omega) h64).symm, ⟨⟨hb60, ho58, ho59, habu, habv, hauv⟩, hb61, hd54.ok, haok, habk, hauk, havk⟩, (hkrl.wide hr55 (by omega)), hX57⟩
    refine wp_skip ?_
    refine s_blkN ?_
    refine s_then ?_
    refine c_reg ?_
    refine qd rfl rfl rfl (r_move (v := (.int .i64 (i2 : Int))) rfl) ?_
    refine qd rfl rfl rfl (r_add rfl rfl (by omega)) ?_
    refine qd rfl rfl rfl (r_assign (v := (.int .i64 ((i2 : Int) + 1))) rfl) ?_
    refine qe ?_
    refine s_lopN ?_
    refine ⟨_, ?_, _, rfl, _, i2 + 1, ks51, G52, (packS (x := 8) (packS (x := 2) (packS (x := 1) (pack1 (x := 0) rfl) rfl) rfl) rfl), rfl, hX57, (Pin.le_trans hlek33 hx56.le), (by omega), (hkrl.wide hr55 (by omega)), (fun q hq => if h3 : q = i2 then h3 ▸ h64 else hpl q (by omega)), hd54.ok, ho58, ho59, hb60, hb61⟩
    omega
  refine wp_exit ?_
  refine s_thenE ?_
  refine s_lopE ?_
  refine s_blkE ?_
  refine s_then ?_
  refine s_seq ?_
  refine c_reg ?_
  refine qd rfl rfl rfl (r_assign (v := (.bool true)) rfl) ?_
  refine qe ?_
  refine s_then ?_
  refine wp_ret ?_
  refine s_ret ?_
  refine c_ret1 (v := (.bool true)) rfl rfl rfl ?_
  exact ⟨_, _, congrArg (fun z => Ending.returned (Value.bool z)) (geB_yes hoo hx hy (fun q hq => hpr q (by omega)) (fun q hq => hpl q (by omega))).symm, ⟨⟨hw40, hw38, hw39, habu, habv, hauv⟩, hw41, hw37, haok, habk, hauk, havk⟩, hkrl, hX36⟩

theorem geq_step {w : World} {G : Pin} {m : Nat} {o b : Nat} {bu bv kv : Value} {ns : List Nd} {bs : List Int} {ks : List Int} {x y : Int} (hP : Pins G w) (hO : Od 69 3 G w o b bu bv kv ns bs ks) (hx : 0 ≤ x ∧ x < ns.length) (hy : 0 ≤ y ∧ y < ns.length) (hkl : ks.length = ns.length * ns.length) (hok : BookOk ns bs) (ih : GeqC m o b bu bv kv ns bs) (hm : x.toNat + y.toNat < m + 1) (hkok : KOk ns ks (x.toNat + y.toNat + 1)) :
    Calls Tryd.prog 60 [(.pointer (some ⟨o, 0, none⟩)), (.int .i64 x), (.int .i64 y)].toArray w fun e w' => ∃ (ks' : List Int) (G' : Pin), e = .returned (.bool (geB ns x y)) ∧ Od 69 3 G' w' o b bu bv kv ns bs ks' ∧ KRes ns ks ks' (x.toNat + y.toNat + 1) ∧ Ext (inO kv.ownBlock) G w G' w' := by
  refine s_enter (n := 52) Tryd.func60 Tryd.ntmps60 rfl rfl ?_
  have hX0 : Ext (inO kv.ownBlock) G w G w := Ext.refl hP
  have hB := hO.bk
  have hbx := hB.bx
  have hou := hB.ou
  have hov := hB.ov
  have habu := hB.abu
  have habv := hB.abv
  have hauv := hB.auv
  have hlen := hok.len
  have hlim := hok.lim
  have hox := hO.ox
  have hok2 := hO.ok
  have haok := hO.aok
  have habk := hO.abk
  have hauk := hO.auk
  have havk := hO.avk
  have hlok : Lo w (inO kv.ownBlock) kv.ownBlock := lo_self
  have hoo : OptsOk ns := hok.optsOk
  have hlens := hok.lens
  have hib := idx_bd hx hy hok.lim
  refine s_seq ?_
  refine c_reg ?_
  refine qd rfl rfl rfl (r_assign (v := (.bool false)) rfl) ?_
  refine qe ?_
  refine s_then ?_
  refine s_seq ?_
  refine c_reg ?_
  refine qd rfl rfl rfl (r_move (v := (.int .i64 x)) rfl) ?_
  refine qd rfl rfl rfl (r_move (v := (.pointer (some ⟨o, 0, none⟩))) rfl) ?_
  refine qd rfl rfl rfl (r_nil rfl) ?_
  refine qd rfl rfl rfl (r_fldp (k := 0) rfl Tryd.underlying74 rfl nz72 rfl) ?_
  refine qd rfl rfl rfl (r_ldp1 (u := (.pointer (some ⟨b, 0, none⟩))) ag72 rfl (hox.cell (o := 0) rfl)) ?_
  refine qd rfl rfl rfl (r_nil rfl) ?_
  refine qd rfl rfl rfl (r_fldp (k := 0) rfl Tryd.underlying71 rfl nz28 rfl) ?_
  refine qd rfl rfl rfl (r_ldp1 (u := bu) ag28 rfl (hbx.cell (o := 0) rfl)) ?_
  refine qd rfl rfl rfl (run_len Tryd.underlying28 (v := bu) rfl hou.read) ?_
  refine qd rfl rfl rfl (r_mul rfl rfl (by omega)) ?_
  refine qd rfl rfl rfl (r_move (v := (.int .i64 y)) rfl) ?_
  refine qd rfl rfl rfl (r_add rfl rfl (by omega)) ?_
  refine qd rfl rfl rfl (r_assign (v := (.int .i64 ((x * (ns.length : Int)) + y))) rfl) ?_
  refine qe ?_
  refine s_then ?_
  refine s_seq ?_
  refine s_seq ?_
  refine c_reg ?_
  refine qd rfl rfl rfl (r_move (v := (.pointer (some ⟨o, 0, none⟩))) rfl) ?_
  refine qd rfl rfl rfl (r_nil rfl) ?_
  refine qd rfl rfl rfl (r_fldp (k := 1) rfl Tryd.underlying74 rfl nz38 rfl) ?_
  refine qd rfl rfl rfl (r_ldp1 (u := kv) ag38 rfl (hox.cell (o := 1) rfl)) ?_
  refine qd rfl rfl rfl (r_move (v := (.int .i64 ((x * (ns.length : Int)) + y))) rfl) ?_
  refine qd rfl rfl rfl (run_idx Tryd.underlying38 sz3 (v := kv) rfl rfl hok2.read (by omega) (by omega)) ?_
  refine qd rfl rfl rfl (run_load_int (r := ks.getD ((x * (ns.length : Int)) + y).toNat 0) rfl ag3 (z := ((x * (ns.length : Int)) + y)) rfl hok2.read (Gadd.pins hX0.pins kv) (by omega) (by omega)) ?_
  refine qd rfl rfl rfl (r_eql rfl rfl) ?_
  refine qe ?_
  refine s_then ?_
  refine c_ifd (p := (ks.getD ((x * (ns.length : Int)) + y).toNat 0 : Int) = 0) rfl rfl (fun h1 => ?_) (fun h1 => ?_)
  · skip
    refine s_seq ?_
    refine c_reg ?_
    refine qd rfl rfl rfl (r_move (v := (.pointer (some ⟨o, 0, none⟩))) rfl) ?_
    refine qd rfl rfl rfl (r_nil rfl) ?_
    refine qd rfl rfl rfl (r_fldp (k := 1) rfl Tryd.underlying74 rfl nz38 rfl) ?_
    refine qd rfl rfl rfl (r_ldp1 (u := kv) ag38 rfl (hox.cell (o := 1) rfl)) ?_
    refine qd rfl rfl rfl (r_move (v := (.int .i64 ((x * (ns.length : Int)) + y))) rfl) ?_
    refine qd rfl rfl rfl (run_idx Tryd.underlying38 sz3 (v := kv) rfl rfl hok2.read (by omega) (by omega)) ?_
    refine q0 rfl rfl rfl (o_set (E := eInt) (v := kv) (u := (.int .i64 2)) (z := ((x * (ns.length : Int)) + y)) (2) sz3 rfl rfl rfl rfl hX0.pins hok2 (by omega) (by omega) (fun w2 ho3 hp4 hg5 hz6 => ?_))
    have hX7 := hX0.write hp4 hg5 (hlok)
    have ho8 := hou.keptA hg5 hauk
    have ho9 := hov.keptA hg5 havk
    have hb10 := hbx.keptA hg5 habk
    have hb11 := hox.keptA hg5 haok
    have hm12 : ((ks).set ((x * (ns.length : Int)) + y).toNat 2).length = ks.length := List.length_set ..
    refine qe ?_
    refine s_then ?_
    refine s_seq ?_
    refine c_reg ?_
    refine qd rfl rfl rfl (r_move (v := (.pointer (some ⟨o, 0, none⟩))) rfl) ?_
    refine qd rfl rfl rfl (r_move (v := (.int .i64 x)) rfl) ?_
    refine qd rfl rfl rfl (r_move (v := (.int .i64 y)) rfl) ?_
    refine q1 rfl rfl rfl (o_call (vs := [(.pointer (some ⟨o, 0, none⟩)), (.int .i64 x), (.int .i64 y)]) Tryd.func84 nm84 rfl rfl rfl ?_)
    refine Calls.mono (look_spec hX7.pins ⟨⟨hb10, ho8, ho9, habu, habv, hauv⟩, hb11, ho3, haok, habk, hauk, havk⟩ hx hy (by rw [List.length_set]; exact hkl) hok ih (by omega) (KRes.prov hx hy hkok).1) ?_
    rintro _ w15 ⟨ks13, G14, rfl, hd16, hr17, hx18⟩
    refine ⟨_, rfl, ?_⟩
    have hX19 := hX7.trans hx18 (fun i hi => hlok i hi)
    have ho20 := ho8.extS hx18 (notO hauk)
    have ho21 := ho9.extS hx18 (notO havk)
    have hb22 := hb10.extS hx18 (notOb habk)
    have hb23 := hb11.extS hx18 (notOb haok)
    have hkl25 := hr17.len
    refine qe ?_
    refine s_then ?_
    refine c_if rfl rfl (fun h26 => ?_) (fun h26 => ?_)
    · skip
      refine c_reg ?_
      refine qd rfl rfl rfl (r_move (v := (.pointer (some ⟨o, 0, none⟩))) rfl) ?_
      refine qd rfl rfl rfl (r_nil rfl) ?_
      refine qd rfl rfl rfl (r_fldp (k := 1) rfl Tryd.underlying74 rfl nz38 rfl) ?_
      refine qd rfl rfl rfl (r_ldp1 (u := kv) ag38 rfl (hb23.cell (o := 1) rfl)) ?_
      refine qd rfl rfl rfl (r_move (v := (.int .i64 ((x * (ns.length : Int)) + y))) rfl) ?_
      refine qd rfl rfl rfl (run_idx Tryd.underlying38 sz3 (v := kv) rfl rfl hd16.ok.read (by omega) (by omega)) ?_
      refine q0 rfl rfl rfl (o_set (E := eInt) (v := kv) (u := (.int .i64 1)) (z := ((x * (ns.length : Int)) + y)) (1) sz3 rfl rfl rfl rfl hX19.pins hd16.ok (by omega) (by omega) (fun w27 ho28 hp29 hg30 hz31 => ?_))
      have hX32 := hX19.write hp29 hg30 (hlok)
      have ho33 := ho20.keptA hg30 hauk
      have ho34 := ho21.keptA hg30 havk
      have hb35 := hb22.keptA hg30 habk
      have hb36 := hb23.keptA hg30 haok
      have hm37 : ((ks13).set ((x * (ns.length : Int)) + y).toNat 1).length = ks13.length := List.length_set ..
      refine qe ?_
      refine s_then ?_
      refine s_seq ?_
      refine c_reg ?_
      refine qd rfl rfl rfl (r_move (v := (.pointer (some ⟨o, 0, none⟩))) rfl) ?_
      refine qd rfl rfl rfl (r_nil rfl) ?_
      refine qd rfl rfl rfl (r_fldp (k := 1) rfl Tryd.underlying74 rfl nz38 rfl) ?_
      refine qd rfl rfl rfl (r_ldp1 (u := kv) ag38 rfl (hb36.cell (o := 1) rfl)) ?_
      refine qd rfl rfl rfl (r_move (v := (.int .i64 ((x * (ns.length : Int)) + y))) rfl) ?_
      refine qd rfl rfl rfl (run_idx Tryd.underlying38 sz3 (v := kv) rfl rfl ho28.read (by omega) (by omega)) ?_
      refine qd rfl rfl rfl (run_load_int (r := ((ks13).set ((x * (ns.length : Int)) + y).toNat 1).getD ((x * (ns.length : Int)) + y).toNat 0) rfl ag3 (z := ((x * (ns.length : Int)) + y)) rfl ho28.read (Gadd.pins hX32.pins kv) (by omega) (by omega)) ?_
      refine qd rfl rfl rfl (r_eql rfl rfl) ?_
      refine qd rfl rfl rfl (r_assign (v := (.bool (decide ((((ks13).set ((x * (ns.length : Int)) + y).toNat 1).getD ((x * (ns.length : Int)) + y).toNat 0 : Int) = 1)))) rfl) ?_
      refine qe ?_
      refine s_then ?_
      refine wp_ret ?_
      refine s_ret ?_
      refine c_ret1 (v := (.bool (decide ((((ks13).set ((x * (ns.length : Int)) + y).toNat 1).getD ((x * (ns.length : Int)) + y).toNat 0 : Int) = 1)))) rfl rfl rfl ?_
      have htold := KRes.told hx hy hkl hkok hr17 (if_pos h26).symm
      exact ⟨_, _, congrArg (fun z => Ending.returned (Value.bool z)) htold.2, ⟨⟨hb35, ho33, ho34, habu, habv, hauv⟩, hb36, ho28, haok, habk, hauk, havk⟩, htold.1, hX32⟩
    refine wp_skip ?_
    refine s_then ?_
    refine s_seq ?_
    refine c_reg ?_
    refine qd rfl rfl rfl (r_move (v := (.pointer (some ⟨o, 0, none⟩))) rfl) ?_
    refine qd rfl rfl rfl (r_nil rfl) ?_
    refine qd rfl rfl rfl (r_fldp (k := 1) rfl Tryd.underlying74 rfl nz38 rfl) ?_
    refine qd rfl rfl rfl (r_ldp1 (u := kv) ag38 rfl (hb23.cell (o := 1) rfl)) ?_
    refine qd rfl rfl rfl (r_move (v := (.int .i64 ((x * (ns.length : Int)) + y))) rfl) ?_
    refine qd rfl rfl rfl (run_idx Tryd.underlying38 sz3 (v := kv) rfl rfl hd16.ok.read (by omega) (by omega)) ?_
    refine qd rfl rfl rfl (run_load_int (r := ks13.getD ((x * (ns.length : Int)) + y).toNat 0) rfl ag3 (z := ((x * (ns.length : Int)) + y)) rfl hd16.ok.read (Gadd.pins hX19.pins kv) (by omega) (by omega)) ?_
    refine qd rfl rfl rfl (r_eql rfl rfl) ?_
    refine qd rfl rfl rfl (r_assign (v := (.bool (decide ((ks13.getD ((x * (ns.length : Int)) + y).toNat 0 : Int) = 1)))) rfl) ?_
    refine qe ?_
    refine s_then ?_
    refine wp_ret ?_
    refine s_ret ?_
    refine c_ret1 (v := (.bool (decide ((ks13.getD ((x * (ns.length : Int)) + y).toNat 0 : Int) = 1)))) rfl rfl rfl ?_
    have htold := KRes.told hx hy hkl hkok hr17 (if_neg (by rw [h26]; decide)).symm
    exact ⟨_, _, congrArg (fun z => Ending.returned (Value.bool z)) htold.2, ⟨⟨hb22, ho20, ho21, habu, habv, hauv⟩, hb23, hd16.ok, haok, habk, hauk, havk⟩, htold.1, hX19⟩
  refine wp_skip ?_
  refine s_then ?_
  refine s_seq ?_
  refine c_reg ?_
  refine qd rfl rfl rfl (r_move (v := (.pointer (some ⟨o, 0, none⟩))) rfl) ?_
  refine qd rfl rfl rfl (r_nil rfl) ?_
  refine qd rfl rfl rfl (r_fldp (k := 1) rfl Tryd.underlying74 rfl nz38 rfl) ?_
  refine qd rfl rfl rfl (r_ldp1 (u := kv) ag38 rfl (hox.cell (o := 1) rfl)) ?_
  refine qd rfl rfl rfl (r_move (v := (.int .i64 ((x * (ns.length : Int)) + y))) rfl) ?_
  refine qd rfl rfl rfl (run_idx Tryd.underlying38 sz3 (v := kv) rfl rfl hok2.read (by omega) (by omega)) ?_
  refine qd rfl rfl rfl (run_load_int (r := ks.getD ((x * (ns.length : Int)) + y).toNat 0) rfl ag3 (z := ((x * (ns.length : Int)) + y)) rfl hok2.read (Gadd.pins hX0.pins kv) (by omega) (by omega)) ?_
  refine qd rfl rfl rfl (r_eql rfl rfl) ?_
  refine qd rfl rfl rfl (r_assign (v := (.bool (decide ((ks.getD ((x * (ns.length : Int)) + y).toNat 0 : Int) = 1)))) rfl) ?_
  refine qe ?_
  refine s_then ?_
  refine wp_ret ?_
  refine s_ret ?_
  refine c_ret1 (v := (.bool (decide ((ks.getD ((x * (ns.length : Int)) + y).toNat 0 : Int) = 1)))) rfl rfl rfl ?_
  exact ⟨_, _, congrArg (fun z => Ending.returned (Value.bool z)) (KOk.known hx hy hkok h1), ⟨⟨hbx, hou, hov, habu, habv, hauv⟩, hox, hok2, haok, habk, hauk, havk⟩, KRes.refl hkok, hX0⟩

theorem geq_all {o b : Nat} {bu bv kv : Value} {ns : List Nd} {bs : List Int} (hok : BookOk ns bs) : ∀ m, GeqC m o b bu bv kv ns bs
  | 0 => fun _ _ _ _ _ h _ => absurd h (Nat.not_lt_zero _)
  | m + 1 => fun hP hO hx hy hkl hm hk => geq_step hP hO hx hy hkl hok (geq_all hok m) hm hk
theorem geq_spec {w : World} {G : Pin} {o b : Nat} {bu bv kv : Value} {ns : List Nd} {bs : List Int} {ks : List Int} {x y : Int} (hP : Pins G w) (hO : Od 69 3 G w o b bu bv kv ns bs ks) (hx : 0 ≤ x ∧ x < ns.length) (hy : 0 ≤ y ∧ y < ns.length) (hkl : ks.length = ns.length * ns.length) (hok : BookOk ns bs) (hkok : KOk ns ks (x.toNat + y.toNat + 1)) :
    Calls Tryd.prog 60 [(.pointer (some ⟨o, 0, none⟩)), (.int .i64 x), (.int .i64 y)].toArray w fun e w' => ∃ (ks' : List Int) (G' : Pin), e = .returned (.bool (geB ns x y)) ∧ Od 69 3 G' w' o b bu bv kv ns bs ks' ∧ KRes ns ks ks' (x.toNat + y.toNat + 1) ∧ Ext (inO kv.ownBlock) G w G' w' :=
  geq_all hok _ hP hO hx hy hkl (Nat.lt_succ_self _) hkok

end OR1
end Go.Proofs.YtndhhpaldhlghaaDoor
