/- What each kind of operation comes to, told of heaps: rules for the logic of 'Core'. -/
import Derived.Test.YtjopikfkgjbcgaaGreatDoorCore
import Derived.WalkLawsBesides
import Derived.WalkSpells
import Derived.Stop.BytesEq
import Derived.Laws.BytesArg
import Derived.Lib.ConvBytes
import Derived.Maps.AppendAt
import Derived.Test.YtjopikfkgjbcgaaGreatDoorBase
namespace Go.Proofs.YtjopikfkgjbcgaaGreatDoor
set_option linter.unnecessarySimpa false
open Go.RowKit
set_option linter.unusedSimpArgs false
set_option linter.unusedVariables false
/-- The cell of an address. -/
def cellH (h : Heap) (b o : Nat) : Option Value := match h[b]? with | some (.cells c _ _) => c[o]? | _ => none
def frozenH (h : Heap) (b o : Nat) : Bool := match h[b]? with | some (.cells _ _ (lo, hi)) => lo ≤ o && o < hi | _ => false
theorem cell_cellH (w : World) (b o : Nat) : w.cell? ⟨b, o, none⟩ = cellH w.heap b o := by
  unfold World.cell? cellH
  split <;> simp_all
theorem frozen_frozenH (w : World) (b o : Nat) : w.frozen? ⟨b, o, none⟩ = frozenH w.heap b o := by
  unfold World.frozen? frozenH
  split <;> simp_all
theorem cellH_of {h : Heap} {b : Nat} {c : Array Value} {t : TypeId} {fr : Nat × Nat} (hb : h[b]? = some (.cells c t fr)) (o : Nat) : cellH h b o = c[o]? := by simp [cellH, hb]
theorem addr_add (b o n : Nat) : (⟨b, o, none⟩ : Addr).add n = ⟨b, o + n, none⟩ := by unfold Addr.add; split <;> simp_all
section
variable {P : Program} {ρ : Operand → Value} {h : Heap} {d : Option Tmp} {ty : TypeId} {pos : String} {af : Array Edge} {gd : Option (Nat × Bool)}
theorem Runs.move {x : Operand} {v : Value} (hx : ρ x = v) : Runs P ⟨d, .move x, ty, pos, af, gd⟩ ρ h v := fun w _ => by subst hx; rfl
theorem Runs.assign {x : Operand} {v : Value} (hx : ρ x = v) : Runs P ⟨d, .assign x, ty, pos, af, gd⟩ ρ h v := fun w _ => by subst hx; rfl
theorem Runs.pick {c x y : Operand} {t : Bool} {v : Value} (hc : ρ c = .bool t) (hv : (bif t then ρ x else ρ y) = v) : Runs P ⟨d, .pick c x y, ty, pos, af, gd⟩ ρ h v := fun w _ => by
  subst hv; simp [execOp, hc, asBool]
theorem Runs.nilc {x : Operand} {a : Addr} (hx : ρ x = .pointer (some a)) : Runs P ⟨d, .nilCheck x, ty, pos, af, gd⟩ ρ h (.pointer (some a)) := fun w _ => by
  simp [execOp, hx]
/-! ### Integers -/
section ints
variable {T T2 : TypeId} {x y : Operand} {k yk : IntKind} {a b c : Int} {t : Bool}
theorem guard_int (op : BinOp) (w : World) : (eqGuard op T x y (.int k a) (.int k b)).run P w = .ok () w := by
  unfold eqGuard
  cases op <;> simp
theorem guard_int2 (op : BinOp) (w : World) (hop : op = .shl ∨ op = .shr) : (eqGuard op T x y (.int k a) (.int yk b)).run P w = .ok () w := by
  unfold eqGuard
  rcases hop with rfl | rfl <;> simp
theorem Runs.add (hx : ρ x = .int k a) (hy : ρ y = .int k b) (hc : k.wrap (a + b) = c) : Runs P ⟨d, .binOp .add T x y T2, ty, pos, af, gd⟩ ρ h (.int k c) := fun w _ => by
  subst hc; simp [execOp, hx, hy, guard_int, binOp, Op.intArith, Sem.run_bind]
theorem Runs.sub (hx : ρ x = .int k a) (hy : ρ y = .int k b) (hc : k.wrap (a - b) = c) : Runs P ⟨d, .binOp .sub T x y T2, ty, pos, af, gd⟩ ρ h (.int k c) := fun w _ => by
  subst hc; simp [execOp, hx, hy, guard_int, binOp, Op.intArith, Sem.run_bind]
theorem Runs.mul (hx : ρ x = .int k a) (hy : ρ y = .int k b) (hc : k.wrap (a * b) = c) : Runs P ⟨d, .binOp .mul T x y T2, ty, pos, af, gd⟩ ρ h (.int k c) := fun w _ => by
  subst hc; simp [execOp, hx, hy, guard_int, binOp, Op.intArith, Sem.run_bind]
theorem Runs.quo (hx : ρ x = .int k a) (hy : ρ y = .int k b) (hb : b ≠ 0) (hc : k.wrap (a.tdiv b) = c) : Runs P ⟨d, .binOp .quo T x y T2, ty, pos, af, gd⟩ ρ h (.int k c) := fun w _ => by
  subst hc; simp [execOp, hx, hy, guard_int, binOp, Op.intDiv, Sem.run_bind, hb]
theorem Runs.rem (hx : ρ x = .int k a) (hy : ρ y = .int k b) (hb : b ≠ 0) (hc : a.tmod b = c) : Runs P ⟨d, .binOp .rem T x y T2, ty, pos, af, gd⟩ ρ h (.int k c) := fun w _ => by
  subst hc; simp [execOp, hx, hy, guard_int, binOp, Op.intDiv, Sem.run_bind, hb]
theorem Runs.and (hx : ρ x = .int k a) (hy : ρ y = .int k b) (hc : bits .and k a b = c) : Runs P ⟨d, .binOp .and T x y T2, ty, pos, af, gd⟩ ρ h (.int k c) := fun w _ => by
  subst hc; simp [execOp, hx, hy, guard_int, binOp, Op.intBits, Sem.run_bind, bits]
theorem Runs.or (hx : ρ x = .int k a) (hy : ρ y = .int k b) (hc : bits .or k a b = c) : Runs P ⟨d, .binOp .or T x y T2, ty, pos, af, gd⟩ ρ h (.int k c) := fun w _ => by
  subst hc; simp [execOp, hx, hy, guard_int, binOp, Op.intBits, Sem.run_bind, bits]
theorem Runs.xor (hx : ρ x = .int k a) (hy : ρ y = .int k b) (hc : bits .xor k a b = c) : Runs P ⟨d, .binOp .xor T x y T2, ty, pos, af, gd⟩ ρ h (.int k c) := fun w _ => by
  subst hc; simp [execOp, hx, hy, guard_int, binOp, Op.intBits, Sem.run_bind, bits]
theorem Runs.shl (hx : ρ x = .int k a) (hy : ρ y = .int yk b) (hb : 0 ≤ b) (hc : k.wrap (a * 2 ^ (min b.toNat k.bits)) = c) : Runs P ⟨d, .binOp .shl T x y T2, ty, pos, af, gd⟩ ρ h (.int k c) := fun w _ => by
  subst hc; simp [execOp, hx, hy, guard_int2, binOp, Op.shift, Sem.run_bind, Int.not_lt.2 hb]
theorem Runs.shr (hx : ρ x = .int k a) (hy : ρ y = .int yk b) (hb : 0 ≤ b) (hc : a.fdiv (2 ^ (min b.toNat k.bits)) = c) : Runs P ⟨d, .binOp .shr T x y T2, ty, pos, af, gd⟩ ρ h (.int k c) := fun w _ => by
  subst hc; simp [execOp, hx, hy, guard_int2, binOp, Op.shift, Sem.run_bind, Int.not_lt.2 hb]
theorem Runs.lss (hx : ρ x = .int k a) (hy : ρ y = .int k b) (hc : decide (a < b) = t) : Runs P ⟨d, .binOp .lss T x y T2, ty, pos, af, gd⟩ ρ h (.bool t) := fun w _ => by
  subst hc; simp [execOp, hx, hy, guard_int, binOp, Op.intCmp, Sem.run_bind]
theorem Runs.leq (hx : ρ x = .int k a) (hy : ρ y = .int k b) (hc : decide (a ≤ b) = t) : Runs P ⟨d, .binOp .leq T x y T2, ty, pos, af, gd⟩ ρ h (.bool t) := fun w _ => by
  subst hc; simp [execOp, hx, hy, guard_int, binOp, Op.intCmp, Sem.run_bind]
theorem Runs.gtr (hx : ρ x = .int k a) (hy : ρ y = .int k b) (hc : decide (a > b) = t) : Runs P ⟨d, .binOp .gtr T x y T2, ty, pos, af, gd⟩ ρ h (.bool t) := fun w _ => by
  subst hc; simp [execOp, hx, hy, guard_int, binOp, Op.intCmp, Sem.run_bind]
theorem Runs.geq (hx : ρ x = .int k a) (hy : ρ y = .int k b) (hc : decide (a ≥ b) = t) : Runs P ⟨d, .binOp .geq T x y T2, ty, pos, af, gd⟩ ρ h (.bool t) := fun w _ => by
  subst hc; simp [execOp, hx, hy, guard_int, binOp, Op.intCmp, Sem.run_bind]
theorem Runs.eql (hx : ρ x = .int k a) (hy : ρ y = .int k b) (hc : (a == b) = t) : Runs P ⟨d, .binOp .eql T x y T2, ty, pos, af, gd⟩ ρ h (.bool t) := fun w _ => by
  subst hc; simp [execOp, hx, hy, guard_int, binOp, Op.intCmp, Sem.run_bind]
theorem Runs.neq (hx : ρ x = .int k a) (hy : ρ y = .int k b) (hc : (a != b) = t) : Runs P ⟨d, .binOp .neq T x y T2, ty, pos, af, gd⟩ ρ h (.bool t) := fun w _ => by
  subst hc; simp [execOp, hx, hy, guard_int, binOp, Op.intCmp, Sem.run_bind]
theorem Runs.compl (hx : ρ x = .int k a) (hc : bits .xor k (if k.signed then -1 else k.max) a = c) : Runs P ⟨d, .unOp .xor T x, ty, pos, af, gd⟩ ρ h (.int k c) := fun w _ => by
  subst hc; simp [execOp, hx, Op.unary, Op.intBits, Sem.run_bind, bits]
theorem Runs.neg (hx : ρ x = .int k a) (hc : k.wrap (0 - a) = c) : Runs P ⟨d, .unOp .neg T x, ty, pos, af, gd⟩ ρ h (.int k c) := fun w _ => by
  subst hc; simp [execOp, hx, Op.unary, Op.intArith, Sem.run_bind]
theorem Runs.notb (hx : ρ x = .bool t) {u : Bool} (hc : (!t) = u) : Runs P ⟨d, .unOp .not T x, ty, pos, af, gd⟩ ρ h (.bool u) := fun w _ => by
  subst hc; simp [execOp, hx, Op.unary, Sem.run_bind]
theorem Runs.conv {ds : TypeDesc} (h1 : P.underlying T = some ds) (h2 : P.underlying T2 = some (.int k)) (hx : ρ x = .int yk a) (hc : k.wrap a = c) : Runs P ⟨d, .convert T T2 x, ty, pos, af, gd⟩ ρ h (.int k c) := fun w _ => by
  subst hc; simp [execOp, hx, convert, Sem.run_bind, run_underlying h1, run_underlying h2, Conv.intToInt]
end ints
/-! ### Addresses -/
section addrs
variable {T : TypeId} {x y : Operand} {b o o' : Nat}
theorem run_sizeOf {e s : Nat} (hs : (P.info? e).map (·.size) = some s) (w : World) : (sizeOf e).run P w = .ok s w := by
  cases hq : P.info? e with
  | none => simp [hq] at hs
  | some i => simp [hq] at hs; subst hs; simp [sizeOf, typeInfo, Sem.run_bind, hq]
theorem Runs.ixArr {len e s : Nat} {k : IntKind} {a : Int} (hu : P.underlying T = some (.array len e)) (hs : (P.info? e).map (·.size) = some s) (hx : ρ x = .pointer (some ⟨b, o, none⟩)) (hy : ρ y = .int k a) (h0 : 0 ≤ a) (h1 : a < len) (hc : o + a.toNat * s = o') :
    Runs P ⟨d, .indexAddr T x y, ty, pos, af, gd⟩ ρ h (.pointer (some ⟨b, o', none⟩)) := fun w _ => by
  subst hc
  simp [execOp, hx, hy, Instr.indexAt, Sem.run_bind, asIntOf, run_underlying hu, Instr.sureAddr, h0, h1, run_sizeOf hs, addr_add]
theorem Runs.ixSl {len cap e s : Nat} {k : IntKind} {a : Int} (hu : P.underlying T = some (.slice e)) (hs : (P.info? e).map (·.size) = some s) (hx : ρ x = .slice (some ⟨b, o, none⟩) len cap) (hy : ρ y = .int k a) (h0 : 0 ≤ a) (h1 : a < len) (hc : o + a.toNat * s = o') :
    Runs P ⟨d, .indexAddr T x y, ty, pos, af, gd⟩ ρ h (.pointer (some ⟨b, o', none⟩)) := fun w _ => by
  subst hc
  simp [execOp, hx, hy, Instr.indexAt, Sem.run_bind, asIntOf, run_underlying hu, h0, h1, run_sizeOf hs, addr_add]
theorem Runs.fld {fs : Array Field} {i s : Nat} {F : Field} (hu : P.underlying T = some (.struct fs)) (hf : fs[i]? = some F) (hs : (P.info? F.type).map (·.size) = some s) (hs0 : s ≠ 0) (hx : ρ x = .pointer (some ⟨b, o, none⟩)) (hc : o + F.offset = o') :
    Runs P ⟨d, .fieldAddr T x i, ty, pos, af, gd⟩ ρ h (.pointer (some ⟨b, o', none⟩)) := fun w _ => by
  subst hc
  simp [execOp, hx, Instr.fieldAt, Sem.run_bind, run_underlying hu, hf, Instr.sureAddr, fieldPlace, run_sizeOf hs, hs0, addr_add]
/-- A scalar's type. -/
def isScalar (ds : TypeDesc) : Bool := match ds with | .struct _ | .array _ _ => false | _ => true
theorem run_isAgg {ds : TypeDesc} (hu : P.underlying T = some ds) (w : World) : (isAgg T).run P w = .ok (!isScalar ds) w := by
  unfold isAgg
  rw [Sem.run_bind, run_underlying hu w]
  cases ds <;> rfl
theorem Runs.load {ds : TypeDesc} {v : Value} (hu : P.underlying T = some ds) (hsc : isScalar ds = true) (hx : ρ x = .pointer (some ⟨b, o, none⟩)) (hc : cellH h b o = some v) : Runs P ⟨d, .load T x, ty, pos, af, gd⟩ ρ h v := fun w hw => by
  have h1 : w.cell? ⟨b, o, none⟩ = some v := by rw [cell_cellH, hw]; exact hc
  simp [execOp, hx, Instr.loadAt, Instr.sureAddr, Sem.run_bind, loadVar, run_isAgg hu, hsc, load, Sem.run, h1]
theorem run_loadCellsH (w : World) (cs : List Value) (hc : ∀ j v, cs[j]? = some v → cellH w.heap b (o + j) = some v) : (loadCells ⟨b, o, none⟩ cs.length).run P w = .ok cs.toArray w :=
  run_loadCells_list w ⟨b, o, none⟩ cs fun j v hv => by rw [addr_add, cell_cellH]; exact hc j v hv
theorem Runs.loadAgg {n : Nat} {ds : TypeDesc} {cs : List Value} (hu : P.underlying T = some ds) (hsc : isScalar ds = false) (hs : (P.info? T).map (·.size) = some n) (hx : ρ x = .pointer (some ⟨b, o, none⟩)) (hn : cs.length = n) (hc : ∀ j v, cs[j]? = some v → cellH h b (o + j) = some v) :
    Runs P ⟨d, .load T x, ty, pos, af, gd⟩ ρ h (.agg cs.toArray) := fun w hw => by
  subst hw
  subst hn
  simp [execOp, hx, Instr.loadAt, Instr.sureAddr, Sem.run_bind, loadVar, run_isAgg hu, hsc, run_sizeOf hs, run_loadCellsH w cs hc]
theorem Runs.ixAgg {len e : Nat} {k : IntKind} {a : Int} {ds : TypeDesc} {cs : Array Value} {v : Value} (hu : P.underlying T = some (.array len e)) (hue : P.underlying e = some ds) (hsc : isScalar ds = true) (hs : (P.info? e).map (·.size) = some 1) (hx : ρ x = .agg cs) (hy : ρ y = .int k a) (h0 : 0 ≤ a) (h1 : a < len) (hv : cs[a.toNat]? = some v) :
    Runs P ⟨d, .index T x y, ty, pos, af, gd⟩ ρ h v := fun w _ => by
  simp [execOp, hx, hy, Instr.index, Sem.run_bind, asIntOf, run_underlying hu, h0, h1, run_sizeOf hs, part, run_isAgg hue, hsc, hv]
theorem Runs.ixStr {k : IntKind} {a : Int} {s : ByteArray} {c : UInt8} (hu : P.underlying T = some .string) (hx : ρ x = .string s) (hy : ρ y = .int k a) (h0 : 0 ≤ a) (hv : s[a.toNat]? = some c) :
    Runs P ⟨d, .index T x y, ty, pos, af, gd⟩ ρ h (.int .u8 c.toNat) := fun w _ => by
  simp [execOp, hx, hy, Instr.index, Sem.run_bind, asIntOf, run_underlying hu, h0, hv]
theorem Runs.field {fs : Array Field} {i : Nat} {F : Field} {ds : TypeDesc} {cs : Array Value} {v : Value} (hu : P.underlying T = some (.struct fs)) (hf : fs[i]? = some F) (hue : P.underlying F.type = some ds) (hsc : isScalar ds = true) (hx : ρ x = .agg cs) (hv : cs[F.offset]? = some v) :
    Runs P ⟨d, .field T x i, ty, pos, af, gd⟩ ρ h v := fun w _ => by
  simp [execOp, hx, Instr.field, Sem.run_bind, run_underlying hu, hf, asAgg, part, run_isAgg hue, hsc, hv]
theorem Runs.build {ps : Array (Nat × Operand)} {v : Value} (hb : ∀ w, (Instr.build T (ps.map fun (i, x) => (i, ρ x))).run P w = .ok v w) : Runs P ⟨d, .build T ps, ty, pos, af, gd⟩ ρ h v := fun w _ => by
  have h1 := hb w
  simp only [execOp, Sem.run_bind, h1]
  rfl
end addrs
end
/-! ### Writes, and new blocks -/
/-- h' is h with block b turned into o. -/
structure Wr (h h' : Heap) (b : Nat) (o : Obj) : Prop where
  size : h'.size = h.size
  new : h'[b]? = some o
  old : ∀ j, j ≠ b → h'[j]? = h[j]?
/-- h' is h with one block more. -/
structure Nw (h h' : Heap) (o : Obj) : Prop where
  size : h'.size = h.size + 1
  new : h'[h.size]? = some o
  old : ∀ j, j < h.size → h'[j]? = h[j]?
theorem lt_of_some {h : Heap} {b : Nat} {o : Obj} (hb : h[b]? = some o) : b < h.size := (Array.getElem?_eq_some_iff.1 hb).1
theorem Wr.keep {h h' : Heap} {b : Nat} {o : Obj} (k : Wr h h' b o) {j : Nat} {x : Obj} (hj : h[j]? = some x) (hne : j ≠ b) : h'[j]? = some x := (k.old j hne).trans hj
theorem Nw.keep {h h' : Heap} {o : Obj} (k : Nw h h' o) {j : Nat} {x : Obj} (hj : h[j]? = some x) : h'[j]? = some x := (k.old j (lt_of_some hj)).trans hj
theorem Nw.push (h : Heap) (o : Obj) : Nw h (h.push o) o := ⟨by simp, by simp, fun j hj => by rw [Array.getElem?_push, if_neg (by omega)]⟩
/-- Below N the heap h' is as h was. -/
structure Bel (N : Nat) (h h' : Heap) : Prop where
  size : h.size ≤ h'.size
  old : ∀ j, j < N → h'[j]? = h[j]?
theorem Bel.refl (N : Nat) (h : Heap) : Bel N h h := ⟨Nat.le_refl _, fun _ _ => rfl⟩
theorem Bel.trans {N : Nat} {a b c : Heap} (x : Bel N a b) (y : Bel N b c) : Bel N a c := ⟨Nat.le_trans x.size y.size, fun j hj => (y.old j hj).trans (x.old j hj)⟩
theorem Bel.mono {N M : Nat} {a b : Heap} (x : Bel N a b) (h : M ≤ N) : Bel M a b := ⟨x.size, fun j hj => x.old j (by omega)⟩
theorem Bel.wr {N : Nat} {a h h' : Heap} {b : Nat} {o : Obj} (x : Bel N a h) (k : Wr h h' b o) (hb : N ≤ b) : Bel N a h' := ⟨by rw [k.size]; exact x.size, fun j hj => (k.old j (by omega)).trans (x.old j hj)⟩
theorem Bel.nw {N : Nat} {a h h' : Heap} {o : Obj} (x : Bel N a h) (k : Nw h h' o) (hN : N ≤ a.size) : Bel N a h' := ⟨by rw [k.size]; have := x.size; omega, fun j hj => (k.old j (by have := x.size; omega)).trans (x.old j hj)⟩
theorem Bel.keep {N : Nat} {h h' : Heap} (x : Bel N h h') {j : Nat} {o : Obj} (hj : h[j]? = some o) (hlt : j < N) : h'[j]? = some o := (x.old j hlt).trans hj
/-- All that was there is as it was. -/
abbrev Ext (h h' : Heap) : Prop := Bel h.size h h'
theorem Bel.keepE {h h' : Heap} (x : Ext h h') {j : Nat} {o : Obj} (hj : h[j]? = some o) : h'[j]? = some o := (x.old j (lt_of_some hj)).trans hj
theorem Bel.ext {N : Nat} {a h h' : Heap} (x : Bel N a h) (k : Ext h h') (hN : N ≤ a.size) : Bel N a h' := x.trans (k.mono (Nat.le_trans hN x.size))
theorem Nw.ext {h h' : Heap} {o : Obj} (k : Nw h h' o) : Ext h h' := ⟨by rw [k.size]; omega, k.old⟩
theorem below_of {w w' : World} (r : Rest w w') (x : Ext w.heap w'.heap) : Below w.heap.size w w' := ⟨r.os, r.tape, r.output, x.size, x.old⟩
theorem bel_of_below {w w' : World} (x : Below w.heap.size w w') : Rest w w' ∧ Ext w.heap w'.heap := ⟨⟨x.os, x.tape, x.output⟩, ⟨x.size, x.block⟩⟩
/-- Cells of a block that is known whole. -/
theorem cellH_map {α : Type} {f : α → Value} {h : Heap} {b j : Nat} {l : List α} {t : TypeId} {fr : Nat × Nat} (z : α) (hb : h[b]? = some (.cells (l.map f).toArray t fr)) (hj : j < l.length) : cellH h b j = some (f (l.getD j z)) := by
  rw [cellH_of hb]; simp [List.getElem?_eq_getElem hj]
theorem cellH_list {h : Heap} {b j : Nat} {l : List Value} {v : Value} {t : TypeId} {fr : Nat × Nat} (hb : h[b]? = some (.cells l.toArray t fr)) (hj : l[j]? = some v) : cellH h b j = some v := by
  rw [cellH_of hb]; simpa using hj
theorem load_blk {h : Heap} {b : Nat} {l : List Value} {t : TypeId} {fr : Nat × Nat} (hb : h[b]? = some (.cells l.toArray t fr)) : ∀ j v, l[j]? = some v → cellH h b (0 + j) = some v := by
  intro j v hv
  rw [cellH_of hb]; simpa using hv
theorem load_mid {h : Heap} {b o : Nat} {x l y : List Value} {t : TypeId} {fr : Nat × Nat} (hb : h[b]? = some (.cells (x ++ l ++ y).toArray t fr)) (ho : x.length = o) : ∀ j v, l[j]? = some v → cellH h b (o + j) = some v := by
  intro j v hv
  have hl := (List.getElem?_eq_some_iff.1 hv).1
  rw [cellH_of hb, List.getElem?_toArray, List.append_assoc, List.getElem?_append_right (by omega), List.getElem?_append_left (by omega), ← ho]
  rw [show x.length + j - x.length = j by omega]; exact hv
/-- From a contract of the kit's. -/
theorem CH.of_below {P : Program} {fn : FuncId} {args : Array Value} {h : Heap} {K : Value → Heap → Prop} {v : Value} (c : ∀ w : World, w.heap = h → Calls P fn args w fun e w' => e = .returned v ∧ Below w.heap.size w w') (k : ∀ h', Ext h h' → K v h') : CH P fn args h K :=
  fun w hw => (c w hw).mono fun _ w' ⟨he, e⟩ => ⟨v, he, (bel_of_below e).1, k _ (by have := (bel_of_below e).2; rwa [hw] at this)⟩
section writes
variable {P : Program} {ρ : Operand → Value} {h : Heap} {d : Option Tmp} {ty : TypeId} {pos : String} {af : Array Edge} {gd : Option (Nat × Bool)} {K : Value → Heap → Prop} {T : TypeId} {x y : Operand} {b o : Nat}
theorem heap_alloc (w : World) (ob : Obj) : (w.alloc ob).heap = w.heap.push ob := rfl
theorem HO.alloc {z : Value} (hz : (P.info? T).map (·.zero) = some (some z)) (k : ∀ h', Nw h h' (.cells z.cells T (0, 0)) → K (.pointer (some ⟨h.size, 0, none⟩)) h') : HO P ⟨d, .alloc T, ty, pos, af, gd⟩ ρ h K := by
  intro w hw
  cases hq : P.info? T with
  | none => simp [hq] at hz
  | some i =>
    simp [hq] at hz
    have hzr : (zeroValue T).run P w = .ok z w := by simp [zeroValue, typeInfo, Sem.run_bind, hq, hz]
    have : (execOp ρ ⟨d, .alloc T, ty, pos, af, gd⟩).run P w = .ok (.value (.pointer (some ⟨w.heap.size, 0, none⟩))) (w.alloc (.cells z.cells T)) := by
      simp only [execOp, Instr.alloc, Sem.run_bind, hzr, Result.andThen_ok, newVar, newRow]
      rfl
    rw [this]
    refine ⟨⟨rfl, rfl, rfl⟩, ?_⟩
    rw [hw, heap_alloc, hw]
    exact k _ (Nw.push _ _)
theorem HO.box {v : Value} (hx : ρ x = v) (k : ∀ h', Nw h h' (.cells v.cells T (0, 0)) → K (.pointer (some ⟨h.size, 0, none⟩)) h') : HO P ⟨d, .box T x, ty, pos, af, gd⟩ ρ h K := by
  intro w hw
  have : (execOp ρ ⟨d, .box T x, ty, pos, af, gd⟩).run P w = .ok (.value (.pointer (some ⟨w.heap.size, 0, none⟩))) (w.alloc (.cells v.cells T)) := by
    simp only [execOp, Instr.box, hx, newVar, newRow]
    rfl
  rw [this]
  refine ⟨⟨rfl, rfl, rfl⟩, ?_⟩
  rw [hw, heap_alloc, hw]
  exact k _ (Nw.push _ _)
theorem wr_setCell {w : World} {l : List Value} {t : TypeId} {fr : Nat × Nat} (hb : w.heap[b]? = some (.cells l.toArray t fr)) (v : Value) : Wr w.heap (w.setCell ⟨b, o, none⟩ v).heap b (.cells (l.set o v).toArray t fr) := by
  have hlt := lt_of_some hb
  refine ⟨by simp [World.setCell], ?_, fun j hj => heap_setCell_other w _ j v hj⟩
  simp only [World.setCell, Array.getElem?_modify, if_true, hb, Option.map_some]
  simp
theorem HO.store {v : Value} {s : Nat} {l : List Value} {t : TypeId} {fr : Nat × Nat} (hs : (P.info? T).map (·.size) = some 1) (hx : ρ x = .pointer (some ⟨b, o, none⟩)) (hy : ρ y = v) (h1 : v.oneCell' = true)
    (hb : h[b]? = some (.cells l.toArray t fr)) (hi : o < l.length) (hfr : (fr.1 ≤ o && o < fr.2) = false) (k : ∀ h', Wr h h' b (.cells (l.set o v).toArray t fr) → K undef h') : HO P ⟨d, .store T x y, ty, pos, af, gd⟩ ρ h K := by
  intro w hw
  subst hw
  have hc : w.cell? ⟨b, o, none⟩ = some l[o] := by rw [cell_cellH, cellH_of hb]; simp [hi]
  have hf : w.frozen? ⟨b, o, none⟩ = false := by
    rw [frozen_frozenH]
    obtain ⟨lo, hh⟩ := fr
    simp only [frozenH, hb]
    exact hfr
  have hcs : v.cells = #[v] := by cases v <;> first | rfl | simp [Value.oneCell'] at h1
  have h2 : (storeVar T ⟨b, o, none⟩ v).run P w = .ok () (w.setCell ⟨b, o, none⟩ v) := by
    simp [storeVar, Sem.run_bind, run_sizeOf hs, hcs, storeCells, addr_add, run_store P w _ v _ h1, hc, hf]
  have : (execOp ρ ⟨d, .store T x y, ty, pos, af, gd⟩).run P w = .ok .skip (w.setCell ⟨b, o, none⟩ v) := by
    simp [execOp, hx, hy, Instr.storeAt, Instr.sureAddr, Sem.run_bind, h2]
  rw [this]
  exact ⟨⟨rfl, rfl, rfl⟩, k _ (wr_setCell hb v)⟩
theorem wr_setRow {w : World} {g : Nat} {cur cs : Array Value} {t : TypeId} {fr : Nat × Nat} (hg : w.heap[g]? = some (.cells cur t fr)) : Wr w.heap (w.setRow g cs).heap g (.cells cs t fr) :=
  ⟨by simp, setRow_heap w g cur cs t fr hg, fun j hj => setRow_other w g j cs hj⟩
theorem HO.storeAgg {n : Nat} {cs l : List Value} {t : TypeId} (hs : (P.info? T).map (·.size) = some n) (hx : ρ x = .pointer (some ⟨b, o, none⟩)) (hy : ρ y = .agg cs.toArray) (h1 : ∀ v ∈ cs, v.oneCell' = true)
    (hb : h[b]? = some (.cells l.toArray t (0, 0))) (hn : cs.length = n) (hi : o + n ≤ l.length) (k : ∀ h', Wr h h' b (.cells (l.take o ++ cs ++ l.drop (o + n)).toArray t (0, 0)) → K undef h') : HO P ⟨d, .store T x y, ty, pos, af, gd⟩ ρ h K := by
  intro w hw
  subst hw
  subst hn
  have h2 := run_storeCells_at P b o t cs 0 l.toArray w hb (by simpa using hi) h1
  have : (execOp ρ ⟨d, .store T x y, ty, pos, af, gd⟩).run P w = .ok .skip (w.setRow b (l.take o ++ cs ++ l.drop (o + cs.length)).toArray) := by
    simp [execOp, hx, hy, Instr.storeAt, Instr.sureAddr, Sem.run_bind, storeVar, run_sizeOf hs, Value.cells] at h2 ⊢
    rw [h2]
    rfl
  rw [this]
  exact ⟨⟨rfl, rfl, rfl⟩, k _ (wr_setRow hb)⟩
/-- A whole block's. -/
theorem HO.storeAll {n : Nat} {cs l : List Value} {t : TypeId} (hs : (P.info? T).map (·.size) = some n) (hx : ρ x = .pointer (some ⟨b, 0, none⟩)) (hy : ρ y = .agg cs.toArray) (h1 : ∀ v ∈ cs, v.oneCell' = true)
    (hb : h[b]? = some (.cells l.toArray t (0, 0))) (hn : cs.length = n) (hl : l.length = n) (k : ∀ h', Wr h h' b (.cells cs.toArray t (0, 0)) → K undef h') : HO P ⟨d, .store T x y, ty, pos, af, gd⟩ ρ h K := by
  refine HO.storeAgg hs hx hy h1 hb hn (by omega) fun h' w => k h' ?_
  have e : l.take 0 ++ cs ++ l.drop (0 + n) = cs := by rw [List.drop_of_length_le (by omega)]; simp
  rwa [e] at w
theorem args0 {ρ : Operand → Value} : (#[] : Array Operand).map ρ = #[] := by simp
theorem args1 {ρ : Operand → Value} {x : Operand} {v : Value} (hx : ρ x = v) : #[x].map ρ = #[v] := by simp [hx]
theorem args2 {ρ : Operand → Value} {x y : Operand} {v u : Value} (hx : ρ x = v) (hy : ρ y = u) : #[x, y].map ρ = #[v, u] := by simp [hx, hy]
theorem args3 {ρ : Operand → Value} {x y z : Operand} {v u t : Value} (hx : ρ x = v) (hy : ρ y = u) (hz : ρ z = t) : #[x, y, z].map ρ = #[v, u, t] := by simp [hx, hy, hz]
theorem args4 {ρ : Operand → Value} {x y z q : Operand} {v u t s : Value} (hx : ρ x = v) (hy : ρ y = u) (hz : ρ z = t) (hq : ρ q = s) : #[x, y, z, q].map ρ = #[v, u, t, s] := by simp [hx, hy, hz, hq]
/-- A call of a Go function that is named. -/
theorem run_call {fn : FuncId} {F : Func} {as : Array Operand} {ats : Array TypeId} {args : Array Value} (hF : P.funcs[fn]? = some F) (hb : F.body.isNone = false) (hn : (F.name == "runtime.NumGoroutine") = false) (ha : as.map ρ = args) (hf : ρ (.func fn) = .func (.func fn) #[] #[]) (w : World) :
    (execOp ρ ⟨d, .call { callee := .value (.func fn), args := as, argTypes := ats }, ty, pos, af, gd⟩).run P w = .ok (.enter fn args) w := by
  subst ha
  have hn' : F.name ≠ "runtime.NumGoroutine" := by simpa using hn
  have hb' : F.body ≠ none := by intro e; rw [e] at hb; cases hb
  simp [execOp, resolve, hf, Deferred.ofValue, invoke, callFunc, Sem.run_bind, hF, hn', hb']
theorem HO.call {fn : FuncId} {F : Func} {as : Array Operand} {ats : Array TypeId} {args : Array Value} (hF : P.funcs[fn]? = some F) (hb : F.body.isNone = false) (hn : (F.name == "runtime.NumGoroutine") = false) (ha : as.map ρ = args) (hf : ρ (.func fn) = .func (.func fn) #[] #[])
    (k : CH P fn args h K) : HO P ⟨d, .call { callee := .value (.func fn), args := as, argTypes := ats }, ty, pos, af, gd⟩ ρ h K := by
  intro w hw
  rw [run_call hF hb hn ha hf]
  exact ⟨Rest.refl _, hw ▸ k⟩
theorem Runs.lenSl {b0 : Option Addr} {len cap : Nat} {e : TypeId} {ats : Array TypeId} (ht : ats = #[T]) (hu : P.underlying T = some (.slice e)) (hx : ρ x = .slice b0 len cap) : Runs P ⟨d, .call { callee := .builtin .len, args := #[x], argTypes := ats }, ty, pos, af, gd⟩ ρ h (.int .i64 len) := fun w _ => by
  subst ht
  simp [BigFrame.execOp_builtin, BigFrame.builtin_len, hx, Builtin.len_, Sem.run_bind, run_underlying hu, goInt]
end writes
/-! ### Slices -/
/-- A world of this heap. -/
def wOf (h : Heap) : World := { heap := h, tape := fun _ _ => 0, drawn := 0, os := default, output := #[] }
/-- The slice 'v' of n elements owns the cells xs, in a block from 'base' on. -/
def Own (h : Heap) (base : Nat) (e : TypeId) (size : Nat) (v : Value) (n : Nat) (xs : List Value) : Prop := (wOf h).ownsRow base e size v n xs
/-- h' is h with blocks more, and with block 'row' turned. -/
structure Gr (h h' : Heap) (row : Option Nat) : Prop where
  size : h.size ≤ h'.size
  old : ∀ k, k < h.size → some k ≠ row → h'[k]? = h[k]?
theorem Gr.keep {h h' : Heap} {row : Option Nat} (x : Gr h h' row) {j : Nat} {o : Obj} (hj : h[j]? = some o) (hne : some j ≠ row) : h'[j]? = some o := (x.old j (lt_of_some hj) hne).trans hj
theorem Own.nil (h : Heap) (base : Nat) (e : TypeId) (size : Nat) : Own h base e size (.slice none 0 0) 0 [] := World.ownsRow_nil _ _ _ _
theorem Own.lt {h : Heap} {base : Nat} {e : TypeId} {size : Nat} {v : Value} {n : Nat} {xs : List Value} (x : Own h base e size v n xs) : ∀ k, v.ownBlock = some k → base ≤ k ∧ k < h.size := World.ownsRow.lt x
theorem Own.len {h : Heap} {base : Nat} {e : TypeId} {size : Nat} {v : Value} {n : Nat} {xs : List Value} (x : Own h base e size v n xs) : xs.length = n * size := x.1
/-- An owned slice stays so while other blocks are written. -/
theorem Own.keep {h h' : Heap} {base : Nat} {e : TypeId} {size : Nat} {v : Value} {n : Nat} {xs : List Value} (x : Own h base e size v n xs) (hk : ∀ k, v.ownBlock = some k → h'[k]? = h[k]?) : Own h' base e size v n xs := by
  refine ⟨x.1, ?_⟩
  rcases x.2 with hn | ⟨g, cap, cur, rfl, hb, hg, rest⟩
  · exact .inl hn
  · exact .inr ⟨g, cap, cur, rfl, hb, (hk g rfl).trans hg, rest⟩
theorem Own.wr {h h' : Heap} {base : Nat} {e : TypeId} {size : Nat} {v : Value} {n : Nat} {xs : List Value} {b : Nat} {o : Obj} (x : Own h base e size v n xs) (k : Wr h h' b o) (hne : v.ownBlock ≠ some b) : Own h' base e size v n xs :=
  x.keep fun j hj => k.old j (fun e => hne (by rw [hj, e]))
theorem Own.nw {h h' : Heap} {base : Nat} {e : TypeId} {size : Nat} {v : Value} {n : Nat} {xs : List Value} {o : Obj} (x : Own h base e size v n xs) (k : Nw h h' o) : Own h' base e size v n xs :=
  x.keep fun j hj => k.old j (x.lt j hj).2
theorem Own.bel {h h' : Heap} {base : Nat} {e : TypeId} {size : Nat} {v : Value} {n : Nat} {xs : List Value} (x : Own h base e size v n xs) (k : Ext h h') : Own h' base e size v n xs :=
  x.keep fun j hj => k.old j (x.lt j hj).2
theorem Own.gr {h h' : Heap} {base : Nat} {e : TypeId} {size : Nat} {v : Value} {n : Nat} {xs : List Value} {row : Option Nat} (x : Own h base e size v n xs) (k : Gr h h' row) (hne : v.ownBlock = none ∨ v.ownBlock ≠ row) : Own h' base e size v n xs :=
  x.keep fun j hj => k.old j (x.lt j hj).2 (fun e => by rcases hne with h | h; · rw [h] at hj; cases hj
                                                        · exact h (hj.trans e))
/-- What an owned slice is. -/
theorem Own.cases {h : Heap} {base : Nat} {e : TypeId} {size : Nat} {v : Value} {n : Nat} {xs : List Value} (x : Own h base e size v n xs) : (v = .slice none 0 0 ∧ n = 0 ∧ xs = []) ∨ ∃ g cap, v = .slice (some ⟨g, 0, none⟩) n cap ∧ base ≤ g ∧ n ≤ cap ∧ cap ≤ maxLen ∧ ∀ j u, xs[j]? = some u → cellH h g j = some u := by
  rcases x.2 with ⟨h1, h2⟩ | ⟨g, cap, cur, h1, hb, hg, hn, hc, hs, ht⟩
  · refine .inl ⟨h1, h2, ?_⟩
    have := x.1
    rw [h2, Nat.zero_mul] at this
    exact List.length_eq_zero_iff.1 this
  · refine .inr ⟨g, cap, h1, hb, hn, hc, fun j u hu => ?_⟩
    have hg' : h[g]? = some (.cells cur e (0, 0)) := hg
    rw [cellH_of hg']
    rw [← ht, List.getElem?_take] at hu
    split at hu
    · simpa using hu
    · cases hu
theorem Bel.gr {N : Nat} {a h h' : Heap} {row : Option Nat} (x : Bel N a h) (k : Gr h h' row) (hN : N ≤ a.size) (hr : ∀ j, row = some j → N ≤ j) : Bel N a h' :=
  ⟨Nat.le_trans x.size k.size, fun j hj => (k.old j (by have := x.size; omega) (fun e => by have := hr j e.symm; omega)).trans (x.old j hj)⟩
/-- An operand that gives a slice's bound; none: what is left out. -/
def IsB (ρ : Operand → Value) (dflt : Nat) : Option Operand → Nat → Prop
  | none, n => n = dflt
  | some y, n => ∃ k, ρ y = .int k (n : Int)
theorem run_sliceBound {P : Program} {k : IntKind} {n y : Nat} (h : n ≤ y) (c : BoundsCode) (w : World) : (Instr.sliceBound (.int k (n : Int)) y c).run P w = .ok n w := by
  simp [Instr.sliceBound, asIntOf, Sem.run_bind, h]
theorem run_sliceBounds {P : Program} {ρ : Operand → Value} {s : Bool} {len cap lo hi : Nat} {low high : Option Operand} (hl : IsB ρ 0 low lo) (hh : IsB ρ len high hi) (h1 : lo ≤ hi) (h2 : hi ≤ cap) (w : World) :
    (Instr.sliceBounds s len cap (low.map ρ) (high.map ρ) none).run P w = .ok (lo, hi, cap) w := by
  unfold Instr.sliceBounds
  cases low with
  | none =>
    simp only [IsB] at hl; subst hl
    cases high with
    | none => simp only [IsB] at hh; subst hh; simp [Sem.run_bind]
    | some y => obtain ⟨k, hk⟩ := hh; simp [Sem.run_bind, hk, run_sliceBound h2]
  | some x =>
    obtain ⟨k, hk⟩ := hl
    cases high with
    | none => simp only [IsB] at hh; subst hh; simp [Sem.run_bind, hk, run_sliceBound h1]
    | some y => obtain ⟨k', hk'⟩ := hh; simp [Sem.run_bind, hk, hk', run_sliceBound h1, run_sliceBound h2]
section slices
variable {P : Program} {ρ : Operand → Value} {h : Heap} {d : Option Tmp} {ty : TypeId} {pos : String} {af : Array Edge} {gd : Option (Nat × Bool)} {K : Value → Heap → Prop} {T : TypeId} {x y : Operand} {b o : Nat}
theorem Runs.sliceArr {n e s lo hi : Nat} {low high : Option Operand} {a' : Addr} (hu : P.underlying T = some (.array n e)) (hs : (P.info? e).map (·.size) = some s) (hx : ρ x = .pointer (some ⟨b, o, none⟩)) (hl : IsB ρ 0 low lo) (hh : IsB ρ n high hi) (h1 : lo ≤ hi) (h2 : hi ≤ n)
    (ha : (if n = lo then ⟨b, o, none⟩ else (⟨b, o + lo * s, none⟩ : Addr)) = a') : Runs P ⟨d, .slice T x low high none, ty, pos, af, gd⟩ ρ h (.slice (some a') (hi - lo) (n - lo)) := fun w _ => by
  subst ha
  simp [execOp, hx, Instr.sliceAt, Sem.run_bind, run_underlying hu, Instr.sureAddr, run_sliceBounds hl hh h1 h2, run_sizeOf hs, addr_add]
theorem Runs.sliceSl {e s lo hi len cap : Nat} {low high : Option Operand} {a a' : Option Addr} (hu : P.underlying T = some (.slice e)) (hs : (P.info? e).map (·.size) = some s) (hx : ρ x = .slice a len cap) (hl : IsB ρ 0 low lo) (hh : IsB ρ len high hi) (h1 : lo ≤ hi) (h2 : hi ≤ cap)
    (ha : (if cap = lo then a else a.map (·.add (lo * s))) = a') : Runs P ⟨d, .slice T x low high none, ty, pos, af, gd⟩ ρ h (.slice a' (hi - lo) (cap - lo)) := fun w _ => by
  subst ha
  simp [execOp, hx, Instr.sliceAt, Instr.slice, Sem.run_bind, run_underlying hu, run_sliceBounds hl hh h1 h2, run_sizeOf hs]
theorem Runs.sliceStr {s : ByteArray} {lo hi : Nat} {low high : Option Operand} (hu : P.underlying T = some .string) (hx : ρ x = .string s) (hl : IsB ρ 0 low lo) (hh : IsB ρ s.size high hi) (h1 : lo ≤ hi) (h2 : hi ≤ s.size) : Runs P ⟨d, .slice T x low high none, ty, pos, af, gd⟩ ρ h (.string (s.extract lo hi)) := fun w _ => by
  simp [execOp, hx, Instr.sliceAt, Instr.slice, Sem.run_bind, run_underlying hu, run_sliceBounds hl hh h1 h2]
theorem Runs.lenStr {s : ByteArray} {ats : Array TypeId} (ht : ats = #[T]) (hu : P.underlying T = some .string) (hx : ρ x = .string s) : Runs P ⟨d, .call { callee := .builtin .len, args := #[x], argTypes := ats }, ty, pos, af, gd⟩ ρ h (.int .i64 s.size) := fun w _ => by
  subst ht
  simp [BigFrame.execOp_builtin, BigFrame.builtin_len, hx, Builtin.len_, Sem.run_bind, run_underlying hu, goInt]
/-- 'copy' into a block that is known whole. -/
theorem HO.copy {T2 e sb so dLen dCap sLen sCap : Nat} {l cs : List Value} {t : TypeId} (hu : P.underlying T = some (.slice e)) (hs : (P.info? e).map (·.size) = some 1) (hx : ρ x = .slice (some ⟨b, o, none⟩) dLen dCap) (hy : ρ y = .slice (some ⟨sb, so, none⟩) sLen sCap)
    (hb : h[b]? = some (.cells l.toArray t (0, 0))) (hn : cs.length = Nat.min sLen dLen) (hsrc : ∀ j v, cs[j]? = some v → cellH h sb (so + j) = some v) (hfit : o + cs.length ≤ l.length) (h1 : ∀ v ∈ cs, v.oneCell' = true)
    (k : ∀ h', Wr h h' b (.cells (l.take o ++ cs ++ l.drop (o + cs.length)).toArray t (0, 0)) → K (.int .i64 cs.length) h') : HO P ⟨d, .call { callee := .builtin .copy, args := #[x, y], argTypes := #[T, T2] }, ty, pos, af, gd⟩ ρ h K := by
  intro w hw
  subst hw
  have h2 := run_copy_row (P := P) w T T2 ty e b o dLen dCap ⟨sb, so, none⟩ sLen sCap l.toArray t cs hu hs hb hn (fun j v hv => by rw [addr_add, cell_cellH]; exact hsrc j v hv) (by simpa using hfit) h1
  have : (execOp ρ ⟨d, .call { callee := .builtin .copy, args := #[x, y], argTypes := #[T, T2] }, ty, pos, af, gd⟩).run P w = .ok (.value (goInt cs.length)) (w.setRow b (l.take o ++ cs ++ l.drop (o + cs.length)).toArray) := by
    simp [BigFrame.execOp_builtin, BigFrame.builtin_copy, hx, hy, Sem.run_bind] at h2 ⊢
    rw [h2]
    rfl
  rw [this]
  exact ⟨⟨rfl, rfl, rfl⟩, k _ (wr_setRow hb)⟩
theorem HO.buildSlice {n : Nat} {ps : Array (Nat × Operand)} {cells : List Value} {e : TypeId} (hb : ∀ w, (Instr.buildSlice T n (ps.map fun (i, x) => (i, ρ x))).run P w = .ok (.slice (some ⟨w.heap.size, 0, none⟩) n n) (w.alloc (.cells cells.toArray e)))
    (k : ∀ h', Nw h h' (.cells cells.toArray e (0, 0)) → K (.slice (some ⟨h.size, 0, none⟩) n n) h') : HO P ⟨d, .buildSlice T n ps, ty, pos, af, gd⟩ ρ h K := by
  intro w hw
  have h1 := hb w
  have : (execOp ρ ⟨d, .buildSlice T n ps, ty, pos, af, gd⟩).run P w = .ok (.value (.slice (some ⟨w.heap.size, 0, none⟩) n n)) (w.alloc (.cells cells.toArray e)) := by
    simp only [execOp, Sem.run_bind, h1]
    rfl
  rw [this]
  refine ⟨⟨rfl, rfl, rfl⟩, ?_⟩
  rw [hw, heap_alloc, hw]
  exact k _ (Nw.push _ _)
/-- 'append' to a slice that is owned, of a slice at an address. -/
theorem HO.append {base e size bytes n sb so m c : Nat} {z : Value} {v : Value} {xs news : List Value} (hu : P.underlying T = some (.slice e)) (hi : (P.info? e).map (fun i => (i.zero, i.size, i.bytes)) = some (some z, size, bytes)) (hzs : z.cells.size = size) (hsz : 0 < size)
    (hx : ρ x = v) (hy : ρ y = .slice (some ⟨sb, so, none⟩) m c) (hown : Own h base e size v n xs) (hl : news.length = m * size) (hnews : ∀ j u, news[j]? = some u → cellH h sb (so + j) = some u) (h1 : ∀ u ∈ news, u.oneCell' = true)
    (hlen : n + m ≤ maxLen) (hbytes : (n + m) * bytes ≤ 140737488355328) (hbase : base ≤ h.size)
    (k : ∀ v' h', Own h' base e size v' (n + m) (xs ++ news) → Gr h h' v.ownBlock → (v'.ownBlock = v.ownBlock ∨ v'.ownBlock = some h.size) → K v' h') : HO P ⟨d, .call { callee := .builtin .append, args := #[x, y], argTypes := #[T, T] }, ty, pos, af, gd⟩ ρ h K := by
  intro w hw
  subst hw
  cases hq : P.info? e with
  | none => simp [hq] at hi
  | some i =>
    simp [hq] at hi
    obtain ⟨hz, hs', hby⟩ := hi
    obtain ⟨v', w', hr, ho, hg, -, hnil⟩ := run_append_own_at w base T ty e i z size bytes hu hq hz hs' hby hzs hsz v n xs hown ⟨sb, so, none⟩ m c news hl (fun j u hj => by rw [addr_add, cell_cellH]; exact hnews j u hj) h1 hlen hbytes hbase
    have : (execOp ρ ⟨d, .call { callee := .builtin .append, args := #[x, y], argTypes := #[T, T] }, ty, pos, af, gd⟩).run P w = .ok (.value v') w' := by
      simp [BigFrame.execOp_builtin, BigFrame.builtin_append, hx, hy, Sem.run_bind] at hr ⊢
      rw [hr]
      rfl
    rw [this]
    exact ⟨⟨hg.os, hg.tape, hg.output⟩, k v' _ ho ⟨hg.size, hg.block⟩ hnil⟩
end slices
/-! ### Bytes and strings -/
/-- h' is h, with blocks more, with blocks from M on marked. -/
structure Mk (M : Nat) (h h' : Heap) : Prop where
  size : h.size ≤ h'.size
  old : ∀ j, j < M → h'[j]? = h[j]?
  cells : ∀ (j : Nat) (c : Array Value) (e : TypeId) (fr : Nat × Nat), h[j]? = some (Obj.cells c e fr) → ∃ fr', h'[j]? = some (Obj.cells c e fr')
theorem Mk.refl (M : Nat) (h : Heap) : Mk M h h := ⟨Nat.le_refl _, fun _ _ => rfl, fun _ _ _ fr k => ⟨fr, k⟩⟩
theorem Mk.trans {M : Nat} (a b c : Heap) (x : Mk M a b) (y : Mk M b c) : Mk M a c :=
  ⟨Nat.le_trans x.size y.size, fun j hj => (y.old j hj).trans (x.old j hj), fun j c e fr k => by obtain ⟨fr', k'⟩ := x.cells j c e fr k; exact y.cells j c e fr' k'⟩
theorem Mk.of_ext {M : Nat} {h h' : Heap} (x : Ext h h') (hM : M ≤ h.size) : Mk M h h' := ⟨x.size, fun j hj => x.old j (by omega), fun j c e fr k => ⟨fr, x.keepE k⟩⟩
theorem Mk.of_wr {M b : Nat} {h h' : Heap} {c : Array Value} {e : TypeId} {fr fr' : Nat × Nat} (hb : h[b]? = some (.cells c e fr)) (w : Wr h h' b (.cells c e fr')) (hM : M ≤ b) : Mk M h h' :=
  ⟨by rw [w.size]; exact Nat.le_refl _, fun j hj => w.old j (by omega), fun j c' e' fr'' k => by
    by_cases hj : j = b
    · subst hj
      rw [hb] at k
      cases k
      exact ⟨fr', w.new⟩
    · exact ⟨fr'', (w.old j hj).trans k⟩⟩
theorem Mk.ext {M : Nat} {h h' : Heap} (x : Mk M h h') (hM : M = h.size) : Ext h h' := ⟨x.size, fun j hj => x.old j (by omega)⟩
theorem Mk.bel {M : Nat} {h h' : Heap} (x : Mk M h h') : Bel M h h' := ⟨x.size, x.old⟩
theorem Mk.cell {M : Nat} {h h' : Heap} (x : Mk M h h') {b o : Nat} {v : Value} (k : cellH h b o = some v) : cellH h' b o = some v := by
  unfold cellH at k ⊢
  split at k
  · rename_i c e fr hb
    obtain ⟨fr', hb'⟩ := x.cells _ _ _ _ hb
    rw [hb']
    exact k
  · cases k
section strs
variable {P : Program} {ρ : Operand → Value} {h : Heap} {d : Option Tmp} {ty : TypeId} {pos : String} {af : Array Edge} {gd : Option (Nat × Bool)} {K : Value → Heap → Prop} {T T2 : TypeId} {x y : Operand} {b o : Nat}
/-- '[]byte("..")' of a text's own: the block is marked. -/
theorem HO.mark {e len cap : Nat} {cs : Array Value} {t : TypeId} {fr : Nat × Nat} (hu : P.underlying T = some (.slice e)) (he : P.underlying e = some (.int .u8)) (hx : ρ x = .slice (some ⟨b, o, none⟩) len cap) (hb : h[b]? = some (.cells cs t fr))
    (k : ∀ h' fr', Wr h h' b (.cells cs t fr') → (fr' = (cs.size, cs.size + 1) ∨ fr.1 ≠ fr.2) → K (.slice (some ⟨b, o, none⟩) len cap) h') : HO P ⟨d, .convert T T x, ty, pos, af, gd⟩ ρ h K := by
  intro w hw
  subst hw
  obtain ⟨lo, hi⟩ := fr
  have hsh : w.shape? b = some (t, cs.size) := by simp [World.shape?, hb]
  have : (execOp ρ ⟨d, .convert T T x, ty, pos, af, gd⟩).run P w = .ok (.value (.slice (some ⟨b, o, none⟩) len cap)) (w.freeze ⟨b, cs.size, none⟩ 1) := by
    simp [execOp, hx, convert, Sem.run_bind, run_underlying hu, run_underlying he, markStringish, hsh]
  rw [this]
  have hlt := lt_of_some hb
  refine ⟨⟨rfl, rfl, rfl⟩, k _ (if lo == hi then (cs.size, cs.size + 1) else (min lo cs.size, max hi (cs.size + 1))) ⟨by simp [World.freeze], ?_, fun j hj => ?_⟩ ?_⟩
  · simp only [World.freeze]
    rw [if_neg (by decide)]
    simp only [Array.getElem?_modify, if_true, hb, Option.map_some]
  · simp only [World.freeze]
    rw [if_neg (by decide)]
    simp only [Array.getElem?_modify]
    rw [if_neg (fun e => hj e.symm)]
  · by_cases e : lo = hi
    · left; simp [e]
    · right; exact e
theorem Runs.eqBytes {n e : Nat} {xs ys : List UInt8} {t : Bool} (hu : P.underlying T = some (.array n e)) (he : P.underlying e = some (.int .u8)) (hs : (P.info? e).map (·.size) = some 1) (hg : P.eqGuardType P.depth T = false)
    (hx : ρ x = .agg (xs.map B8).toArray) (hy : ρ y = .agg (ys.map B8).toArray) (hxl : xs.length = n) (hyl : ys.length = n) (hc : (xs == ys) = t) : Runs P ⟨d, .binOp .eql T x y T2, ty, pos, af, gd⟩ ρ h (.bool t) := fun w _ => by
  subst hc
  have h1 := run_eqGuard_agg (P := P) w .eql T x y (xs.map B8).toArray (ys.map B8).toArray hg
  have h2 := run_eql_bytes (P := P) w T e n hu he (fun w => run_sizeOf hs w) xs ys hxl hyl
  change (binOp .eql T (.agg (xs.map B8).toArray) (.agg (ys.map B8).toArray)).run P w = _ at h2
  simp only [execOp, hx, hy, Sem.run_bind, h1, Result.andThen_ok, h2]
  rfl
theorem Runs.neqBytes {n e : Nat} {xs ys : List UInt8} {t : Bool} (hu : P.underlying T = some (.array n e)) (he : P.underlying e = some (.int .u8)) (hs : (P.info? e).map (·.size) = some 1) (hg : P.eqGuardType P.depth T = false)
    (hx : ρ x = .agg (xs.map B8).toArray) (hy : ρ y = .agg (ys.map B8).toArray) (hxl : xs.length = n) (hyl : ys.length = n) (hc : (!(xs == ys)) = t) : Runs P ⟨d, .binOp .neq T x y T2, ty, pos, af, gd⟩ ρ h (.bool t) := fun w _ => by
  subst hc
  have h1 := run_eqGuard_agg (P := P) w .neq T x y (xs.map B8).toArray (ys.map B8).toArray hg
  have h2 := run_equalIn_bytes (P := P) w 9998 T e n hu he (fun w => run_sizeOf hs w) xs ys hxl hyl
  have h3 : (binOp .neq T (.agg (xs.map B8).toArray) (.agg (ys.map B8).toArray)).run P w = .ok (.bool (!(xs == ys))) w := by
    rw [run_neq_struct]
    change ((Op.equalIn 10000 T (.agg (xs.map B8).toArray) (.agg (ys.map B8).toArray)).run P w) = _ at h2
    rw [h2]; rfl
  simp only [execOp, hx, hy, Sem.run_bind, h1, Result.andThen_ok, h3]
  rfl
/-- A string of bytes. -/
def strOf (xs : List UInt8) : ByteArray := ⟨xs.toArray⟩
theorem Runs.toStr {e len cap sb so : Nat} {xs : List UInt8} (hu : P.underlying T = some (.slice e)) (he : P.underlying e = some (.int .u8)) (hd : P.underlying T2 = some .string) (hx : ρ x = .slice (some ⟨sb, so, none⟩) len cap) (hl : xs.length = len) (hc : ∀ j, j < xs.length → cellH h sb (so + j) = some (B8 (xs.getD j 0))) :
    Runs P ⟨d, .convert T T2 x, ty, pos, af, gd⟩ ρ h (.string (strOf xs)) := fun w hw => by
  subst hw
  have h1 := run_convert_bytes_arg (P := P) w T e hu he sb so len cap (xs.map fun c => (c.toNat : Int)) (by simpa using hl) (fun i hi => by
    rw [cell_cellH, hc i (by omega)]
    simp [List.getD_eq_getElem?_getD, List.getElem?_eq_getElem (show i < xs.length by omega)]) T2 hd
  have e1 : strOfNums (xs.map fun c => (c.toNat : Int)) = strOf xs := by simp [strOfNums, strOf, Function.comp_def]
  rw [e1] at h1
  simp only [execOp, hx, h1, Sem.run_bind]
  rfl
theorem Runs.toStrNil {e len cap : Nat} (hu : P.underlying T = some (.slice e)) (he : P.underlying e = some (.int .u8)) (hd : P.underlying T2 = some .string) (hx : ρ x = .slice none len cap) :
    Runs P ⟨d, .convert T T2 x, ty, pos, af, gd⟩ ρ h (.string (strOf [])) := fun w hw => by
  have h1 := run_convert_bytes_nil (P := P) w T e hu he len cap T2 hd
  simp only [execOp, hx, h1, Sem.run_bind]
  rfl
theorem Runs.eqStr {s u : ByteArray} {t : Bool} (hx : ρ x = .string s) (hy : ρ y = .string u) (hc : (s.toList == u.toList) = t) : Runs P ⟨d, .binOp .eql T x y T2, ty, pos, af, gd⟩ ρ h (.bool t) := fun w _ => by
  subst hc
  simp [execOp, hx, hy, eqGuard, binOp, Op.stringOp]
theorem Runs.neqStr {s u : ByteArray} {t : Bool} (hx : ρ x = .string s) (hy : ρ y = .string u) (hc : (!(s.toList == u.toList)) = t) : Runs P ⟨d, .binOp .neq T x y T2, ty, pos, af, gd⟩ ρ h (.bool t) := fun w _ => by
  subst hc
  simp [execOp, hx, hy, eqGuard, binOp, Op.stringOp]
theorem run_equalIn_nilptr {E : TypeId} (a : Addr) (k : Nat) (hu : P.underlying T = some (.pointer E)) (w : World) : (Op.equalIn (k + 1) T (.pointer (some a)) (.pointer none)).run P w = .ok false w := by
  simp [Op.equalIn, Sem.run_bind, run_underlying hu]
/-- A pointer that is there, held against nil. -/
theorem Runs.eqNil {E : TypeId} {a : Addr} (hu : P.underlying T = some (.pointer E)) (hx : ρ x = .pointer (some a)) (hy : ρ y = .pointer none) : Runs P ⟨d, .binOp .eql T x y T2, ty, pos, af, gd⟩ ρ h (.bool false) := fun w _ => by
  have h2 : (Op.equal T (.pointer (some a)) (.pointer none)).run P w = .ok false w := run_equalIn_nilptr a 9999 hu w
  have h3 : (binOp .eql T (.pointer (some a)) (.pointer none)) = (do pure (.bool (← Op.equal T (.pointer (some a)) (.pointer none)))) := rfl
  have h4 : (eqGuard .eql T x y (.pointer (some a)) (.pointer none)).run P w = .ok () w := rfl
  simp only [execOp, hx, hy, Sem.run_bind, h3, h4, h2, Result.andThen_ok]
  rfl
theorem Runs.neqNil {E : TypeId} {a : Addr} (hu : P.underlying T = some (.pointer E)) (hx : ρ x = .pointer (some a)) (hy : ρ y = .pointer none) : Runs P ⟨d, .binOp .neq T x y T2, ty, pos, af, gd⟩ ρ h (.bool true) := fun w _ => by
  have h2 : (Op.equal T (.pointer (some a)) (.pointer none)).run P w = .ok false w := run_equalIn_nilptr a 9999 hu w
  have h3 : (binOp .neq T (.pointer (some a)) (.pointer none)) = (do pure (.bool (!(← Op.equal T (.pointer (some a)) (.pointer none))))) := rfl
  have h4 : (eqGuard .neq T x y (.pointer (some a)) (.pointer none)).run P w = .ok () w := rfl
  simp only [execOp, hx, hy, Sem.run_bind, h3, h4, h2, Result.andThen_ok]
  rfl
end strs
end Go.Proofs.YtjopikfkgjbcgaaGreatDoor
