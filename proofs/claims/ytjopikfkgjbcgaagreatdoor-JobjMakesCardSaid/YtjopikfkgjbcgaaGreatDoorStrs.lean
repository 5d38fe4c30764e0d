/- Strings as lists of bytes; a few more kinds of operation. -/
import Derived.Test.YtjopikfkgjbcgaaGreatDoorBytes
import Derived.Lib.Bytealg
import Derived.Laws.Externs
import Derived.Laws.Small
import Derived.Laws.Append
namespace Go.Proofs.YtjopikfkgjbcgaaGreatDoor
set_option linter.unnecessarySimpa false
set_option linter.unusedSimpArgs false
set_option linter.unusedVariables false
open Go.RowKit
theorem strOf_of (s : ByteArray) : strOf s.data.toList = s := by
  obtain ⟨⟨l⟩⟩ := s
  rfl
theorem strOf_size (xs : List UInt8) : (strOf xs).size = xs.length := by simp [strOf, ByteArray.size]
theorem strOf_get (xs : List UInt8) (k : Nat) : (strOf xs)[k]? = xs[k]? := by
  by_cases h : k < xs.length
  · rw [List.getElem?_eq_getElem h, getElem?_pos (strOf xs) k (by rw [strOf_size]; exact h)]
    rfl
  · rw [List.getElem?_eq_none (by omega), getElem?_neg (strOf xs) k (by rw [strOf_size]; exact h)]
theorem strOf_ext {a b : ByteArray} (h : a.data.toList = b.data.toList) : a = b := by
  rw [← strOf_of a, ← strOf_of b, h]
theorem strOf_extract (xs : List UInt8) (lo hi : Nat) : (strOf xs).extract lo hi = strOf ((xs.take hi).drop lo) := by
  apply strOf_ext
  simp [strOf, ByteArray.data_extract]
  rw [List.drop_take]
theorem strOf_append (xs ys : List UInt8) : strOf xs ++ strOf ys = strOf (xs ++ ys) := by
  apply strOf_ext
  simp [strOf]
theorem strOf_inj {xs ys : List UInt8} (h : strOf xs = strOf ys) : xs = ys := by
  have := congrArg (fun s => s.data.toList) h
  simpa [strOf] using this
section
variable {P : Program} {ρ : Operand → Value} {h : Heap} {d : Option Tmp} {ty : TypeId} {pos : String} {af : Array Edge} {gd : Option (Nat × Bool)} {K : Value → Heap → Prop} {T T2 : TypeId} {x y : Operand} {xs ys : List UInt8}
theorem Runs.lenS {ats : Array TypeId} (ht : ats = #[T]) (hu : P.underlying T = some .string) (hx : ρ x = .string (strOf xs)) : Runs P ⟨d, .call { callee := .builtin .len, args := #[x], argTypes := ats }, ty, pos, af, gd⟩ ρ h (.int .i64 xs.length) := by
  have := Runs.lenStr (P := P) (ρ := ρ) (h := h) (d := d) (ty := ty) (pos := pos) (af := af) (gd := gd) ht hu hx
  rwa [strOf_size] at this
theorem Runs.ixS {k : IntKind} {a : Int} {j : Nat} {c : UInt8} (hu : P.underlying T = some .string) (hx : ρ x = .string (strOf xs)) (hy : ρ y = .int k a) (ha : a = (j : Int)) (hj : xs[j]? = some c) : Runs P ⟨d, .index T x y, ty, pos, af, gd⟩ ρ h (B8 c) :=
  Runs.ixStr hu hx hy (by omega) (by subst ha; rw [strOf_get]; simpa using hj)
theorem Runs.sliceS {lo hi : Nat} {low high : Option Operand} (hu : P.underlying T = some .string) (hx : ρ x = .string (strOf xs)) (hl : IsB ρ 0 low lo) (hh : IsB ρ xs.length high hi) (h1 : lo ≤ hi) (h2 : hi ≤ xs.length) : Runs P ⟨d, .slice T x low high none, ty, pos, af, gd⟩ ρ h (.string (strOf ((xs.take hi).drop lo))) := by
  rw [← strOf_extract]
  exact Runs.sliceStr hu hx hl (by rw [strOf_size]; exact hh) h1 (by rw [strOf_size]; exact h2)
theorem Runs.addS (hx : ρ x = .string (strOf xs)) (hy : ρ y = .string (strOf ys)) (hl : xs.length + ys.length ≤ 140737488355328 := by omega) : Runs P ⟨d, .binOp .add T x y T2, ty, pos, af, gd⟩ ρ h (.string (strOf (xs ++ ys))) := fun w _ => by
  have h4 : (eqGuard .add T x y (.string (strOf xs)) (.string (strOf ys))).run P w = .ok () w := by unfold eqGuard; simp
  have h5 : (binOp .add T (.string (strOf xs)) (.string (strOf ys))).run P w = .ok (.string (strOf (xs ++ ys))) w := by
    rw [← strOf_append]
    simp [binOp, Op.stringOp, strOf_size, Sem.run_bind]
    try omega
  simp only [execOp, hx, hy, Sem.run_bind, h4, h5, Result.andThen_ok]
  rfl
theorem Runs.eqS {t : Bool} (hx : ρ x = .string (strOf xs)) (hy : ρ y = .string (strOf ys)) (hc : (xs == ys) = t) : Runs P ⟨d, .binOp .eql T x y T2, ty, pos, af, gd⟩ ρ h (.bool t) :=
  Runs.eqStr hx hy (by rw [strOf_toList, strOf_toList]; exact hc)
theorem Runs.neqS {t : Bool} (hx : ρ x = .string (strOf xs)) (hy : ρ y = .string (strOf ys)) (hc : (!(xs == ys)) = t) : Runs P ⟨d, .binOp .neq T x y T2, ty, pos, af, gd⟩ ρ h (.bool t) :=
  Runs.neqStr hx hy (by rw [strOf_toList, strOf_toList]; exact hc)
theorem Runs.minI {ats : Array TypeId} {k k' : IntKind} {a b c : Int} (hx : ρ x = .int k a) (hy : ρ y = .int k' b) (hc : (if b < a then b else a) = c) : Runs P ⟨d, .call { callee := .builtin .min, args := #[x, y], argTypes := ats }, ty, pos, af, gd⟩ ρ h (.int k c) := fun w _ => by
  subst hc
  simp [BigFrame.execOp_builtin, BigFrame.builtin_min, hx, hy, Sem.run_bind, run_min_int2]
theorem Runs.extr {n : Nat} {vs : Array Value} {v : Value} (hx : ρ x = .tuple vs) (hv : vs[n]? = some v) : Runs P ⟨d, .extract x n, ty, pos, af, gd⟩ ρ h v := fun w _ => by
  simp only [execOp, hx, Sem.run_bind]
  simp [Instr.extract, hv]
theorem run_equalIn_bool {t u : Bool} (k : Nat) (hu : P.underlying T = some .bool) (w : World) : (Op.equalIn (k + 1) T (.bool t) (.bool u)).run P w = .ok (t == u) w := by
  simp [Op.equalIn, Sem.run_bind, run_underlying hu]
theorem Runs.eqB {t u b : Bool} (hu : P.underlying T = some .bool) (hx : ρ x = .bool t) (hy : ρ y = .bool u) (hc : (t == u) = b) : Runs P ⟨d, .binOp .eql T x y T2, ty, pos, af, gd⟩ ρ h (.bool b) := fun w _ => by
  subst hc
  have h4 : (eqGuard .eql T x y (.bool t) (.bool u)).run P w = .ok () w := by unfold eqGuard; simp
  have h2 : (Op.equal T (.bool t) (.bool u)).run P w = .ok (t == u) w := run_equalIn_bool 9999 hu w
  have h3 : (binOp .eql T (.bool t) (.bool u)) = (do pure (.bool ((← Op.equal T (.bool t) (.bool u))))) := rfl
  have h5 : (binOp .eql T (.bool t) (.bool u)).run P w = .ok (.bool (t == u)) w := by rw [h3, Sem.run_bind, h2]; rfl
  simp only [execOp, hx, hy, Sem.run_bind, h4, h5, Result.andThen_ok]
  rfl
theorem Runs.neqB {t u b : Bool} (hu : P.underlying T = some .bool) (hx : ρ x = .bool t) (hy : ρ y = .bool u) (hc : (t != u) = b) : Runs P ⟨d, .binOp .neq T x y T2, ty, pos, af, gd⟩ ρ h (.bool b) := fun w _ => by
  subst hc
  have h4 : (eqGuard .neq T x y (.bool t) (.bool u)).run P w = .ok () w := by unfold eqGuard; simp
  have h2 : (Op.equal T (.bool t) (.bool u)).run P w = .ok (t == u) w := run_equalIn_bool 9999 hu w
  have h3 : (binOp .neq T (.bool t) (.bool u)) = (do pure (.bool (!(← Op.equal T (.bool t) (.bool u))))) := rfl
  have h5 : (binOp .neq T (.bool t) (.bool u)).run P w = .ok (.bool (t != u)) w := by rw [h3, Sem.run_bind, h2]; rfl
  simp only [execOp, hx, hy, Sem.run_bind, h4, h5, Result.andThen_ok]
  rfl
/-- A function without a body, whose entry is known. -/
theorem Runs.extern {fn : FuncId} {F : Func} {as : Array Operand} {ats : Array TypeId} {args : Array Value} {e : Array Value → Sem Value} {v : Value} (hF : P.funcs[fn]? = some F) (hn : (F.name == "runtime.NumGoroutine") = false) (hb : F.body.isNone = true) (hx : Extern.findNext F = none) (he : Extern.find F = some e)
    (ha : as.map ρ = args) (hf : ρ (.func fn) = .func (.func fn) #[] #[]) (hr : ∀ w, (e args).run P w = .ok v w) : Runs P ⟨d, .call { callee := .value (.func fn), args := as, argTypes := ats }, ty, pos, af, gd⟩ ρ h v := fun w _ => by
  subst ha
  have h1 := run_callFunc_extern hF hn hb hx he (as.map ρ) w
  rw [hr w] at h1
  simp only [Result.andThen_ok] at h1
  simp [execOp, resolve, hf, Deferred.ofValue, invoke, Sem.run_bind, h1]
/-- Append to a slice that is full: a new block. -/
theorem HO.appGrow {base e b o n c sc m : Nat} {sa : Option Addr} {z : Value} (hu : P.underlying T = some (.slice e)) (hi : (P.info? e).map (fun i => (i.zero, i.size, i.bytes)) = some (some z, 1, 1)) (hzs : z.cells.size = 1)
    (hx : ρ x = .slice (some ⟨b, o, none⟩) n n) (hy : ρ y = .slice sa m sc) (hn : n = xs.length) (hm : m = ys.length) (hm0 : 0 < ys.length) (hold : ∀ j, j < xs.length → cellH h b (o + j) = some (B8 (xs.getD j 0))) (hsrc : Byt h sa ys) (hlen : xs.length + ys.length ≤ 17592186044416) (hbase : base ≤ h.size)
    (k : ∀ a' cap' h', Bs h' base e a' cap' (xs ++ ys) → Ext h h' → K (.slice a' (xs ++ ys).length cap') h') : HO P ⟨d, .call { callee := .builtin .append, args := #[x, y], argTypes := #[T, T] }, ty, pos, af, gd⟩ ρ h K := by
  subst hn
  subst hm
  intro w hw
  subst hw
  rcases hsrc with hnil | ⟨sb, so, hsa, hc⟩
  · rw [hnil] at hm0; cases hm0
  · subst hsa
    cases hq : P.info? e with
    | none => simp [hq] at hi
    | some i =>
      simp [hq] at hi
      obtain ⟨hz, hs', hby⟩ := hi
      have hml : xs.length + ys.length ≤ maxLen := Nat.le_trans hlen (by decide)
      have hfit : Builtin.nextslicecap (xs.length + ys.length) xs.length * i.bytes ≤ 281474976710656 := by
        rw [hby]
        have h1 : ∀ r need c0, c0 ≤ 4 * need + 4096 → Builtin.growBy need r c0 ≤ 4 * need + 4096 := by
          intro r
          induction r with
          | zero => intro need c0 h; exact h
          | succ r ih =>
            intro need c0 h
            unfold Builtin.growBy
            split
            · exact h
            · exact ih _ _ (by omega)
        unfold Builtin.nextslicecap
        split
        · omega
        · split
          · omega
          · have := h1 4 (xs.length + ys.length) xs.length (by omega)
            omega
      have h1 := run_append_grow (P := P) w T ty e i z hu hq hz ⟨b, o, none⟩ xs.length xs.length (xs.map B8) (by rw [hs']; simp) (fun j v hj => by
        have hj' : j < xs.length := by simpa using (List.getElem?_eq_some_iff.1 hj).1
        rw [addr_add, cell_cellH, hold j hj', ← hj, getD_map B8 xs j 0 hj']) ⟨sb, so, none⟩ ys.length sc (ys.map B8) (by rw [hs']; simp) (fun j v hj => by
        have hj' : j < ys.length := by simpa using (List.getElem?_eq_some_iff.1 hj).1
        rw [addr_add, cell_cellH, hc j hj', ← hj, getD_map B8 ys j 0 hj']) (by omega) (by omega) hfit
      generalize hgc : grownCap w (xs.length + ys.length) xs.length e = gc at h1
      have hge : xs.length + ys.length ≤ gc := hgc ▸ grownCap_ge w _ _ e
      have hgm : gc ≤ maxLen := hgc ▸ grownCap_le_maxLen w _ _ e hml
      have : (execOp ρ ⟨d, .call { callee := .builtin .append, args := #[x, y], argTypes := #[T, T] }, ty, pos, af, gd⟩).run P w = .ok (.value (.slice (some ⟨w.heap.size, 0, none⟩) (xs.length + ys.length) gc)) (w.drew.alloc (.cells ((xs.map B8).toArray ++ (ys.map B8).toArray ++ Builtin.zeroCells z.cells (gc - (xs.length + ys.length))) e)) := by
        simp [BigFrame.execOp_builtin, BigFrame.builtin_append, hx, hy, Sem.run_bind] at h1 ⊢
        rw [h1]
        rfl
      rw [this]
      refine ⟨⟨rfl, rfl, rfl⟩, ?_⟩
      have hN : Nw w.heap (w.drew.alloc (.cells ((xs.map B8).toArray ++ (ys.map B8).toArray ++ Builtin.zeroCells z.cells (gc - (xs.length + ys.length))) e)).heap (.cells ((xs.map B8).toArray ++ (ys.map B8).toArray ++ Builtin.zeroCells z.cells (gc - (xs.length + ys.length))) e (0, 0)) := Nw.push _ _
      have hsz : (Builtin.zeroCells z.cells (gc - (xs.length + ys.length))).size = gc - (xs.length + ys.length) := by simp [Builtin.zeroCells, hzs]
      have hA : (xs.map B8).toArray ++ (ys.map B8).toArray ++ Builtin.zeroCells z.cells (gc - (xs.length + ys.length)) = ((xs ++ ys).map B8 ++ (Builtin.zeroCells z.cells (gc - (xs.length + ys.length))).toList).toArray := by
        apply Array.toList_inj.1
        simp
      have hnew := hN.new
      rw [hA] at hnew
      rw [hA]
      rw [hA] at hN
      have := k (some ⟨w.heap.size, 0, none⟩) gc _ (Bs.of_blk hnew (by simp [hsz]; omega) (by rw [List.take_append_of_le_length (by simp), List.take_of_length_le (by simp)]) hbase (by simpa using hge) hgm) hN.ext
      rw [List.length_append] at this
      exact this
end
/-! ### Bytes -/
theorem shr8c (x : UInt8) : ((x.toNat : Int)).fdiv (2 ^ (min (4 : Int).toNat IntKind.u8.bits)) = ((x.toNat / 16 : Nat) : Int) := by
  rw [show min (4 : Int).toNat IntKind.u8.bits = 4 by decide, Int.fdiv_eq_ediv_of_nonneg _ (Int.pow_nonneg (by decide))]
  simp
theorem and15n : ∀ n : Fin 256, bits .and .u8 (n.val : Int) 15 = ((n.val % 16 : Nat) : Int) := by decide +kernel
theorem and15 (x : UInt8) : bits .and .u8 (x.toNat : Int) 15 = ((x.toNat % 16 : Nat) : Int) := and15n ⟨x.toNat, x.toNat_lt⟩
end Go.Proofs.YtjopikfkgjbcgaaGreatDoor
