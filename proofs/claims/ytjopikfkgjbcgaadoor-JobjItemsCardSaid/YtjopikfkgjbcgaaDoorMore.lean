/- 'copy' of bytes and of a string into a block of bytes. -/
import Derived.Test.YtjopikfkgjbcgaaDoorStrs
import Derived.Laws.IdiomCopy
import Derived.Lib.BufferWrite
import Derived.Laws.IdiomStrings
import Derived.Laws.StructEq
namespace Go.Proofs.YtjopikfkgjbcgaaDoor
set_option linter.unnecessarySimpa false
open Go.RowKit
set_option linter.unusedSimpArgs false
set_option linter.unusedVariables false
theorem one_B8 (ys : List UInt8) : ∀ v ∈ ys.map B8, v.oneCell' = true := one_map B8 (fun _ => rfl) ys
/-- Bytes laid over others from a place on. -/
def over (xs : List UInt8) (o : Nat) (ys : List UInt8) : List UInt8 := xs.take o ++ ys ++ xs.drop (o + ys.length)
theorem over_len (xs : List UInt8) (o : Nat) (ys : List UInt8) (h : o + ys.length ≤ xs.length) : (over xs o ys).length = xs.length := by
  simp [over]; omega
theorem over_nil (xs : List UInt8) (o : Nat) : over xs o [] = xs := by simp [over]
theorem over_map (xs : List UInt8) (o : Nat) (ys : List UInt8) : (over xs o ys).map B8 = (xs.map B8).take o ++ ys.map B8 ++ (xs.map B8).drop (o + (ys.map B8).length) := by
  simp [over, List.map_append, List.map_take, List.map_drop]
section
variable {P : Program} {ρ : Operand → Value} {h : Heap} {d : Option Tmp} {ty : TypeId} {pos : String} {af : Array Edge} {gd : Option (Nat × Bool)} {K : Value → Heap → Prop} {T T2 : TypeId} {x y : Operand}
theorem HO.copyB {e b o dLen dCap sCap n : Nat} {a : Option Addr} {xs ys : List UInt8} {t : TypeId} (hu : P.underlying T = some (.slice e)) (hs : (P.info? e).map (·.size) = some 1) (hx : ρ x = .slice (some ⟨b, o, none⟩) dLen dCap) (hy : ρ y = .slice a n sCap) (hn : n = ys.length) (hsrc : Byt h a ys)
    (hb : h[b]? = some (.cells (xs.map B8).toArray t (0, 0))) (hd : o + dLen ≤ xs.length)
    (k : ∀ h', Wr h h' b (.cells ((over xs o (ys.take dLen)).map B8).toArray t (0, 0)) → K (.int .i64 ((min ys.length dLen : Nat) : Int)) h') : HO P ⟨d, .call { callee := .builtin .copy, args := #[x, y], argTypes := #[T, T2] }, ty, pos, af, gd⟩ ρ h K := by
  subst hn
  by_cases h0 : ys = []
  · subst h0
    intro w hw
    subst hw
    have h2 := run_copy_none (P := P) w T T2 ty e (some ⟨b, o, none⟩) a dLen dCap 0 sCap hu hs (Nat.zero_min _)
    have : (execOp ρ ⟨d, .call { callee := .builtin .copy, args := #[x, y], argTypes := #[T, T2] }, ty, pos, af, gd⟩).run P w = .ok (.value (goInt 0)) w := by
      simp [BigFrame.execOp_builtin, BigFrame.builtin_copy, hx, hy, Sem.run_bind] at h2 ⊢
      rw [h2]
      rfl
    rw [this]
    refine ⟨Rest.refl _, ?_⟩
    have hk := k w.heap ⟨rfl, by simpa [over_nil] using hb, fun _ _ => rfl⟩
    simpa [goInt] using hk
  · obtain ⟨sb, so, ha, hc⟩ := hsrc.resolve_left h0
    subst ha
    have hl : ((ys.take dLen).map B8).length = Nat.min ys.length dLen := by simp [Nat.min_comm]
    refine HO.copy (cs := (ys.take dLen).map B8) hu hs hx hy hb hl (fun j v hj => ?_) (by rw [hl, List.length_map]; have h9 : Nat.min ys.length dLen ≤ dLen := Nat.min_le_right _ _; omega) (one_B8 _) (fun h' w => ?_)
    · have hlt : j < ys.length ∧ j < dLen := by
        have := (List.getElem?_eq_some_iff.1 hj).1
        rw [hl] at this
        exact ⟨Nat.lt_of_lt_of_le this (Nat.min_le_left _ _), Nat.lt_of_lt_of_le this (Nat.min_le_right _ _)⟩
      rw [hc j hlt.1]
      rw [List.getElem?_map, List.getElem?_take, if_pos hlt.2, List.getElem?_eq_getElem hlt.1] at hj
      rw [← hj]
      simp [List.getElem?_eq_getElem hlt.1]
    · have hk := k h' (by rw [over_map]; exact w)
      rw [hl]
      exact hk
theorem HO.copyS {e b o dLen dCap : Nat} {xs ys : List UInt8} {t : TypeId} (hu : P.underlying T = some (.slice e)) (hs : (P.info? e).map (·.size) = some 1) (hx : ρ x = .slice (some ⟨b, o, none⟩) dLen dCap) (hy : ρ y = .string (strOf ys))
    (hb : h[b]? = some (.cells (xs.map B8).toArray t (0, 0))) (hd : o + ys.length ≤ xs.length) (hle : ys.length ≤ dLen)
    (k : ∀ h', Wr h h' b (.cells ((over xs o ys).map B8).toArray t (0, 0)) → K (.int .i64 (ys.length : Int)) h') : HO P ⟨d, .call { callee := .builtin .copy, args := #[x, y], argTypes := #[T, T2] }, ty, pos, af, gd⟩ ρ h K := by
  intro w hw
  subst hw
  have hz : (strOf ys).size = ys.length := strOf_size ys
  have h2 := Go.Lib.run_copy_row_string (P := P) w T T2 ty e b o dLen dCap (strOf ys) _ t hu hs hb (by rw [hz]; exact hle) (by rw [hz]; simpa using hd)
  have ec : Go.Lib.byteCells (strOf ys).data.toList = ys.map B8 := rfl
  rw [hz, ec] at h2
  have : (execOp ρ ⟨d, .call { callee := .builtin .copy, args := #[x, y], argTypes := #[T, T2] }, ty, pos, af, gd⟩).run P w = .ok (.value (goInt ys.length)) (w.setRow b ((over xs o ys).map B8).toArray) := by
    rw [over_map, List.length_map]
    simp [BigFrame.execOp_builtin, BigFrame.builtin_copy, hx, hy, Sem.run_bind] at h2 ⊢
    rw [h2]
    rfl
  rw [this]
  exact ⟨⟨rfl, rfl, rfl⟩, k _ (wr_setRow hb)⟩
/-- '[]byte(s)'. -/
theorem HO.ofStr {e : TypeId} {xs : List UInt8} (hs : P.underlying T = some .string) (hu : P.underlying T2 = some (.slice e)) (he : P.underlying e = some (.int .u8)) (hx : ρ x = .string (strOf xs))
    (k : ∀ cap h' zs, Nw h h' (.cells (xs.map B8 ++ zs).toArray e (0, 0)) ∨ Nw h h' (.cells (xs.map B8 ++ zs).toArray e ((xs.map B8 ++ zs).length, (xs.map B8 ++ zs).length + 1)) → xs.length ≤ cap → K (.slice (some ⟨h.size, 0, none⟩) xs.length cap) h') : HO P ⟨d, .convert T T2 x, ty, pos, af, gd⟩ ρ h K := by
  intro w hw
  subst hw
  have h1 := run_bytes_of_string (P := P) w T T2 e (strOf xs) hs hu he
  rw [strOf_size] at h1
  generalize hgc : grownCap w xs.length 0 e = gc at h1
  have hge : xs.length ≤ gc := hgc ▸ grownCap_ge w _ _ e
  have hA : bytesRow (strOf xs) gc = (xs.map B8 ++ List.replicate (gc - xs.length) (Value.int .u8 0)).toArray := by
    apply Array.toList_inj.1
    unfold bytesRow
    rw [strOf_size]
    simp [strOf]
  rw [hA] at h1
  have : (execOp ρ ⟨d, .convert T T2 x, ty, pos, af, gd⟩).run P w = .ok (.value (.slice (some ⟨w.heap.size, 0, none⟩) xs.length gc)) (w.drew.alloc (.cells (xs.map B8 ++ List.replicate (gc - xs.length) (Value.int .u8 0)).toArray e ((xs.map B8 ++ List.replicate (gc - xs.length) (Value.int .u8 0)).toArray.size, (xs.map B8 ++ List.replicate (gc - xs.length) (Value.int .u8 0)).toArray.size + 1))) := by
    simp only [execOp, hx, Sem.run_bind, h1]
    rfl
  rw [this]
  refine ⟨⟨rfl, rfl, rfl⟩, ?_⟩
  exact k gc _ (List.replicate (gc - xs.length) (Value.int .u8 0)) (.inr (by
    have := Nw.push w.heap (.cells (xs.map B8 ++ List.replicate (gc - xs.length) (Value.int .u8 0)).toArray e ((xs.map B8 ++ List.replicate (gc - xs.length) (Value.int .u8 0)).toArray.size, (xs.map B8 ++ List.replicate (gc - xs.length) (Value.int .u8 0)).toArray.size + 1))
    rw [List.size_toArray] at this
    exact this)) hge
/-- A call of a function value. -/
theorem HO.callV {fn : FuncId} {F : Func} {as : Array Operand} {ats : Array TypeId} {args cap : Array Value} (hF : P.funcs[fn]? = some F) (hb : F.body.isNone = false) (hn : (F.name == "runtime.NumGoroutine") = false) (ha : as.map ρ = args) (hf : ρ x = .func (.func fn) #[] cap)
    (k : CH P fn (args ++ cap) h K) : HO P ⟨d, .call { callee := .value x, args := as, argTypes := ats }, ty, pos, af, gd⟩ ρ h K := by
  subst ha
  have hn' : F.name ≠ "runtime.NumGoroutine" := by simpa using hn
  have hb' : F.body ≠ none := by intro e; rw [e] at hb; cases hb
  intro w hw
  have : (execOp ρ ⟨d, .call { callee := .value x, args := as, argTypes := ats }, ty, pos, af, gd⟩).run P w = .ok (.enter fn (as.map ρ ++ cap)) w := by
    simp [execOp, resolve, hf, Deferred.ofValue, invoke, callFunc, Sem.run_bind, hF, hn', hb']
  rw [this]
  exact ⟨Rest.refl _, hw ▸ k⟩
/-- An element of an array that is a struct or an array itself. -/
theorem Runs.ixAggs {len e s : Nat} {k : IntKind} {a : Int} {ds : TypeDesc} {cs : Array Value} {v : Value} (hu : P.underlying T = some (.array len e)) (hue : P.underlying e = some ds) (hsc : isScalar ds = false) (hs : (P.info? e).map (·.size) = some s) (hx : ρ x = .agg cs) (hy : ρ y = .int k a) (h0 : 0 ≤ a) (h1 : a < len) (hv : Value.agg (cs.extract (a.toNat * s) (a.toNat * s + s)) = v) :
    Runs P ⟨d, .index T x y, ty, pos, af, gd⟩ ρ h v := fun w _ => by
  subst hv
  simp [execOp, hx, hy, Instr.index, Sem.run_bind, asIntOf, run_underlying hu, h0, h1, run_sizeOf hs, part, run_isAgg hue, hsc]
/-! ### '==' of structs of plain fields -/
def eqv : Value → Value → Bool
  | .int _ a, .int _ b => a == b
  | .string a, .string b => a.toList == b.toList
  | .bool a, .bool b => a == b
  | _, _ => false
def plainV (ds : TypeDesc) (v : Value) : Bool := match ds, v with | .int k, .int k' _ => decide (k = k') | .string, .string _ => true | .bool, .bool _ => true | _, _ => false
theorem run_eqv {t : TypeId} {ds : TypeDesc} {a b : Value} (d : Nat) (w : World) (hu : P.underlying t = some ds) (ha : plainV ds a = true) (hb : plainV ds b = true) : (Op.equalIn (d + 1) t a b).run P w = .ok (eqv a b) w := by
  cases ds <;> cases a <;> simp [plainV] at ha <;> cases b <;> simp [plainV] at hb
  · exact run_equalIn_bool' w d t _ _ hu
  · subst ha; subst hb
    exact run_equalIn_int w d t _ _ _ _ hu
  · exact run_equalIn_string w d t _ _ hu
/-- A field's type is plain, and both hold such a value there. -/
def fieldOk (P : Program) (xs ys : Array Value) (F : Field) : Bool := F.name != "_" && match P.underlying F.type, xs[F.offset]?, ys[F.offset]? with | some ds, some a, some b => plainV ds a && plainV ds b && isScalar ds | _, _, _ => false
theorem eqFields_plain {xs ys : Array Value} (d : Nat) (w : World) : ∀ (fs : List Field), (fs.all fun F => fieldOk P xs ys F) = true → (Op.eqFields (d + 1) xs ys fs).run P w = .ok (fs.all fun F => eqv (xs.getD F.offset undef) (ys.getD F.offset undef)) w
  | [], _ => by simp [Op.eqFields]
  | F :: fs, hh => by
    rw [List.all_cons, Bool.and_eq_true] at hh
    have ih := eqFields_plain d w fs hh.2
    obtain ⟨h1, h2⟩ := (Bool.and_eq_true _ _).mp (show (fieldOk P xs ys F) = true from hh.1)
    have hn : F.name ≠ "_" := by simpa using h1
    cases hu : P.underlying F.type with
    | none => rw [hu] at h2; cases h2
    | some ds =>
      cases ha : xs[F.offset]? with
      | none => rw [hu, ha] at h2; cases h2
      | some a =>
        cases hb : ys[F.offset]? with
        | none => rw [hu, ha, hb] at h2; cases h2
        | some b =>
          rw [hu, ha, hb] at h2
          simp only [Bool.and_eq_true] at h2
          have p1 : (part F.type xs F.offset).run P w = .ok a w := by simp [part, Sem.run_bind, run_isAgg hu, h2.2, ha]
          have p2 : (part F.type ys F.offset).run P w = .ok b w := by simp [part, Sem.run_bind, run_isAgg hu, h2.2, hb]
          have p3 := run_eqv d w hu h2.1.1 h2.1.2
          rw [Op.eqFields]
          simp only [if_pos hn, Sem.run_bind, p1, p2, p3, Result.andThen_ok, List.all_cons]
          have e1 : xs.getD F.offset undef = a := by rw [Array.getD_eq_getD_getElem?, ha]; rfl
          have e2 : ys.getD F.offset undef = b := by rw [Array.getD_eq_getD_getElem?, hb]; rfl
          rw [e1, e2]
          cases eqv a b with
          | false => simp
          | true => simpa using ih
theorem Runs.eqStruct {fs : Array Field} {cs ds : List Value} {t : Bool} (hu : P.underlying T = some (.struct fs)) (hp : P.stoodInHeld T = false) (hg : P.eqGuardType P.depth T = false) (hx : ρ x = .agg cs.toArray) (hy : ρ y = .agg ds.toArray) (hok : (fs.toList.all fun F => fieldOk P cs.toArray ds.toArray F) = true)
    (hc : (fs.toList.all fun F => eqv (cs.toArray.getD F.offset undef) (ds.toArray.getD F.offset undef)) = t) : Runs P ⟨d, .binOp .eql T x y T2, ty, pos, af, gd⟩ ρ h (.bool t) := fun w _ => by
  subst hc
  have hf : P.fieldsOf T = fs := by simp [Program.fieldsOf, hu]
  have h1 := run_eqGuard_agg (P := P) w .eql T x y cs.toArray ds.toArray hg
  have h2 : (binOp .eql T (.agg cs.toArray) (.agg ds.toArray)).run P w = .ok (.bool (fs.toList.all fun F => eqv (cs.toArray.getD F.offset undef) (ds.toArray.getD F.offset undef))) w := by
    rw [run_eql_struct, run_equalIn_struct (P := P) w 9999 T cs.toArray ds.toArray (by rw [hf]; exact hu) hp, hf, eqFields_plain 9998 w fs.toList hok]
    rfl
  simp only [execOp, hx, hy, Sem.run_bind, h1, Result.andThen_ok, h2]
  rfl
theorem HO.moveK (k : K (ρ x) h) : HO P ⟨d, .move x, ty, pos, af, gd⟩ ρ h K := HO.of_runs (Runs.move rfl) k
theorem HO.assignK (k : K (ρ x) h) : HO P ⟨d, .assign x, ty, pos, af, gd⟩ ρ h K := HO.of_runs (Runs.assign rfl) k
theorem HO.extrK {n : Nat} {vs : Array Value} {v : Value} (hx : ρ x = .tuple vs) (hv : vs[n]? = some v) (k : K v h) : HO P ⟨d, .extract x n, ty, pos, af, gd⟩ ρ h K := HO.of_runs (Runs.extr hx hv) k
/-- '[]byte(s)', told by its bytes. -/
theorem HO.ofStrB {e : TypeId} {xs : List UInt8} (hs : P.underlying T = some .string) (hu : P.underlying T2 = some (.slice e)) (he : P.underlying e = some (.int .u8)) (hx : ρ x = .string (strOf xs))
    (k : ∀ cap h', h'.size = h.size + 1 → Ext h h' → Byt h' (some ⟨h.size, 0, none⟩) xs → xs.length ≤ cap → K (.slice (some ⟨h.size, 0, none⟩) xs.length cap) h') : HO P ⟨d, .convert T T2 x, ty, pos, af, gd⟩ ρ h K := by
  refine HO.ofStr hs hu he hx fun cap h' zs hw hcap => ?_
  have hb : ∀ (fr : Nat × Nat), h'[h.size]? = some (.cells (xs.map B8 ++ zs).toArray e fr) → Byt h' (some ⟨h.size, 0, none⟩) xs := fun fr hb => .inr ⟨h.size, 0, rfl, fun j hj => by
    rw [cellH_of hb, Nat.zero_add]
    simp [List.getElem?_append_left, hj, List.getElem?_eq_getElem hj]⟩
  rcases hw with w | w
  · exact k cap h' w.size w.ext (hb _ w.new) hcap
  · exact k cap h' w.size w.ext (hb _ w.new) hcap
theorem eqv_self {ds : TypeDesc} {a : Value} (h : plainV ds a = true) : eqv a a = true := by
  cases ds <;> cases a <;> simp [plainV] at h <;> simp [eqv]
/-- A struct of plain fields, held against itself. -/
theorem Runs.eqStructSelf {fs : Array Field} {cs : List Value} (hu : P.underlying T = some (.struct fs)) (hp : P.stoodInHeld T = false) (hg : P.eqGuardType P.depth T = false) (hx : ρ x = .agg cs.toArray) (hy : ρ y = .agg cs.toArray) (hok : (fs.toList.all fun F => fieldOk P cs.toArray cs.toArray F) = true) :
    Runs P ⟨d, .binOp .eql T x y T2, ty, pos, af, gd⟩ ρ h (.bool true) := by
  refine Runs.eqStruct hu hp hg hx hy hok ?_
  rw [List.all_eq_true] at hok ⊢
  intro F hF
  have h1 := hok F hF
  unfold fieldOk at h1
  rw [Bool.and_eq_true] at h1
  have h2 := h1.2
  cases hu' : P.underlying F.type with
  | none => rw [hu'] at h2; cases h2
  | some ds =>
    cases ha : cs.toArray[F.offset]? with
    | none => rw [hu', ha] at h2; cases h2
    | some a =>
      rw [hu', ha] at h2
      simp only [Bool.and_eq_true] at h2
      rw [Array.getD_eq_getD_getElem?, ha]
      exact eqv_self h2.1.1
end
end Go.Proofs.YtjopikfkgjbcgaaDoor
