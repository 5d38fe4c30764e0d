/- Plain words on bytes and 32-bit words, as values; no program in sight. -/
import Derived.WalkKit
namespace Go.Proofs.YtjopikfkgjbcgaaGreatDoor
set_option linter.unnecessarySimpa false
set_option linter.unusedSimpArgs false
set_option linter.unusedVariables false
open Go.RowKit
/-- A byte, a 32-bit word, an int, as values. -/
abbrev B8 (c : UInt8) : Value := .int .u8 (c.toNat : Int)
abbrev W32 (x : BitVec 32) : Value := .int .u32 (x.toNat : Int)
abbrev I64 (n : Int) : Value := .int .i64 n
theorem getD_map {α : Type} (f : α → Value) (l : List α) (k : Nat) (z : α) (h : k < l.length) : (l.map f)[k]? = some (f (l.getD k z)) := by
  simp [List.getElem?_eq_getElem h]
theorem toArray_map {α : Type} (f : α → Value) (l : List α) (k : Nat) (z : α) (h : k < l.length) : (l.map f).toArray[k]? = some (f (l.getD k z)) := by
  simp [List.getElem?_eq_getElem h]
theorem one_map {α : Type} (f : α → Value) (hf : ∀ x, (f x).oneCell' = true) (l : List α) : ∀ v ∈ l.map f, v.oneCell' = true := by
  intro v hv
  obtain ⟨x, -, rfl⟩ := List.mem_map.1 hv
  exact hf x
/-! ### Wraps that do nothing -/
theorem i64w {n : Int} (h : -9223372036854775808 ≤ n ∧ n ≤ 9223372036854775807) : IntKind.i64.wrap n = n := by rw [IntKind.wrap_i64]; omega
theorem u8w {n : Int} (h : 0 ≤ n ∧ n < 256) : IntKind.u8.wrap n = n := by rw [IntKind.wrap_u8]; omega
theorem u64w {n : Int} (h : 0 ≤ n ∧ n < 18446744073709551616) : IntKind.u64.wrap n = n := by
  simp [IntKind.wrap, IntKind.bits, IntKind.signed]; omega
theorem quo64 {a b : Int} (h : 0 ≤ a ∧ a ≤ 9223372036854775807) (hb : 0 < b) : IntKind.i64.wrap (a.tdiv b) = a / b := by
  rw [Int.tdiv_eq_ediv_of_nonneg h.1]
  have h1 := Int.ediv_nonneg h.1 (Int.le_of_lt hb)
  have h2 : a / b ≤ a := Int.ediv_le_self _ h.1
  exact i64w ⟨by omega, by omega⟩
theorem rem64 {a b : Int} (h : 0 ≤ a) (_hb : 0 < b) : a.tmod b = a % b := Int.tmod_eq_emod_of_nonneg h
/-! ### 32-bit words -/
section
variable (x y : BitVec 32)
theorem ofInt32 : BitVec.ofInt 32 (x.toNat : Int) = x := by
  apply BitVec.eq_of_toNat_eq
  have h := x.isLt
  rw [BitVec.toNat_ofInt]
  omega
theorem wrap32u (z : BitVec 32) : IntKind.u32.wrap (z.toNat : Int) = z.toNat := by rw [IntKind.wrap_u32]; have := z.isLt; omega
theorem bits_or32 : bits .or .u32 (x.toNat : Int) (y.toNat : Int) = ((x ||| y).toNat : Int) := by
  have h : bits .or .u32 (x.toNat : Int) (y.toNat : Int) = IntKind.u32.wrap ((BitVec.ofInt 32 (x.toNat : Int)) ||| (BitVec.ofInt 32 (y.toNat : Int))).toNat := rfl
  rw [h, ofInt32, ofInt32]; exact wrap32u _
theorem bits_and32 : bits .and .u32 (x.toNat : Int) (y.toNat : Int) = ((x &&& y).toNat : Int) := by
  have h : bits .and .u32 (x.toNat : Int) (y.toNat : Int) = IntKind.u32.wrap ((BitVec.ofInt 32 (x.toNat : Int)) &&& (BitVec.ofInt 32 (y.toNat : Int))).toNat := rfl
  rw [h, ofInt32, ofInt32]; exact wrap32u _
theorem bits_xor32 : bits .xor .u32 (x.toNat : Int) (y.toNat : Int) = ((x ^^^ y).toNat : Int) := by
  have h : bits .xor .u32 (x.toNat : Int) (y.toNat : Int) = IntKind.u32.wrap ((BitVec.ofInt 32 (x.toNat : Int)) ^^^ (BitVec.ofInt 32 (y.toNat : Int))).toNat := rfl
  rw [h, ofInt32, ofInt32]; exact wrap32u _
theorem compl32 : bits .xor .u32 (if IntKind.u32.signed then -1 else IntKind.u32.max) (x.toNat : Int) = ((~~~x).toNat : Int) := by
  have h : (if IntKind.u32.signed then (-1 : Int) else IntKind.u32.max) = ((BitVec.allOnes 32).toNat : Int) := by decide
  rw [h, bits_xor32]
  congr 2
theorem add32w : IntKind.u32.wrap ((x.toNat : Int) + (y.toNat : Int)) = ((x + y).toNat : Int) := by
  rw [IntKind.wrap_u32, BitVec.toNat_add]; omega
theorem shl32c (n : Nat) (hn : n ≤ 32) : IntKind.u32.wrap ((x.toNat : Int) * 2 ^ (min (n : Int).toNat IntKind.u32.bits)) = ((x <<< n).toNat : Int) := by
  have e : min (n : Int).toNat IntKind.u32.bits = n := by simp [IntKind.bits]; omega
  rw [e, IntKind.wrap_u32, BitVec.toNat_shiftLeft, Nat.shiftLeft_eq]
  simp
theorem shr32c (n : Nat) (hn : n ≤ 32) : ((x.toNat : Int)).fdiv (2 ^ (min (n : Int).toNat IntKind.u32.bits)) = ((x >>> n).toNat : Int) := by
  have e : min (n : Int).toNat IntKind.u32.bits = n := by simp [IntKind.bits]; omega
  rw [e, Int.fdiv_eq_ediv_of_nonneg _ (Int.pow_nonneg (by decide)), BitVec.toNat_ushiftRight, Nat.shiftRight_eq_div_pow]
  simp
theorem conv_u8_u32 (c : UInt8) : IntKind.u32.wrap (c.toNat : Int) = ((BitVec.ofNat 32 c.toNat).toNat : Int) := by
  have := c.toNat_lt
  rw [IntKind.wrap_u32, BitVec.toNat_ofNat]; omega
end
end Go.Proofs.YtjopikfkgjbcgaaGreatDoor
