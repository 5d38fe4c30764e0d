/- A character at a text's begin: onionskinref10.char; are all right: Valid. -/
import Derived.Test.YtjopikfkgjbcgaaDoorNb
namespace Go.Proofs.YtjopikfkgjbcgaaDoor
set_option linter.unnecessarySimpa false
set_option linter.unusedSimpArgs false
set_option linter.unusedVariables false
open Go.RowKit
/-- What a first byte says: how many bytes, and what it gives of the number; 0: nothing. -/
def lead (c : Int) : Nat × Int := if c < 128 then (1, c) else if 192 ≤ c ∧ c < 224 then (2, c - 192) else if 224 ≤ c ∧ c < 240 then (3, c - 224) else if 240 ≤ c ∧ c < 248 then (4, c - 240) else (0, 0)
def cont (c : Int) : Bool := decide (128 ≤ c) && decide (c ≤ 191)
/-- The number of the bytes up to a place. -/
def numK (s : List UInt8) (n : Int) : Nat → Int
  | 0 => n
  | k + 1 => numK s n k * 64 + at8 s (k + 1) - 128
def leastO (z : Nat) : Int := if z = 2 then 128 else if z = 3 then 2048 else if z = 4 then 65536 else 0
/-- How many bytes the character has with which bytes begin; 0: none. -/
def sizeO (s : List UInt8) : Nat :=
  let z := (lead (at8 s 0)).1
  let n := numK s (lead (at8 s 0)).2 (z - 1)
  if z = 1 then 1 else if z = 0 then 0 else if (List.range (z - 1)).all (fun k => cont (at8 s (k + 1))) = false then 0 else
    if n < leastO z ∨ n > 1114111 ∨ (55296 ≤ n ∧ n < 57344) then 0 else z
theorem at8_range (s : List UInt8) (k : Nat) : 0 ≤ at8 s k ∧ at8 s k < 256 := by
  unfold at8
  have := (s.getD k 0).toNat_lt
  omega
theorem cont_end {s : List UInt8} {k : Nat} (h : s.length ≤ k) : cont (at8 s k) = false := by
  rw [at8_end h]; rfl
theorem lead_le (c : Int) : (lead c).1 ≤ 4 := by
  unfold lead
  split
  · simp
  · split
    · simp
    · split
      · simp
      · split <;> simp
theorem sizeO_le (s : List UInt8) : sizeO s ≤ 4 := by
  have h := lead_le (at8 s 0)
  unfold sizeO
  simp only
  generalize (lead (at8 s 0)).1 = z at *
  split
  · omega
  · split
    · omega
    · split
      · omega
      · split <;> omega
end Go.Proofs.YtjopikfkgjbcgaaDoor
