/- SHA-256 as a plain function on lists, and what comes in piece by piece; no program in sight. -/
import Derived.Test.YtbfmkjfpialihaaWc
namespace Go.Proofs.Ytbfmkjfpialihaa
set_option linter.unnecessarySimpa false
set_option linter.unusedSimpArgs false
set_option linter.unusedVariables false
/-- The words that a hash begins with. -/
def iv : List (BitVec 32) := [0x6a09e667, 0xbb67ae85, 0x3c6ef372, 0xa54ff53a, 0x510e527f, 0x9b05688c, 0x1f83d9ab, 0x5be0cd19]
/-- k blocks of l taken in. -/
def foldB (l : List UInt8) : Nat → List (BitVec 32)
  | 0 => iv
  | k + 1 => compress (foldB l k) ((l.drop (64 * k)).take 64)
theorem foldB_len (l : List UInt8) (k : Nat) : (foldB l k).length = 8 := by
  induction k with
  | zero => rfl
  | succ k ih => rw [foldB, compress_len, ih]
theorem foldB_append (l m : List UInt8) (k : Nat) (h : 64 * k ≤ l.length) : foldB (l ++ m) k = foldB l k := by
  induction k with
  | zero => rfl
  | succ k ih =>
    rw [foldB, foldB, ih (by omega)]
    congr 1
    rw [List.drop_append_of_le_length (by omega), List.take_append_of_le_length (by simp; omega)]
/-- What a hash holds behind bytes P. -/
structure HState (P : List UInt8) (hs : List (BitVec 32)) (rest : List UInt8) : Prop where
  words : hs = foldB P (P.length / 64)
  len : rest.length = 64
  tail : rest.take (P.length % 64) = P.drop (64 * (P.length / 64))
theorem HState.h8 {P : List UInt8} {hs : List (BitVec 32)} {rest : List UInt8} (s : HState P hs rest) : hs.length = 8 := by rw [s.words, foldB_len]
theorem HState.start : HState [] iv (List.replicate 64 0) := ⟨rfl, by simp, by simp⟩
theorem HState.few {P ks : List UInt8} {hs : List (BitVec 32)} {rest : List UInt8} (s : HState P hs rest) (hk : P.length % 64 + ks.length < 64) :
    HState (P ++ ks) hs (rest.take (P.length % 64) ++ ks ++ rest.drop (P.length % 64 + ks.length)) := by
  have hl := s.len
  have e1 : (P ++ ks).length / 64 = P.length / 64 := by simp; omega
  have e2 : (P ++ ks).length % 64 = P.length % 64 + ks.length := by simp; omega
  refine ⟨?_, by simp; omega, ?_⟩
  · rw [e1, foldB_append _ _ _ (by omega)]; exact s.words
  · rw [e1, e2, List.take_append_of_le_length (by simp; omega), List.take_of_length_le (by simp; omega), s.tail, List.drop_append_of_le_length (by omega)]
theorem HState.full {P ks : List UInt8} {hs : List (BitVec 32)} {rest : List UInt8} (s : HState P hs rest) (hk : P.length % 64 + ks.length = 64) :
    HState (P ++ ks) (compress hs (rest.take (P.length % 64) ++ ks ++ rest.drop (P.length % 64 + ks.length))) (rest.take (P.length % 64) ++ ks ++ rest.drop (P.length % 64 + ks.length)) := by
  have hl := s.len
  have e1 : (P ++ ks).length / 64 = P.length / 64 + 1 := by simp; omega
  have e2 : (P ++ ks).length % 64 = 0 := by simp; omega
  have e3 : rest.drop (P.length % 64 + ks.length) = [] := List.drop_of_length_le (by omega)
  refine ⟨?_, by simp; omega, ?_⟩
  · rw [e1, foldB, foldB_append _ _ _ (by omega), ← s.words, e3, List.append_nil, s.tail]
    congr 1
    rw [List.drop_append_of_le_length (by omega), List.take_of_length_le (by simp; omega)]
  · rw [e1, e2]
    simp
    omega
/-- A number's eight bytes, the highest first. -/
def lenBytes (m : Nat) : List UInt8 := (List.range 8).map fun i => UInt8.ofNat (m / 2 ^ (8 * (7 - i)))
/-- How many zeros a padding has. -/
def zeros (n : Nat) : Nat := (119 - n % 64) % 64
def padded (l : List UInt8) : List UInt8 := l ++ [128] ++ List.replicate (zeros l.length) 0 ++ lenBytes (l.length * 8)
/-- A digest's bytes. -/
def digBytes (hs : List (BitVec 32)) : List UInt8 := (List.range 32).map fun k => UInt8.ofNat ((hs.getD (k / 4) 0) >>> (8 * (3 - k % 4))).toNat
/-- SHA-256. -/
def SHA (l : List UInt8) : List UInt8 := digBytes (foldB (padded l) ((padded l).length / 64))
theorem digBytes_len (hs : List (BitVec 32)) : (digBytes hs).length = 32 := by simp [digBytes]
theorem SHA_len (l : List UInt8) : (SHA l).length = 32 := digBytes_len _
theorem padded_len (l : List UInt8) : (padded l).length = l.length + 9 + zeros l.length := by simp [padded, lenBytes]; omega
theorem padded_mod (l : List UInt8) : (padded l).length % 64 = 0 := by rw [padded_len, zeros]; omega
end Go.Proofs.Ytbfmkjfpialihaa
