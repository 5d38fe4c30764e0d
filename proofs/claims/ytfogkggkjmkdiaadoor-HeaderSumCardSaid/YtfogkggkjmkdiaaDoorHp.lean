/- Headers: plain words. -/
import Derived.Test.YtfogkggkjmkdiaaDoorLe
import Derived.Lib.IndexAny
namespace Go.Proofs.YtfogkggkjmkdiaaDoor
set_option linter.unnecessarySimpa false
set_option linter.unusedSimpArgs false
set_option linter.unusedVariables false
open Go.RowKit
/-- A header. -/
structure Hd where
  name : List UInt8
  mode : Int
  uid : Int
  gid : Int
  size : Int
  mtime : Int
  typ : UInt8
  link : List UInt8
  major : Int
  minor : Int
def Hd.cells (x : Hd) : List Value := [.string (strOf x.name), I64 x.mode, I64 x.uid, I64 x.gid, I64 x.size, I64 x.mtime, B8 x.typ, .string (strOf x.link), I64 x.major, I64 x.minor]
def Hd.v (x : Hd) : Value := .agg x.cells.toArray
def Hd.zero : Hd := ⟨[], 0, 0, 0, 0, 0, 0, [], 0, 0⟩
def Hd.nums (x : Hd) : List Int := [x.mode, x.uid, x.gid, x.size, x.mtime, x.major, x.minor]
def fAt : List Nat := [100, 108, 116, 124, 136, 329, 337]
def fSz : List Nat := [8, 8, 8, 12, 12, 8, 8]
def magic : List UInt8 := [117, 115, 116, 97, 114, 0, 48, 48]
def seg (b : List UInt8) (lo hi : Nat) : List UInt8 := (b.take hi).drop lo
/-! ### Texts of fields -/
def isZ (c : UInt8) : Bool := c == 0
def textO (f : List UInt8) : List UInt8 × Bool := (cutR isZ f, !(cutR isZ f).contains 0)
def refT (f : List UInt8) : List UInt8 × Bool := if (f.dropWhile (fun c => !isZ c)).all isZ = true then (f.takeWhile (fun c => !isZ c), true) else ([], false)
theorem allZ_tw (s : List UInt8) (h : s.all isZ = true) : s.takeWhile (fun c => !isZ c) = [] := by
  cases s with
  | nil => rfl
  | cons c s =>
    have hc : isZ c = true := by rw [List.all_cons] at h; exact (Bool.and_eq_true _ _ ▸ h).1
    rw [List.takeWhile_cons, hc]
    rfl
theorem allZ_dw (s : List UInt8) (h : s.all isZ = true) : (s.dropWhile (fun c => !isZ c)).all isZ = true := by
  cases s with
  | nil => rfl
  | cons c s =>
    have hc : isZ c = true := by rw [List.all_cons] at h; exact (Bool.and_eq_true _ _ ▸ h).1
    rw [List.dropWhile_cons, hc]
    exact h
theorem textO_ref (f : List UInt8) : (textO f).2 = (refT f).2 ∧ ((refT f).2 = true → (textO f).1 = (refT f).1) := by
  have key : (!(cutR isZ f).contains 0) = (f.dropWhile (fun c => !isZ c)).all isZ ∧ ((f.dropWhile (fun c => !isZ c)).all isZ = true → cutR isZ f = f.takeWhile (fun c => !isZ c)) := by
    induction f with
    | nil => exact ⟨rfl, fun _ => rfl⟩
    | cons c s ih =>
      rw [cutR_cons, cut_empty, List.dropWhile_cons, List.takeWhile_cons]
      cases hc : isZ c with
      | true =>
        have h0 : c = 0 := by simpa [isZ] using hc
        subst h0
        by_cases ha : s.all isZ = true
        · rw [if_pos ha]
          simp [List.all_cons, hc, ha]
        · rw [if_neg ha]
          simp only [Bool.not_eq_true] at ha
          simp [List.all_cons, hc, ha]
      | false =>
        have h0 : c ≠ 0 := by simpa [isZ] using hc
        have h00 : (0 == c) = false := by rw [beq_eq_false_iff_ne]; exact fun e => h0 e.symm
        by_cases ha : s.all isZ = true
        · rw [if_pos ha, allZ_tw s ha]
          have := allZ_dw s ha
          simp only [Bool.not_false, if_true, Bool.false_eq_true, if_false, this, List.contains_cons, List.contains_nil, h00, Bool.or_false, Bool.not_false]
          exact ⟨trivial, fun _ => trivial⟩
        · rw [if_neg ha]
          simp only [Bool.not_false, if_true, List.contains_cons, h00, Bool.false_or]
          exact ⟨ih.1, fun h => by rw [ih.2 h]⟩
  unfold textO refT
  by_cases h : (f.dropWhile (fun c => !isZ c)).all isZ = true
  · rw [if_pos h]
    exact ⟨key.1.trans h, fun _ => key.2 h⟩
  · rw [if_neg h]
    exact ⟨key.1.trans (Bool.eq_false_iff.2 h), fun q => by cases q⟩
theorem refT_pad (s : List UInt8) (n : Nat) (h : s.contains 0 = false) : refT (s ++ List.replicate n 0) = (s, true) := by
  have hs : ∀ c ∈ s, (!isZ c) = true := by
    intro c hc
    cases e : isZ c with
    | false => rfl
    | true =>
      have : c = 0 := by simpa [isZ] using e
      subst this
      rw [List.contains_eq_mem, decide_eq_false_iff_not] at h
      exact absurd hc h
  have hz : (List.replicate n (0 : UInt8)).all isZ = true := by
    rw [List.all_eq_true]
    intro x hx
    rw [(List.mem_replicate.1 hx).2]
    rfl
  have e1 : (s ++ List.replicate n (0 : UInt8)).dropWhile (fun c => !isZ c) = (List.replicate n (0 : UInt8)).dropWhile (fun c => !isZ c) := by
    rw [List.dropWhile_append_of_pos hs]
  have e2 : (s ++ List.replicate n (0 : UInt8)).takeWhile (fun c => !isZ c) = s := by
    rw [List.takeWhile_append_of_pos hs, allZ_tw _ hz, List.append_nil]
  unfold refT
  rw [e1, if_pos (allZ_dw _ hz), e2]
theorem textO_pad (s : List UInt8) (n : Nat) (h : s.contains 0 = false) : textO (s ++ List.replicate n 0) = (s, true) := by
  have h1 := textO_ref (s ++ List.replicate n 0)
  rw [refT_pad s n h] at h1
  exact Prod.ext (h1.2 rfl) h1.1
/-! ### What is parsed -/
def fld (b : List UInt8) (k : Nat) : List UInt8 := seg b (fAt.getD k 0) (fAt.getD k 0 + fSz.getD k 0)
def num (b : List UInt8) (k : Nat) : Int := ((readO (fld b k)).1 : Int)
def numOk (b : List UInt8) (k : Nat) : Bool := (readO (fld b k)).2
/-- The first k numbers can be read. -/
def numsOk (b : List UInt8) : Nat → Bool
  | 0 => true
  | k + 1 => numsOk b k && numOk b k
def sumsO (b : List UInt8) : Bool := (readO (seg b 148 156)).2 && (((readO (seg b 148 156)).1 : Int) == checkO b)
def formO (b : List UInt8) : Bool := (((seg b 257 265 == magic) && numsOk b 7) && (textO (seg b 0 100)).2 && (textO (seg b 157 257)).2) && (textO (seg b 345 500)).2
def pfx (p s : List UInt8) : List UInt8 := if p = [] then s else p ++ 47 :: s
def hdrO (b : List UInt8) : Hd := ⟨pfx (textO (seg b 345 500)).1 (textO (seg b 0 100)).1, num b 0, num b 1, num b 2, num b 3, num b 4, b.getD 156 0, (textO (seg b 157 257)).1, num b 5, num b 6⟩
def parseO (b : List UInt8) : Hd × Int := if b.length ≠ 512 then (Hd.zero, 4) else if sumsO b = false then (Hd.zero, 5) else if formO b = false then (Hd.zero, 3) else (hdrO b, 0)
/-! ### Bytes over others -/
theorem over_get (xs : List UInt8) (o : Nat) (ys : List UInt8) (h : o + ys.length ≤ xs.length) (i : Nat) : (over xs o ys)[i]? = if o ≤ i ∧ i < o + ys.length then ys[i - o]? else xs[i]? := by
  have hl : (xs.take o).length = o := by rw [List.length_take]; omega
  unfold over
  by_cases h1 : i < o
  · rw [if_neg (by omega), List.append_assoc, List.getElem?_append_left (by omega), List.getElem?_take, if_pos h1]
  · by_cases h2 : i < o + ys.length
    · rw [if_pos ⟨by omega, h2⟩, List.getElem?_append_left (by rw [List.length_append]; omega), List.getElem?_append_right (by omega), hl]
    · rw [if_neg (by omega), List.getElem?_append_right (by rw [List.length_append]; omega), List.getElem?_drop, List.length_append, hl]
      congr 1
      omega
theorem over_comm (xs : List UInt8) (o p : Nat) (ys zs : List UInt8) (h1 : o + ys.length ≤ xs.length) (h2 : p + zs.length ≤ xs.length) (hd : o + ys.length ≤ p ∨ p + zs.length ≤ o) : over (over xs o ys) p zs = over (over xs p zs) o ys := by
  apply List.ext_getElem?
  intro i
  rw [over_get _ _ _ (by rw [over_len _ _ _ h1]; exact h2), over_get _ _ _ h1, over_get _ _ _ (by rw [over_len _ _ _ h2]; exact h1), over_get _ _ _ h2]
  by_cases a : p ≤ i ∧ i < p + zs.length
  · rw [if_pos a, if_neg (by omega), if_pos a]
  · rw [if_neg a, if_neg a]
theorem seg_get (b : List UInt8) (lo hi i : Nat) : (seg b lo hi)[i]? = if lo + i < hi then b[lo + i]? else none := by
  unfold seg
  rw [List.getElem?_drop, List.getElem?_take]
theorem seg_same (xs : List UInt8) (o hi : Nat) (ys : List UInt8) (h : o + ys.length ≤ xs.length) (e : hi = o + ys.length) : seg (over xs o ys) o hi = ys := by
  subst e
  apply List.ext_getElem?
  intro i
  rw [seg_get, over_get _ _ _ h]
  by_cases a : i < ys.length
  · rw [if_pos (by omega), if_pos (by omega), Nat.add_sub_cancel_left]
  · rw [if_neg (by omega), List.getElem?_eq_none (by omega)]
theorem seg_other (xs : List UInt8) (o lo hi : Nat) (ys : List UInt8) (h : o + ys.length ≤ xs.length) (hd : hi ≤ o ∨ o + ys.length ≤ lo) : seg (over xs o ys) lo hi = seg xs lo hi := by
  apply List.ext_getElem?
  intro i
  rw [seg_get, seg_get, over_get _ _ _ h]
  by_cases a : lo + i < hi
  · rw [if_pos a, if_pos a, if_neg (by omega)]
  · rw [if_neg a, if_neg a]
/-- A piece in which shorter bytes were laid at its begin. -/
theorem seg_begin (xs : List UInt8) (o hi : Nat) (ys : List UInt8) (h : o + ys.length ≤ xs.length) (hh : o + ys.length ≤ hi) (hx : hi ≤ xs.length) : seg (over xs o ys) o hi = ys ++ seg xs (o + ys.length) hi := by
  apply List.ext_getElem?
  intro i
  rw [seg_get, over_get _ _ _ h]
  by_cases a : i < ys.length
  · rw [if_pos (by omega), if_pos (by omega), List.getElem?_append_left a, Nat.add_sub_cancel_left]
  · rw [List.getElem?_append_right (by omega), seg_get]
    by_cases c : o + i < hi
    · rw [if_pos c, if_neg (by omega), if_pos (by omega)]
      congr 1
      omega
    · rw [if_neg c, if_neg (by omega)]
theorem seg_len (b : List UInt8) (lo hi : Nat) (h : hi ≤ b.length) : (seg b lo hi).length = hi - lo := by
  unfold seg
  rw [List.length_drop, List.length_take]
  omega
theorem seg_zeros (n lo hi : Nat) (h : hi ≤ n) : seg (List.replicate n (0 : UInt8)) lo hi = List.replicate (hi - lo) 0 := by
  unfold seg
  rw [List.take_replicate, List.drop_replicate]
  congr 1
  omega
theorem set_over (xs : List UInt8) (i : Nat) (c : UInt8) (h : i < xs.length) : xs.set i c = over xs i [c] := by
  apply List.ext_getElem?
  intro j
  rw [over_get _ _ _ (by simp; omega), List.getElem?_set]
  by_cases e : i = j
  · subst e
    rw [if_pos rfl, if_pos h, if_pos (by simp), Nat.sub_self]
    rfl
  · rw [if_neg e, if_neg (by simp; omega)]
theorem getD_seg (b : List UInt8) (i : Nat) : b.getD i 0 = (seg b i (i + 1)).getD 0 0 := by
  rw [List.getD_eq_getElem?_getD, List.getD_eq_getElem?_getD, seg_get, if_pos (by omega)]
  rfl
/-! ### What is printed -/
def longO (s : List UInt8) : Bool := decide (s.length > 100) || s.contains 0
def wr (x : Hd) (k : Nat) : List UInt8 := (writeO (x.nums.getD k 0) ((fSz.getD k 0 : Nat) : Int)).1
def wrOk (x : Hd) (k : Nat) : Bool := (writeO (x.nums.getD k 0) ((fSz.getD k 0 : Nat) : Int)).2
def wrsOk (x : Hd) : Nat → Bool
  | 0 => true
  | k + 1 => wrsOk x k && wrOk x k
def numOver (x : Hd) (b : List UInt8) : Nat → List UInt8
  | 0 => b
  | k + 1 => over (numOver x b k) (fAt.getD k 0) (wr x k)
def zeros : List UInt8 := List.replicate 512 0
def body (x : Hd) : List UInt8 := numOver x (over (over (over (over zeros 0 x.name) 157 x.link) 257 magic) 156 [x.typ]) 7
def sum7 (b : List UInt8) : List UInt8 := (writeO (checkO b) 7).1
def blk (x : Hd) : List UInt8 := over (body x) 148 (sum7 (body x) ++ [32])
def okO (x : Hd) : Bool := !(longO x.name || longO x.link) && wrsOk x 7
def printO (x : Hd) : List UInt8 × Bool := if okO x = true then (blk x, true) else ([], false)
theorem wr_len (x : Hd) (k : Nat) (h : wrOk x k = true) : (wr x k).length = fSz.getD k 0 := by
  have := (write_back _ _ h).2.1
  unfold wr
  omega
theorem wrsOk_lt {x : Hd} {k n : Nat} (h : wrsOk x n = true) (hk : k < n) : wrOk x k = true := by
  induction n with
  | zero => omega
  | succ n ih =>
    rw [wrsOk, Bool.and_eq_true] at h
    by_cases e : k = n
    · subst e; exact h.2
    · exact ih h.1 (by omega)
theorem at_sz : ∀ k, k < 7 → (100 ≤ fAt.getD k 0 ∧ fAt.getD k 0 + fSz.getD k 0 ≤ 148) ∨ (329 ≤ fAt.getD k 0 ∧ fAt.getD k 0 + fSz.getD k 0 ≤ 345) := by decide
theorem numOver_len {x : Hd} {b : List UInt8} {n : Nat} (h : wrsOk x n = true) (hn : n ≤ 7) (hb : b.length = 512) : (numOver x b n).length = 512 := by
  induction n with
  | zero => exact hb
  | succ n ih =>
    have h0 := h
    rw [wrsOk, Bool.and_eq_true] at h
    have := ih h.1 (by omega)
    have hl := wr_len x n h.2
    have := at_sz n (by omega)
    rw [numOver, over_len _ _ _ (by omega)]
    omega
theorem numOver_comm {x : Hd} {b : List UInt8} {n : Nat} (h : wrsOk x n = true) (hn : n ≤ 7) (hb : b.length = 512) (o : Nat) (y : List UInt8) (hy : o + y.length ≤ 100 ∨ 148 ≤ o ∧ o + y.length ≤ 329 ∨ 345 ≤ o ∧ o + y.length ≤ 512) : numOver x (over b o y) n = over (numOver x b n) o y := by
  induction n with
  | zero => rfl
  | succ n ih =>
    have h0 := h
    rw [wrsOk, Bool.and_eq_true] at h
    have hl := wr_len x n h.2
    have hs := at_sz n (by omega)
    have hlen := numOver_len h.1 (by omega) hb
    rw [numOver, numOver, ih h.1 (by omega)]
    exact over_comm _ _ _ _ _ (by omega) (by omega) (by omega)
theorem numOver_other {x : Hd} {b : List UInt8} {n : Nat} (h : wrsOk x n = true) (hn : n ≤ 7) (hb : b.length = 512) (lo hi : Nat) (hy : hi ≤ 100 ∨ 148 ≤ lo ∧ hi ≤ 329 ∨ 345 ≤ lo) : seg (numOver x b n) lo hi = seg b lo hi := by
  induction n with
  | zero => rfl
  | succ n ih =>
    rw [wrsOk, Bool.and_eq_true] at h
    have hl := wr_len x n h.2
    have hs := at_sz n (by omega)
    have hlen := numOver_len h.1 (by omega) hb
    rw [numOver, seg_other _ _ _ _ _ (by omega) (by omega), ih h.1 (by omega)]
theorem at_apart : ∀ k, k < 7 → ∀ j, j < k → fAt.getD j 0 + fSz.getD j 0 ≤ fAt.getD k 0 := by decide
theorem numOver_fld {x : Hd} {b : List UInt8} {n : Nat} (h : wrsOk x n = true) (hn : n ≤ 7) (hb : b.length = 512) (k : Nat) (hk : k < n) : fld (numOver x b n) k = wr x k := by
  induction n with
  | zero => omega
  | succ n ih =>
    rw [wrsOk, Bool.and_eq_true] at h
    have hl := wr_len x n h.2
    have hs := at_sz n (by omega)
    have hlen := numOver_len h.1 (by omega) hb
    unfold fld
    rw [numOver]
    by_cases e : k = n
    · subst e
      exact seg_same _ _ _ _ (by omega) (by omega)
    · have := at_apart n (by omega) k (by omega)
      rw [seg_other _ _ _ _ _ (by omega) (by omega)]
      exact ih h.1 (by omega) (by omega)
theorem zeros_len : zeros.length = 512 := by unfold zeros; rw [List.length_replicate]
end Go.Proofs.YtfogkggkjmkdiaaDoor
