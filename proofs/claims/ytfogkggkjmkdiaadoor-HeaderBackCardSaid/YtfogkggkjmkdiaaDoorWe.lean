/- onionskinref05.Read reads the same. -/
import Derived.Test.YtfogkggkjmkdiaaDoorWd
namespace Go.Proofs.YtfogkggkjmkdiaaDoor
set_option linter.unnecessarySimpa false
set_option linter.unusedSimpArgs false
set_option linter.unusedVariables false
open Go.RowKit
def refO : Nat → List UInt8 → Nat × Bool
  | n, [] => (n, true)
  | n, c :: s => if isO c = true then (if (mv 3 n (c.toNat - 48)).2 = true then refO (mv 3 n (c.toNat - 48)).1 s else (0, false)) else if (c :: s).all isPad = true then (n, true) else (0, false)
theorem cutR_cons (p : UInt8 → Bool) (c : UInt8) (s : List UInt8) : cutR p (c :: s) = if (s.reverse.dropWhile p).isEmpty = true then (if p c = true then [] else [c]) else c :: cutR p s := by
  unfold cutR
  rw [List.reverse_cons, List.dropWhile_append]
  by_cases h : (s.reverse.dropWhile p).isEmpty = true
  · rw [if_pos h, if_pos h]
    by_cases hc : p c = true
    · simp [hc]
    · simp [hc]
  · rw [if_neg h, if_neg h]
    simp
theorem cut_empty (p : UInt8 → Bool) (s : List UInt8) : (s.reverse.dropWhile p).isEmpty = s.all p := by
  have : (s.reverse.dropWhile p).isEmpty = s.reverse.all p := by
    generalize s.reverse = t
    induction t with
    | nil => rfl
    | cons c t ih =>
      by_cases hc : p c = true
      · simp [hc, ih]
      · simp [hc]
  rw [this, List.all_reverse]
theorem pad_not (c : UInt8) (h : isO c = true) : isPad c = false := by
  unfold isO at h
  have h1 := of_decide_eq_true h
  unfold isPad
  have e1 : c ≠ 32 := by intro e; subst e; simp at h1
  have e2 : c ≠ 0 := by intro e; subst e; simp at h1
  simp [e1, e2]
theorem goO_cut (s : List UInt8) (n : Nat) : goO n (cutR isPad s) = refO n s := by
  induction s generalizing n with
  | nil => rfl
  | cons c s ih =>
    rw [cutR_cons, cut_empty, refO]
    by_cases ho : isO c = true
    · have hp := pad_not c ho
      rw [if_pos ho]
      by_cases ha : s.all isPad = true
      · have hnil : cutR isPad s = [] := by
          have := cut_empty isPad s
          rw [ha, List.isEmpty_iff] at this
          unfold cutR
          rw [this]
          rfl
        have := fun m => ih m
        rw [if_pos ha, hp, if_neg (by decide), goO, if_pos ho]
        split
        · rw [← ih, hnil]
        · rfl
      · rw [if_neg ha, goO, if_pos ho]
        split
        · rw [ih]
        · rfl
    · rw [if_neg ho, List.all_cons]
      by_cases ha : s.all isPad = true
      · rw [if_pos ha]
        by_cases hp : isPad c = true
        · rw [if_pos hp, hp, ha]
          rfl
        · rw [if_neg hp, goO, if_neg ho]
          simp only [Bool.not_eq_true] at hp
          rw [hp]
          rfl
      · rw [if_neg ha, goO, if_neg ho]
        simp only [Bool.not_eq_true] at ha
        rw [ha, Bool.and_false]
        rfl
theorem refO_step {n : Nat} {s : List UInt8} {k : Nat} (hk : k < s.length) (ho : isO (s.getD k 0) = true) : refO n (s.drop k) = if (mv 3 n ((s.getD k 0).toNat - 48)).2 = true then refO (mv 3 n ((s.getD k 0).toNat - 48)).1 (s.drop (k + 1)) else (0, false) := by
  rw [drop_at hk, refO, if_pos ho]
theorem refO_end {n : Nat} {s : List UInt8} {k : Nat} (ho : k < s.length → isO (s.getD k 0) = false) : refO n (s.drop k) = if (s.drop k).all isPad = true then (n, true) else (0, false) := by
  by_cases hk : k < s.length
  · rw [drop_at hk, refO, if_neg (by rw [ho hk]; decide)]
  · rw [List.drop_of_length_le (by omega)]
    rfl
theorem readO_ref (f : List UInt8) : readO f = if f = [] then (0, false) else if 128 ≤ (f.getD 0 0).toNat then binO f else refO 0 (f.dropWhile (· == 32)) := by
  unfold readO
  rw [goO_cut]
end Go.Proofs.YtfogkggkjmkdiaaDoor
