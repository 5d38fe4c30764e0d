/- PathsBack, PathsOrder, PathsUnder: plain laws. -/
import Derived.Test.YtfnippeemboljaaDoorPx
namespace Go.Proofs.YtfnippeemboljaaDoor
set_option linter.unnecessarySimpa false
set_option linter.unusedSimpArgs false
set_option linter.unusedVariables false
open Go.RowKit
theorem isPath_good {s : Str} (h : isPath s = true) : ∀ p ∈ parts s, isBad p = false := by
  intro p hp
  unfold isPath at h
  simp only [Bool.and_eq_true, Bool.not_eq_true'] at h
  have := h.1.2
  rw [Bool.eq_false_iff, ne_eq, List.any_eq_true] at this
  rw [Bool.eq_false_iff]
  exact fun q => this ⟨p, hp, q⟩
theorem isPath_ne {s : Str} (h : isPath s = true) : s ≠ [] := by
  intro e
  subst e
  have := isPath_good h [] (by simp [parts])
  revert this
  decide
theorem good_ne {p : Str} (h : isBad p = false) : p ≠ [] := by
  intro e
  subst e
  revert h
  decide
theorem dot_bad {p : Str} (h : isBad p = false) : isDot p = false := by
  unfold isBad at h
  unfold isDot
  simp only [Bool.or_eq_false_iff] at h ⊢
  exact h.1.1
theorem clean_self {s : Str} (h : isPath s = true) : cleanO s = (s, true) := by
  have hp : cleanP s = s := by
    unfold cleanP
    rw [List.filter_eq_self.2 (fun p hp => by rw [dot_bad (isPath_good h p hp)]; rfl), join_parts]
  unfold cleanO
  rw [hp, if_pos h]
theorem clean_ok {s : Str} (h : (cleanO s).2 = true) : isPath (cleanO s).1 = true := by
  unfold cleanO at h ⊢
  by_cases hp : isPath (cleanP s) = true
  · rw [if_pos hp] at h ⊢; exact hp
  · rw [if_neg hp] at h; cases h
theorem clean_slashes (a : Str) : cleanO ([47, 46, 47] ++ a ++ [47, 47, 46]) = cleanO a := by
  have e : [47, 46, 47] ++ a ++ [47, 47, 46] = ([] : Str) ++ 47 :: ([46] ++ 47 :: (a ++ 47 :: ([] ++ 47 :: [46]))) := by simp
  have hp : cleanP ([47, 46, 47] ++ a ++ [47, 47, 46]) = cleanP a := by
    unfold cleanP
    rw [e, parts_cat, parts_cat, parts_cat, parts_cat, List.filter_append, List.filter_append, List.filter_append, List.filter_append]
    have e1 : (parts []).filter (fun p => !isDot p) = [] := by decide
    have e2 : (parts [46]).filter (fun p => !isDot p) = [] := by decide
    rw [e1, e2]
    simp
  unfold cleanO
  rw [hp]
theorem lastS_free (s : Str) : (47 : UInt8) ∉ lastS (parts s) := by
  refine parts_free s _ ?_
  have h1 := split_last (parts s) (parts_ne s)
  have : lastS (parts s) ∈ (parts s).take ((parts s).length - 1) ++ [lastS (parts s)] := by simp
  rw [← h1] at this
  exact this
theorem below_parent {s : Str} (h : isPath s = true) : belowO (parentO s) (lastS (parts s)) = s := by
  have h1 := split_last (parts s) (parts_ne s)
  have hs := join_parts s
  obtain ⟨i, hi⟩ : ∃ i, i = (parts s).take ((parts s).length - 1) := ⟨_, rfl⟩
  have hp : parentO s = joinS i := by rw [hi]; rfl
  rw [← hi] at h1
  by_cases h0 : i = []
  · rw [h0, List.nil_append] at h1
    rw [hp, h0]
    unfold belowO
    rw [if_pos joinS_nil]
    conv => rhs; rw [← hs, h1, joinS_one]
  · have hne : joinS i ≠ [] := by
      cases i with
      | nil => exact absurd rfl h0
      | cons x i =>
        have hx : x ≠ [] := good_ne (isPath_good h x (by rw [h1]; simp))
        cases i with
        | nil => rw [joinS_one]; exact hx
        | cons y i => rw [joinS_cons]; simp
    rw [hp]
    unfold belowO
    rw [if_neg hne]
    conv => rhs; rw [← hs, h1, joinS_app _ _ h0 (by simp), joinS_one]
theorem below_free {P d : Str} (h : (47 : UInt8) ∉ d) : parentO (belowO P d) = P ∧ lastS (parts (belowO P d)) = d := by
  unfold belowO
  by_cases hp : P = []
  · rw [if_pos hp, hp]; exact last_none d h
  · rw [if_neg hp]; exact last_some P d h
theorem marked_cat {s : Str} (h : marked s = true) : wh ++ s.drop 4 = s := by
  unfold marked at h
  rw [List.isPrefixOf_iff_prefix] at h
  obtain ⟨t, rfl⟩ := h
  rfl
/-- Marks are told as they were made. -/
theorem unmark_mark {p : Str} {op : Int} {b : Str} (h : markO p = (op, b, true)) : unmarkS op b = p ∧ (op = 0 → b = p) := by
  have h' := h
  unfold markO at h
  by_cases hi : isPath p = false
  · rw [if_pos hi] at h; cases h
  rw [if_neg hi] at h
  have hi' : isPath p = true := by cases hh : isPath p with
    | true => rfl
    | false => exact absurd hh hi
  by_cases hm : marked (lastS (parts p)) = false
  · rw [if_pos hm] at h
    cases h
    exact ⟨rfl, fun _ => rfl⟩
  rw [if_neg hm] at h
  have hm' : marked (lastS (parts p)) = true := by cases hh : marked (lastS (parts p)) with
    | true => rfl
    | false => exact absurd hh hm
  by_cases ho : lastS (parts p) = opq
  · rw [if_pos ho] at h
    cases h
    refine ⟨?_, fun q => by omega⟩
    unfold unmarkS
    rw [if_neg (by omega), if_pos rfl, ← ho, below_parent hi']
  rw [if_neg ho] at h
  by_cases hb : (isBad ((lastS (parts p)).drop 4) || marked ((lastS (parts p)).drop 4)) = true
  · rw [if_pos hb] at h; cases h
  · rw [if_neg hb] at h
    cases h
    refine ⟨?_, fun q => by omega⟩
    have hf : (47 : UInt8) ∉ (lastS (parts p)).drop 4 := fun q => lastS_free p (List.mem_of_mem_drop q)
    obtain ⟨e1, e2⟩ := below_free (P := parentO p) hf
    unfold unmarkS
    rw [if_pos rfl, e1, e2, marked_cat hm', below_parent hi']
theorem unmarkO_mark {p : Str} (h : (markO p).2.2 = true) : unmarkO (markO p).1 (markO p).2.1 = (p, true) := by
  have e : markO p = ((markO p).1, (markO p).2.1, true) := by rw [← h]
  have h1 := (unmark_mark e).1
  unfold unmarkO
  rw [h1, if_pos e]
theorem mark_zero {p : Str} (h : (markO p).2.2 = true) (h0 : (markO p).1 = 0) : (markO p).2.1 = p := by
  have e : markO p = ((markO p).1, (markO p).2.1, true) := by rw [← h]
  exact (unmark_mark e).2 h0
theorem unmarkO_no {n : Int} {a : Str} (h : (unmarkO n a).2 = false) : (unmarkO n a).1 = [] := by
  unfold unmarkO at h ⊢
  split at h
  · cases h
  · rename_i q
    rw [if_neg q]
theorem unmarkO_yes {n : Int} {a : Str} (h : (unmarkO n a).2 = true) : markO (unmarkO n a).1 = (n, a, true) := by
  unfold unmarkO at h ⊢
  split at h
  · rename_i q
    rw [if_pos q]; exact q
  · cases h
/-! ### The order -/
theorem cmpP_val (l m : List Str) : cmpP l m = -1 ∨ cmpP l m = 0 ∨ cmpP l m = 1 := by
  induction l generalizing m with
  | nil => cases m <;> simp [cmpP]
  | cons x l ih =>
    cases m with
    | nil => simp [cmpP]
    | cons y m =>
      rw [cmpP_cons]
      by_cases h : cb x y = 0
      · rw [if_pos h]; exact ih m
      · rw [if_neg h]; exact cb_val x y
theorem tparts_inj {a b : Str} (h : tparts a = tparts b) : a = b := by
  have hj : ∀ s, joinS (tparts s) = s := fun s => by
    unfold tparts
    by_cases h : s = []
    · rw [if_pos h, h]; rfl
    · rw [if_neg h, join_parts]
  rw [← hj a, h, hj]
theorem compareO_eq (a b : Str) : (compareO a b == 0) = (a == b) := by
  rw [Bool.eq_iff_iff, beq_iff_eq, beq_iff_eq]
  unfold compareO
  rw [cmpP_eq]
  exact ⟨tparts_inj, fun e => by rw [e]⟩
theorem compareO_anti (a b : Str) : compareO a b = - compareO b a := cmpP_anti _ _
theorem compareO_val (a b : Str) : compareO a b = -1 ∨ compareO a b = 0 ∨ compareO a b = 1 := cmpP_val _ _
theorem compareO_trans {a b c : Str} (h1 : compareO a b < 0) (h2 : compareO b c < 0) : compareO a c < 0 := cmpP_trans _ _ _ h1 h2
theorem under_iff {p q : Str} (hp : p ≠ []) : underO p q = true ↔ ∃ t, q = p ++ 47 :: t := by
  unfold underO
  rw [if_neg hp, List.isPrefixOf_iff_prefix]
  constructor
  · rintro ⟨t, e⟩
    exact ⟨t, by rw [← e]; simp⟩
  · rintro ⟨t, e⟩
    exact ⟨t, by rw [e]; simp⟩
theorem cmpP_pre (l m : List Str) (hm : m ≠ []) : cmpP l (l ++ m) < 0 := by
  induction l with
  | nil =>
    cases m with
    | nil => exact absurd rfl hm
    | cons y m => exact (by decide : (-1 : Int) < 0)
  | cons x l ih => rw [List.cons_append, cmpP_cons, if_pos ((cb_eq x x).2 rfl)]; exact ih
theorem cmpP_mid (l m k : List Str) (h1 : cmpP l k < 0) (h2 : cmpP k (l ++ m) < 0) : ∃ t, t ≠ [] ∧ k = l ++ t := by
  induction l generalizing k with
  | nil =>
    refine ⟨k, ?_, rfl⟩
    rintro rfl
    exact absurd h1 (by decide)
  | cons x l ih =>
    cases k with
    | nil => exact absurd h1 (show ¬ (1 : Int) < 0 by decide)
    | cons y k =>
      rw [List.cons_append] at h2
      rw [cmpP_cons] at h1 h2
      have ha := cb_anti x y
      by_cases h : cb x y = 0
      · rw [if_pos h] at h1
        rw [if_pos (by omega)] at h2
        obtain ⟨t, ht, e⟩ := ih k h1 h2
        exact ⟨t, ht, by rw [(cb_eq x y).1 h, e]; rfl⟩
      · rw [if_neg h] at h1
        rw [if_neg (by omega)] at h2
        omega
theorem under_less {p r : Str} (hp : p ≠ []) (h : underO p r = true) : compareO p r < 0 := by
  obtain ⟨t, rfl⟩ := (under_iff hp).1 h
  rw [compareO_ne hp (by simp), parts_cat]
  exact cmpP_pre _ _ (parts_ne t)
theorem under_mid {p q r : Str} (hp : p ≠ []) (hq : q ≠ []) (h : underO p r = true) (h1 : compareO p q < 0) (h2 : compareO q r < 0) : underO p q = true := by
  obtain ⟨t, rfl⟩ := (under_iff hp).1 h
  rw [compareO_ne hp hq] at h1
  rw [compareO_ne hq (by simp), parts_cat] at h2
  obtain ⟨k, hk, e⟩ := cmpP_mid _ _ _ h1 h2
  refine (under_iff hp).2 ⟨joinS k, ?_⟩
  rw [← join_parts q, e, joinS_app _ _ (parts_ne p) hk, join_parts]
/-! ### What is above -/
theorem parent_take {l : List Str} (hf : ∀ p ∈ l, (47 : UInt8) ∉ p) {k : Nat} (hk : k < l.length) : parentO (joinS (l.take (k + 1))) = joinS (l.take k) := by
  have hne : l.take (k + 1) ≠ [] := by
    intro e
    have := congrArg List.length e
    rw [List.length_take, List.length_nil] at this
    omega
  unfold parentO
  rw [parts_join _ hne (fun p hp => hf p (List.mem_of_mem_take hp)), List.length_take, List.take_take]
  congr 2
  all_goals omega
theorem join_ne {l : List Str} (hg : ∀ p ∈ l, isBad p = false) {k : Nat} (hk : k < l.length) : joinS (l.take (k + 1)) ≠ [] := by
  cases l with
  | nil => cases hk
  | cons x l =>
    have hx : x ≠ [] := good_ne (hg x (by simp))
    rw [List.take_succ_cons]
    by_cases h : l.take k = []
    · rw [h, joinS_one]; exact hx
    · rw [joinS_cons' _ _ h]; simp
def fnd (l : List Str) (p : Str) : Nat → Bool
  | 0 => false
  | i + 1 => fnd l p i || joinS (l.take (l.length - (i + 1))) == p
theorem fnd_iff (l : List Str) (p : Str) (i : Nat) (hi : i ≤ l.length) : fnd l p i = true ↔ ∃ j, l.length - i ≤ j ∧ j < l.length ∧ joinS (l.take j) = p := by
  induction i with
  | zero => simp [fnd]; intro j h1 h2; omega
  | succ i ih =>
    rw [fnd, Bool.or_eq_true, ih (by omega), beq_iff_eq]
    constructor
    · rintro (⟨j, h1, h2, h3⟩ | h)
      · exact ⟨j, by omega, h2, h3⟩
      · exact ⟨_, Nat.le_refl _, by omega, h⟩
    · rintro ⟨j, h1, h2, h3⟩
      by_cases e : j = l.length - (i + 1)
      · right; rw [← e]; exact h3
      · left; exact ⟨j, by omega, h2, h3⟩
theorem under_fnd {p q : Str} (hp : p ≠ []) : underO p q = fnd (parts q) p (parts q).length := by
  rw [Bool.eq_iff_iff, under_iff hp, fnd_iff _ _ _ (Nat.le_refl _)]
  constructor
  · rintro ⟨t, rfl⟩
    have hpos := List.length_pos_iff.2 (parts_ne t)
    refine ⟨(parts p).length, by omega, by rw [parts_cat, List.length_append]; omega, ?_⟩
    rw [parts_cat, List.take_left' rfl, join_parts]
  · rintro ⟨j, _, hj, e⟩
    have h1 : (parts q).take j ≠ [] := by
      intro q0
      rw [q0] at e
      exact hp e.symm
    have h2 : (parts q).drop j ≠ [] := by
      intro q0
      have := congrArg List.length q0
      rw [List.length_drop, List.length_nil] at this
      omega
    refine ⟨joinS ((parts q).drop j), ?_⟩
    rw [← e, ← joinS_app _ _ h1 h2, List.take_append_drop, join_parts]
theorem under_parent {q : Str} (h : isPath q = true) : underO (parentO q) q = true := by
  by_cases hp : parentO q = []
  · unfold underO
    rw [if_pos hp, beq_eq_false_iff_ne.2 (isPath_ne h)]; rfl
  · refine (under_iff hp).2 ⟨lastS (parts q), ?_⟩
    have := below_parent h
    unfold belowO at this
    rw [if_neg hp] at this
    exact this.symm
theorem under_self {q : Str} (h : q ≠ []) : underO q q = false := by
  rw [Bool.eq_false_iff]
  intro k
  obtain ⟨t, e⟩ := (under_iff h).1 k
  have := congrArg List.length e
  simp at this
theorem under_in {p q : Str} (h : p ≠ []) : underO p (p ++ [47] ++ q) = true := (under_iff h).2 ⟨q, by simp⟩
theorem join_len {l : List Str} (hg : ∀ p ∈ l, isBad p = false) (h0 : l ≠ []) : 2 * l.length ≤ (joinS l).length + 1 := by
  induction l with
  | nil => exact absurd rfl h0
  | cons x l ih =>
    have hx := List.length_pos_iff.2 (good_ne (hg x (by simp)))
    by_cases h : l = []
    · subst h; rw [joinS_one]; simp; omega
    · have := ih (fun p hp => hg p (List.mem_cons_of_mem _ hp)) h
      rw [joinS_cons' _ _ h]
      simp
      omega
theorem path_parts {q : Str} (h : isPath q = true) : 2 * (parts q).length ≤ q.length + 1 := by
  have := join_len (isPath_good h) (parts_ne q)
  rw [join_parts] at this
  exact this
end Go.Proofs.YtfnippeemboljaaDoor
