/- Paths: plain words. -/
import Derived.Test.YtfnippeemboljaaDoorRw
import Derived.Test.YtfnippeemboljaaDoorStrs
import Derived.Lib.Join
import Derived.Lib.LastIndexByte
import Derived.Lib.IndexLaws
import Derived.Lib.IndexAny
import Derived.Lib.Small
namespace Go.Proofs.YtfnippeemboljaaDoor
set_option linter.unnecessarySimpa false
set_option linter.unusedSimpArgs false
set_option linter.unusedVariables false
open Go.RowKit
abbrev Str := List UInt8
/-! ### Parts -/
def addC (c : UInt8) : List Str → List Str
  | [] => [[c]]
  | p :: ps => (c :: p) :: ps
def parts : Str → List Str
  | [] => [[]]
  | c :: s => if c = 47 then [] :: parts s else addC c (parts s)
theorem addC_ne (c : UInt8) (l : List Str) : addC c l ≠ [] := by cases l <;> simp [addC]
theorem parts_ne (s : Str) : parts s ≠ [] := by
  cases s with
  | nil => simp [parts]
  | cons c s =>
    rw [parts]
    split
    · simp
    · exact addC_ne _ _
def joinS (l : List Str) : Str := Go.Lib.join l [47]
theorem joinS_nil : joinS [] = [] := rfl
theorem joinS_one (p : Str) : joinS [p] = p := Go.Lib.join_one p [47]
theorem joinS_cons (p q : Str) (r : List Str) : joinS (p :: q :: r) = p ++ 47 :: joinS (q :: r) := by
  unfold joinS
  rw [Go.Lib.join_cons, Go.Lib.join_cons]
  simp [Go.Lib.joinTail]
theorem joinS_cons' (p : Str) (l : List Str) (h : l ≠ []) : joinS (p :: l) = p ++ 47 :: joinS l := by
  cases l with
  | nil => exact absurd rfl h
  | cons q r => exact joinS_cons p q r
theorem joinS_addC (c : UInt8) (l : List Str) (h : l ≠ []) : joinS (addC c l) = c :: joinS l := by
  cases l with
  | nil => exact absurd rfl h
  | cons p ps =>
    cases ps with
    | nil => rw [addC, joinS_one, joinS_one]
    | cons q r => rw [addC, joinS_cons, joinS_cons]; rfl
theorem join_parts (s : Str) : joinS (parts s) = s := by
  induction s with
  | nil => rfl
  | cons c s ih =>
    rw [parts]
    by_cases hc : c = 47
    · rw [if_pos hc, joinS_cons' _ _ (parts_ne s), ih, hc]; rfl
    · rw [if_neg hc, joinS_addC _ _ (parts_ne s), ih]
theorem parts_free (s : Str) : ∀ p ∈ parts s, (47 : UInt8) ∉ p := by
  induction s with
  | nil => intro p hp; simp [parts] at hp; subst hp; simp
  | cons c s ih =>
    intro p hp
    rw [parts] at hp
    by_cases hc : c = 47
    · rw [if_pos hc] at hp
      rcases List.mem_cons.1 hp with e | e
      · subst e; simp
      · exact ih p e
    · rw [if_neg hc] at hp
      cases hl : parts s with
      | nil => exact absurd hl (parts_ne s)
      | cons q r =>
        rw [hl] at ih hp
        rw [addC] at hp
        rcases List.mem_cons.1 hp with e | e
        · subst e
          intro h
          rcases List.mem_cons.1 h with e | e
          · exact hc e.symm
          · exact ih q (List.mem_cons_self ..) e
        · exact ih p (List.mem_cons_of_mem _ e)
theorem parts_one (p : Str) (h : (47 : UInt8) ∉ p) : parts p = [p] := by
  induction p with
  | nil => rfl
  | cons c s ih =>
    rw [parts, if_neg (fun e => h (by rw [e]; exact List.mem_cons_self ..)), ih (fun q => h (List.mem_cons_of_mem _ q))]
    rfl
theorem parts_app (p s : Str) (h : (47 : UInt8) ∉ p) : parts (p ++ 47 :: s) = p :: parts s := by
  induction p with
  | nil => rw [List.nil_append, parts, if_pos rfl]
  | cons c p ih =>
    rw [List.cons_append, parts, if_neg (fun e => h (by rw [e]; exact List.mem_cons_self ..)), ih (fun q => h (List.mem_cons_of_mem _ q))]
    rfl
theorem parts_join (l : List Str) (hne : l ≠ []) (hf : ∀ p ∈ l, (47 : UInt8) ∉ p) : parts (joinS l) = l := by
  induction l with
  | nil => exact absurd rfl hne
  | cons p l ih =>
    cases l with
    | nil => rw [joinS_one]; exact parts_one p (hf p (List.mem_cons_self ..))
    | cons q r =>
      rw [joinS_cons, parts_app _ _ (hf p (List.mem_cons_self ..)), ih (by simp) (fun x hx => hf x (List.mem_cons_of_mem _ hx))]
theorem joinS_app (l m : List Str) (hl : l ≠ []) (hm : m ≠ []) : joinS (l ++ m) = joinS l ++ 47 :: joinS m := by
  induction l with
  | nil => exact absurd rfl hl
  | cons p l ih =>
    cases l with
    | nil => rw [List.singleton_append, joinS_cons' _ _ hm, joinS_one]
    | cons q r =>
      rw [List.cons_append, joinS_cons' _ _ (by simp), ih (by simp), joinS_cons]
      simp
theorem parts_cat (s t : Str) : parts (s ++ 47 :: t) = parts s ++ parts t := by
  have h1 : joinS (parts s ++ parts t) = s ++ 47 :: t := by rw [joinS_app _ _ (parts_ne s) (parts_ne t), join_parts, join_parts]
  rw [← h1, parts_join _ (by simp [parts_ne]) (fun p hp => by
    rcases List.mem_append.1 hp with e | e
    · exact parts_free s p e
    · exact parts_free t p e)]
/-- The last part. -/
def lastS (l : List Str) : Str := l.getD (l.length - 1) []
theorem lastS_snoc (l : List Str) (p : Str) : lastS (l ++ [p]) = p := by
  unfold lastS
  rw [List.length_append, List.length_singleton, Nat.add_sub_cancel, List.getD_eq_getElem?_getD, List.getElem?_append_right (Nat.le_refl _), Nat.sub_self]
  rfl
theorem split_last (l : List Str) (h : l ≠ []) : l = l.take (l.length - 1) ++ [lastS l] := by
  have h0 : 0 < l.length := List.length_pos_iff.2 h
  have h1 : l.length - 1 < l.length := by omega
  have := List.take_append_drop (l.length - 1) l
  rw [List.drop_eq_getElem_cons h1, List.drop_of_length_le (by omega)] at this
  unfold lastS
  rw [List.getD_eq_getElem?_getD, List.getElem?_eq_getElem h1]
  exact this.symm
theorem parts_snoc (t : Str) (c : UInt8) (h : c ≠ 47) : parts (t ++ [c]) = (parts t).take ((parts t).length - 1) ++ [lastS (parts t) ++ [c]] := by
  obtain ⟨l, hl⟩ : ∃ l, l = parts t := ⟨_, rfl⟩
  have hne : l ≠ [] := by rw [hl]; exact parts_ne t
  have hf : ∀ p ∈ l, (47 : UInt8) ∉ p := by rw [hl]; exact parts_free t
  have ht : t = joinS l := by rw [hl, join_parts]
  have hs := split_last l hne
  have hlm : lastS l ∈ l := by
    have : lastS l ∈ l.take (l.length - 1) ++ [lastS l] := by simp
    rw [← hs] at this
    exact this
  rw [← hl]
  have e : t ++ [c] = joinS (l.take (l.length - 1) ++ [lastS l ++ [c]]) := by
    by_cases hi : l.take (l.length - 1) = []
    · rw [hi, List.nil_append, joinS_one, ht]
      rw [hi, List.nil_append] at hs
      conv => lhs; rw [hs, joinS_one]
    · rw [joinS_app _ _ hi (by simp), joinS_one, ht]
      conv => lhs; rw [hs, joinS_app _ _ hi (by simp), joinS_one]
      simp
  rw [e, parts_join _ (by simp) (fun p hp => by
    rcases List.mem_append.1 hp with q | q
    · exact hf p (List.mem_of_mem_take q)
    · have : p = lastS l ++ [c] := by simpa using q
      subst this
      intro hx
      rcases List.mem_append.1 hx with r | r
      · exact hf _ hlm r
      · have : 47 = c := by simpa using r
        exact h this.symm)]
theorem parts_len (s : Str) : (parts s).length = s.count 47 + 1 := by
  induction s with
  | nil => rfl
  | cons c s ih =>
    rw [parts]
    by_cases hc : c = 47
    · subst hc
      rw [if_pos rfl, List.length_cons, ih, List.count_cons_self]
    · rw [if_neg hc, List.count_cons_of_ne hc]
      cases hl : parts s with
      | nil => exact absurd hl (parts_ne s)
      | cons q r => rw [hl] at ih; exact ih
/-! ### Words -/
def isDot (p : Str) : Bool := p == [] || p == [46]
def isBad (p : Str) : Bool := ((p == [] || p == [46]) || p == [46, 46]) || p.contains 0
def isLong (p : Str) : Bool := decide (p.length > 251)
def wh : Str := [46, 119, 104, 46]
def opq : Str := [46, 119, 104, 46, 46, 119, 104, 46, 46, 111, 112, 113]
def marked (p : Str) : Bool := wh.isPrefixOf p
def nameMax (s : Str) : Nat := if marked (lastS (parts s)) = true then 255 else 251
def pathMax (s : Str) : Nat := if marked (lastS (parts s)) = true then 4096 else 4092
def isPath (s : Str) : Bool := ((decide (s.length ≤ pathMax s) && decide ((lastS (parts s)).length ≤ nameMax s)) && !(parts s).any isBad) && !((parts s).take ((parts s).length - 1)).any isLong
def cleanP (s : Str) : Str := joinS ((parts s).filter fun p => !isDot p)
def cleanO (s : Str) : Str × Bool := if isPath (cleanP s) = true then (cleanP s, true) else ([], false)
def parentO (p : Str) : Str := joinS ((parts p).take ((parts p).length - 1))
def underO (p q : Str) : Bool := if p = [] then !(q == []) else (p ++ [47]).isPrefixOf q
def belowO (p n : Str) : Str := if p = [] then n else p ++ 47 :: n
def markO (p : Str) : Int × Str × Bool :=
  if isPath p = false then (0, [], false) else if marked (lastS (parts p)) = false then (0, p, true) else if lastS (parts p) = opq then (2, parentO p, true)
  else if (isBad ((lastS (parts p)).drop 4) || marked ((lastS (parts p)).drop 4)) = true then (0, [], false) else (1, belowO (parentO p) ((lastS (parts p)).drop 4), true)
def unmarkS (op : Int) (p : Str) : Str := if op = 1 then belowO (parentO p) (wh ++ lastS (parts p)) else if op = 2 then belowO p opq else p
def unmarkO (op : Int) (p : Str) : Str × Bool := if markO (unmarkS op p) = (op, p, true) then (unmarkS op p, true) else ([], false)
def cmpP : List Str → List Str → Int
  | [], [] => 0
  | [], _ :: _ => -1
  | _ :: _, [] => 1
  | x :: xs, y :: ys => if Go.Lib.compareBytes x y = 0 then cmpP xs ys else Go.Lib.compareBytes x y
def tparts (s : Str) : List Str := if s = [] then [] else parts s
def compareO (a b : Str) : Int := cmpP (tparts a) (tparts b)
/-! ### A path, part by part -/
def okAt (s : Str) (i : Nat) : Bool := !isBad ((parts s).getD i []) && decide (((parts s).getD i []).length ≤ if i = (parts s).length - 1 ∧ marked ((parts s).getD i []) = true then 255 else 251)
def okTo (s : Str) : Nat → Bool
  | 0 => true
  | k + 1 => okTo s k && okAt s k
theorem okTo_iff (s : Str) (n : Nat) : okTo s n = true ↔ ∀ i, i < n → okAt s i = true := by
  induction n with
  | zero => simp [okTo]
  | succ n ih =>
    rw [okTo, Bool.and_eq_true, ih]
    constructor
    · intro h i hi
      by_cases e : i = n
      · subst e; exact h.2
      · exact h.1 i (by omega)
    · intro h
      exact ⟨fun i hi => h i (by omega), h n (by omega)⟩
theorem okTo_no {s : Str} {k n : Nat} (h : okTo s k = false) (hk : k ≤ n) : okTo s n = false := by
  induction n with
  | zero => have : k = 0 := by omega
            subst this; exact h
  | succ n ih =>
    by_cases e : k = n + 1
    · subst e; exact h
    · rw [okTo, ih (by omega), Bool.false_and]
theorem any_iff {l : List Str} {f : Str → Bool} : l.any f = false ↔ ∀ i, i < l.length → f (l.getD i []) = false := by
  constructor
  · intro h i hi
    rw [Bool.eq_false_iff, ne_eq, List.any_eq_true] at h
    rw [Bool.eq_false_iff]
    intro q
    exact h ⟨_, List.getElem_mem hi, by rw [List.getD_eq_getElem?_getD, List.getElem?_eq_getElem hi] at q; exact q⟩
  · intro h
    rw [Bool.eq_false_iff, ne_eq, List.any_eq_true]
    rintro ⟨x, hx, hf⟩
    obtain ⟨i, hi, rfl⟩ := List.mem_iff_getElem.1 hx
    have := h i hi
    rw [List.getD_eq_getElem?_getD, List.getElem?_eq_getElem hi] at this
    rw [show f l[i] = false from this] at hf
    cases hf
/-- The document's reading of a path is the program's. -/
theorem isPath_ref (s : Str) : isPath s = (okTo s (parts s).length && decide (s.length ≤ pathMax s)) := by
  have hpos : 0 < (parts s).length := List.length_pos_iff.2 (parts_ne s)
  rw [Bool.eq_iff_iff]
  unfold isPath
  simp only [Bool.and_eq_true, Bool.not_eq_true', decide_eq_true_eq, any_iff, okTo_iff, List.length_take]
  unfold okAt
  simp only [Bool.and_eq_true, Bool.not_eq_true', decide_eq_true_eq]
  constructor
  · rintro ⟨⟨⟨h1, h2⟩, h3⟩, h4⟩
    refine ⟨fun i hi => ⟨h3 i hi, ?_⟩, h1⟩
    by_cases e : i = (parts s).length - 1
    · subst e
      unfold nameMax lastS at h2
      by_cases hm : marked ((parts s).getD ((parts s).length - 1) []) = true
      · rw [if_pos ⟨rfl, hm⟩]; rw [if_pos hm] at h2; exact h2
      · rw [if_neg (fun q => hm q.2)]; rw [if_neg hm] at h2; exact h2
    · rw [if_neg (fun q => e q.1)]
      have := h4 i (by omega)
      unfold isLong at this
      have := of_decide_eq_false this
      rw [List.getD_eq_getElem?_getD, List.getElem?_take, if_pos (by omega), ← List.getD_eq_getElem?_getD] at this
      omega
  · rintro ⟨h1, h2⟩
    refine ⟨⟨⟨h2, ?_⟩, fun i hi => (h1 i hi).1⟩, fun i hi => ?_⟩
    · have := (h1 ((parts s).length - 1) (by omega)).2
      unfold nameMax lastS
      by_cases hm : marked ((parts s).getD ((parts s).length - 1) []) = true
      · rw [if_pos hm]; rw [if_pos ⟨rfl, hm⟩] at this; exact this
      · rw [if_neg hm]; rw [if_neg (fun q => hm q.2)] at this; exact this
    · have := (h1 i (by omega)).2
      rw [if_neg (by omega)] at this
      unfold isLong
      rw [List.getD_eq_getElem?_getD, List.getElem?_take, if_pos (by omega), ← List.getD_eq_getElem?_getD]
      exact decide_eq_false (by omega)
/-! ### The last slash -/
theorem last_none (s : Str) (h : (47 : UInt8) ∉ s) : parentO s = [] ∧ lastS (parts s) = s := by
  unfold parentO
  rw [parts_one s h]
  exact ⟨rfl, rfl⟩
theorem last_some (u v : Str) (h : (47 : UInt8) ∉ v) : parentO (u ++ 47 :: v) = u ∧ lastS (parts (u ++ 47 :: v)) = v := by
  unfold parentO
  rw [parts_cat, parts_one v h, lastS_snoc, List.length_append, List.length_singleton, Nat.add_sub_cancel, List.take_left' rfl, join_parts]
  exact ⟨rfl, rfl⟩
theorem lastIdx_at (s : Str) : (Go.Lib.lastIndexByte (strOf s) 47 = -1 ∧ (47 : UInt8) ∉ s) ∨ ∃ u v, s = u ++ 47 :: v ∧ (47 : UInt8) ∉ v ∧ Go.Lib.lastIndexByte (strOf s) 47 = (u.length : Int) := by
  have hz : (strOf s).size = s.length := strOf_size s
  have hat : ∀ j, j < s.length → (((strOf s).data[j]!).toNat : Int) = 47 → s[j]? = some 47 := by
    intro j hj h
    have e : (strOf s).data[j]! = s[j] := by simp [strOf, hj]
    rw [e] at h
    rw [List.getElem?_eq_getElem hj, show s[j] = 47 from UInt8.toNat_inj.1 (by show _ = 47; omega)]
  have hno : ∀ j, j < s.length → (((strOf s).data[j]!).toNat : Int) ≠ 47 → s[j]? ≠ some 47 := by
    intro j hj h q
    have e : (strOf s).data[j]! = s[j] := by simp [strOf, hj]
    rw [List.getElem?_eq_getElem hj] at q
    rw [e, Option.some.inj q] at h
    exact h rfl
  rcases Go.Lib.lastIndexByte_spec (strOf s) 47 with ⟨h1, h2⟩ | ⟨i, hi, h1, h2, h3⟩
  · left
    refine ⟨h1, fun hm => ?_⟩
    obtain ⟨j, hj, e⟩ := List.mem_iff_getElem.1 hm
    exact hno j hj (h2 j (by omega)) (by rw [List.getElem?_eq_getElem hj, e])
  · right
    rw [hz] at hi
    have hg := hat i hi h2
    refine ⟨s.take i, s.drop (i + 1), ?_, fun hm => ?_, by rw [h1, List.length_take]; omega⟩
    · rw [List.getElem?_eq_getElem hi] at hg
      conv => lhs; rw [← List.take_append_drop i s, List.drop_eq_getElem_cons hi, Option.some.inj hg]
    · obtain ⟨j, hj, e⟩ := List.mem_iff_getElem.1 hm
      rw [List.length_drop] at hj
      rw [List.getElem_drop] at e
      exact hno (i + 1 + j) (by omega) (h3 _ (by omega) (by omega)) (by rw [List.getElem?_eq_getElem (by omega), e])
end Go.Proofs.YtfnippeemboljaaDoor
