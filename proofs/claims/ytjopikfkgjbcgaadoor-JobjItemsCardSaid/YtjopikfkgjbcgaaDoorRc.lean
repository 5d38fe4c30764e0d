/- Places, members, rows cut out, set, dropped, made: what they are, told of lists alone. No program in sight. -/
import Derived.Test.YtjopikfkgjbcgaaDoorRb
import Derived.Test.YtjopikfkgjbcgaaDoorWe
namespace Go.Proofs.YtjopikfkgjbcgaaDoor
set_option linter.unnecessarySimpa false
set_option linter.unusedSimpArgs false
set_option linter.unusedVariables false
open Go.RowKit
def objO (l : List JV) : Bool := rightO l && isObj (l.headD zJ)
def wholeO (l : List JV) : List JV := if rightO l = true then l else []
/-- Is there such a place of a right row? -/
def isPl (l : List JV) (at0 : Int) : Bool := decide (0 ≤ at0) && decide (at0 < l.length) && rightO l
def placesO (l : List JV) (at0 : Int) : List Int := if isPl l at0 = true then itersE l (l.getD at0.toNat zJ).2.2.2.toNat (at0 + 1) else []
def keyAt (l : List JV) (k : Int) : List UInt8 := (l.getD k.toNat zJ).2.1
def getO (l : List JV) (at0 : Int) (key : List UInt8) : Int := match (placesO l at0).find? (fun k => keyAt l k == key) with | none => -1 | some k => if (l.getD at0.toNat zJ).1 = 6 then k else -1
def itemO (l : List JV) (at0 k : Int) : Int := if k < 0 ∨ k ≥ (placesO l at0).length then -1 else (placesO l at0).getD k.toNat 0
def cutO (l : List JV) (at0 : Int) : List JV := if isPl l at0 = true then namedO ((l.take (endO l at0).toNat).drop at0.toNat) [] else []
def plusC (l : List JV) (d : Int) : List JV := match l with | [] => [] | x :: r => (x.1, x.2.1, x.2.2.1, x.2.2.2 + d) :: r
def setO (l : List JV) (key : List UInt8) (v : List JV) : List JV :=
  if objO l = false ∨ rightO v = false then [] else if getO l 0 key ≥ 0 then wholeO (l.take (getO l 0 key).toNat ++ (namedO v key ++ l.drop (endO l (getO l 0 key)).toNat)) else wholeO (plusC (l ++ namedO v key) 1)
def dropO (l : List JV) (key : List UInt8) : List JV :=
  if objO l = false then [] else if getO l 0 key < 0 then l else plusC (l.take (getO l 0 key).toNat ++ l.drop (endO l (getO l 0 key)).toNat) (-1)
theorem isPl_iff {l : List JV} {at0 : Int} : isPl l at0 = true ↔ 0 ≤ at0 ∧ at0 < l.length ∧ rightO l = true := by
  unfold isPl
  simp only [Bool.and_eq_true, decide_eq_true_eq, and_assoc]
/-- A place in a right row: what stands there, what it has, and what stands behind. -/
theorem place_split {l : List JV} {k : Nat} (hr : rightO l = true) (hk : k < l.length) : ∃ ks q, l = l.take (k + 1) ++ (List.flatten ks ++ q) ∧ ks.length = (l.getD k zJ).2.2.2.toNat ∧ (∀ p ∈ ks, Vals 1 p) := by
  obtain ⟨w, hw⟩ := (right_vals hr).drop k
  have e : l.drop k = l.getD k zJ :: l.drop (k + 1) := by
    rw [List.drop_eq_getElem_cons hk, List.getD_eq_getElem?_getD, List.getElem?_eq_getElem hk]; rfl
  rw [e] at hw
  obtain ⟨h1, h2, h3⟩ := hw
  rw [Nat.add_comm] at h3
  obtain ⟨ks, q, e2, hl, hv, _⟩ := h3.kids
  exact ⟨ks, q, by rw [← e2, List.take_append_drop], hl, hv⟩
theorem places_pos {l a q : List JV} {ks : List (List JV)} {k : Nat} (hr : rightO l = true) (hk : k < l.length) (e : l = a ++ (List.flatten ks ++ q)) (ha : a.length = k + 1) (hl : ks.length = (l.getD k zJ).2.2.2.toNat) (hv : ∀ p ∈ ks, Vals 1 p) : placesO l k = posK (k + 1) ks := by
  unfold placesO
  rw [if_pos (isPl_iff.2 ⟨by omega, by omega, hr⟩), Int.toNat_natCast, ← hl]
  have := iters_at e hv
  rw [ha] at this
  exact_mod_cast this
theorem posK_lt : ∀ (k : Nat) (ks : List (List JV)), (∀ p ∈ ks, p ≠ []) → ∀ i ∈ posK k ks, (k : Int) ≤ i ∧ i < ((k + ks.flatten.length : Nat) : Int)
  | _, [], _, i, hi => by cases hi
  | k, p :: ks, hp, i, hi => by
    have h1 := List.length_pos_iff.2 (hp p (List.mem_cons_self ..))
    rw [List.flatten_cons, List.length_append]
    rw [posK] at hi
    rcases List.mem_cons.1 hi with rfl | hi
    · omega
    · have := posK_lt (k + p.length) ks (fun x hx => hp x (List.mem_cons_of_mem _ hx)) i hi
      omega
theorem places_lt {l : List JV} {at0 k : Int} (h : k ∈ placesO l at0) : 0 ≤ k ∧ k < l.length := by
  unfold placesO at h
  split at h
  · rename_i hp
    obtain ⟨h0, h1, hr⟩ := isPl_iff.1 hp
    obtain ⟨n, rfl⟩ : ∃ n : Nat, at0 = n := ⟨at0.toNat, by omega⟩
    have hn : n < l.length := by omega
    obtain ⟨ks, q, e, hl, hv⟩ := place_split hr hn
    have hla : (l.take (n + 1)).length = n + 1 := by rw [List.length_take]; omega
    have h2 := iters_at e hv
    rw [Int.toNat_natCast, ← hl] at h
    rw [hla] at h2
    have h3 : k ∈ posK (n + 1) ks := by rw [← h2]; exact_mod_cast h
    have h4 := posK_lt _ _ (fun p hp => (hv p hp).ne (Nat.le_refl _)) k h3
    have h5 : l.length = n + 1 + (ks.flatten.length + q.length) := by
      conv => lhs; rw [e]
      rw [List.length_append, hla, List.length_append]
    omega
  · cases h
theorem getO_range (l : List JV) (at0 : Int) (key : List UInt8) : -1 ≤ getO l at0 key ∧ (getO l at0 key < l.length ∨ getO l at0 key = -1) := by
  unfold getO
  cases hf : (placesO l at0).find? (fun k => keyAt l k == key) with
  | none => simp
  | some k =>
    have := places_lt (List.mem_of_find?_eq_some hf)
    simp only
    split <;> omega
theorem endS_range (n : Nat) : ∀ (l : List JV) (w : Int) (k : Nat), endS n l w k = -1 ∨ ((k : Int) ≤ endS n l w k ∧ endS n l w k ≤ ((k + l.length : Nat) : Int))
  | [], w, k => by unfold endS; split <;> simp
  | x :: r, w, k => by
    unfold endS
    split
    · split
      · exact .inl rfl
      · rcases endS_range n r (w - 1 + x.2.2.2) (k + 1) with h | h
        · exact .inl h
        · right; rw [List.length_cons]; omega
    · right; rw [List.length_cons]; omega
theorem endO_range (l : List JV) (k : Int) : endO l k = -1 ∨ (k ≤ endO l k ∧ 0 ≤ k ∧ endO l k ≤ l.length) := by
  unfold endO
  split
  · exact .inl rfl
  · rcases endS_range l.length (l.drop k.toNat) 1 k.toNat with h | h
    · exact .inl h
    · right; rw [List.length_drop] at h; omega
/-- In a right row each place has an end. -/
theorem endO_right {l : List JV} {k : Nat} (hr : rightO l = true) (hk : k < l.length) : (k : Int) < endO l k ∧ endO l k ≤ l.length := by
  obtain ⟨w, hw⟩ := (right_vals hr).drop k
  have h1 := hw.pos (by rw [Ne, List.drop_eq_nil_iff]; omega)
  rw [show w = 1 + (w - 1) by omega] at hw
  obtain ⟨p, q, e, hp, _⟩ := hw.split
  have e2 : l = l.take k ++ (p ++ q) := by rw [← e, List.take_append_drop]
  have hla : (l.take k).length = k := by rw [List.length_take]; omega
  have h2 := endO_at e2 hp
  rw [hla] at h2
  have h3 := hp.le
  have h4 : l.length = k + (p.length + q.length) := by
    conv => lhs; rw [e2]
    rw [List.length_append, hla, List.length_append]
  omega
/-! ### Objects -/
/-- A right object: its head, and its members. -/
structure ObjR (l : List JV) (x : JV) (ks : List (List JV)) : Prop where
  eq : l = x :: ks.flatten
  right : rightO l = true
  obj : isObj x = true
  len : ks.length = x.2.2.2.toNat
  vals : ∀ k ∈ ks, Vals 1 k
theorem obj_split {l : List JV} (h : objO l = true) : ∃ x ks, ObjR l x ks ∧ fitV false x = true ∧ KidsOk 49 true [] ks := by
  unfold objO at h
  rw [Bool.and_eq_true] at h
  obtain ⟨hl, hs⟩ := (rightO_iff l).1 h.1
  obtain ⟨x, ks, rfl, hf, hn, hk⟩ := (seg_iff 49 false l).1 hs
  have ho : isObj x = true := h.2
  rw [ho] at hk
  exact ⟨x, ks, ⟨rfl, h.1, ho, hn, fun k hk' => (hk.1 k hk').vals⟩, hf, hk⟩
theorem ObjR.obj0 {l : List JV} {x : JV} {ks : List (List JV)} (o : ObjR l x ks) : objO l = true := by
  unfold objO
  rw [o.right, o.eq]
  exact o.obj
theorem keyAt_head {l a p q : List JV} (e : l = a ++ (p ++ q)) (hp : p ≠ []) : keyAt l (a.length : Int) = kk p := by
  cases p with
  | nil => exact absurd rfl hp
  | cons y r =>
    unfold keyAt kk
    rw [e, Int.toNat_natCast]
    simp
theorem ObjR.getAt {l : List JV} {x : JV} {A B : List (List JV)} {p : List JV} {key : List UInt8} (o : ObjR l x (A ++ p :: B)) (hA : ∀ a ∈ A, kk a ≠ key) (hp : kk p = key) : getO l 0 key = ((1 + A.flatten.length : Nat) : Int) ∧ endO l (getO l 0 key) = ((1 + A.flatten.length + p.length : Nat) : Int) := by
  have e1 : l = (x :: A.flatten) ++ (p ++ B.flatten) := by rw [o.eq]; simp
  have hpv := o.vals p (by simp)
  have hpl : placesO l 0 = posK 1 (A ++ p :: B) := by
    have h0 : 0 < l.length := by rw [o.eq]; simp
    have hg : l.getD 0 zJ = x := by rw [o.eq]; rfl
    exact places_pos (a := [x]) (q := []) (k := 0) o.right h0 (by rw [o.eq]; simp) rfl (by rw [o.len, hg]) o.vals
  have hf : ∀ (A : List (List JV)) (a : List JV), l = a ++ ((A ++ p :: B).flatten) → (∀ y ∈ A, kk y ≠ key ∧ y ≠ []) → (posK a.length (A ++ p :: B)).find? (fun k => keyAt l k == key) = some ((a.length + A.flatten.length : Nat) : Int) := by
    intro A
    induction A with
    | nil =>
      intro a e _
      have e2 : l = a ++ (p ++ B.flatten) := by rw [e]; simp
      rw [List.nil_append, posK, List.find?_cons, keyAt_head e2 (hpv.ne (Nat.le_refl _)), hp]
      simp
    | cons y A ih =>
      intro a e h
      have e2 : l = a ++ (y ++ (A ++ p :: B).flatten) := by rw [e]; simp
      obtain ⟨h1, h2⟩ := h y (List.mem_cons_self ..)
      rw [List.cons_append, posK, List.find?_cons, keyAt_head e2 h2, beq_eq_false_iff_ne.2 h1]
      have := ih (a ++ y) (by rw [e]; simp) fun z hz => h z (List.mem_cons_of_mem _ hz)
      rw [List.length_append] at this
      simp only
      rw [this, List.flatten_cons, List.length_append]
      congr 2
      omega
  have h1 : getO l 0 key = ((1 + A.flatten.length : Nat) : Int) := by
    unfold getO
    rw [hpl]
    have := hf A [x] (by rw [o.eq]; simp) fun y hy => ⟨hA y hy, (o.vals y (by simp [hy])).ne (Nat.le_refl _)⟩
    rw [show ([x] : List JV).length = 1 from rfl] at this
    rw [this]
    simp only
    have hg : l.getD (Int.toNat 0) zJ = x := by rw [o.eq]; rfl
    rw [hg, if_pos (by simpa [isObj] using o.obj)]
  refine ⟨h1, ?_⟩
  rw [h1]
  have := endO_at e1 hpv
  rw [List.length_cons] at this
  rw [show 1 + A.flatten.length = A.flatten.length + 1 by omega]
  exact this
theorem ObjR.getNo {l : List JV} {x : JV} {ks : List (List JV)} {key : List UInt8} (o : ObjR l x ks) (hA : ∀ a ∈ ks, kk a ≠ key) : getO l 0 key = -1 := by
  have hpl : placesO l 0 = posK 1 ks := by
    have h0 : 0 < l.length := by rw [o.eq]; simp
    have hg : l.getD 0 zJ = x := by rw [o.eq]; rfl
    exact places_pos (a := [x]) (q := []) (k := 0) o.right h0 (by rw [o.eq]; simp) rfl (by rw [o.len, hg]) o.vals
  have hf : ∀ (ks : List (List JV)) (a : List JV), l = a ++ ks.flatten → (∀ y ∈ ks, kk y ≠ key ∧ y ≠ []) → (posK a.length ks).find? (fun k => keyAt l k == key) = none := by
    intro ks
    induction ks with
    | nil => intro a e _; rfl
    | cons y A ih =>
      intro a e h
      have e2 : l = a ++ (y ++ A.flatten) := by rw [e]; simp
      obtain ⟨h1, h2⟩ := h y (List.mem_cons_self ..)
      rw [posK, List.find?_cons, keyAt_head e2 h2, beq_eq_false_iff_ne.2 h1]
      have := ih (a ++ y) (by rw [e]; simp) fun z hz => h z (List.mem_cons_of_mem _ hz)
      rw [List.length_append] at this
      exact this
  unfold getO
  rw [hpl]
  have := hf ks [x] (by rw [o.eq]; simp) fun y hy => ⟨hA y hy, (o.vals y hy).ne (Nat.le_refl _)⟩
  rw [show ([x] : List JV).length = 1 from rfl] at this
  rw [this]
/-- The members split at the first of a key, or there is none. -/
theorem key_split (ks : List (List JV)) (key : List UInt8) : (∀ a ∈ ks, kk a ≠ key) ∨ ∃ A p B, ks = A ++ p :: B ∧ (∀ a ∈ A, kk a ≠ key) ∧ kk p = key := by
  induction ks with
  | nil => exact .inl fun _ h => by cases h
  | cons k ks ih =>
    by_cases h : kk k = key
    · exact .inr ⟨[], k, ks, rfl, (fun _ h => by cases h), h⟩
    · rcases ih with h1 | ⟨A, p, B, rfl, h2, h3⟩
      · refine .inl fun a ha => ?_
        rcases List.mem_cons.1 ha with rfl | ha
        · exact h
        · exact h1 a ha
      · refine .inr ⟨k :: A, p, B, rfl, fun a ha => ?_, h3⟩
        rcases List.mem_cons.1 ha with rfl | ha
        · exact h
        · exact h2 a ha
theorem cutO_at {l a p q : List JV} (hr : rightO l = true) (e : l = a ++ (p ++ q)) (hv : Vals 1 p) : cutO l a.length = namedO p [] := by
  have hpos := hv.le
  have hl : l.length = a.length + (p.length + q.length) := by rw [e]; simp
  unfold cutO
  rw [if_pos (isPl_iff.2 ⟨by omega, by omega, hr⟩), endO_at e hv, Int.toNat_natCast, Int.toNat_natCast]
  congr 1
  rw [e, ← List.append_assoc, List.take_left' (by simp), List.drop_left]
theorem cutO_no (l : List JV) : cutO l (-1) = [] := by
  unfold cutO
  rw [if_neg (fun h => by have := (isPl_iff.1 h).1; omega)]
/-- What stands at a key. -/
def atKey (ks : List (List JV)) (key : List UInt8) : List JV := match ks.find? (fun p => kk p == key) with | none => [] | some p => namedO p []
theorem atKey_no {ks : List (List JV)} {key : List UInt8} (h : ∀ a ∈ ks, kk a ≠ key) : atKey ks key = [] := by
  unfold atKey
  rw [List.find?_eq_none.2 fun a ha => by simpa using h a ha]
theorem atKey_at {A B : List (List JV)} {p : List JV} {key : List UInt8} (hA : ∀ a ∈ A, kk a ≠ key) (hp : kk p = key) : atKey (A ++ p :: B) key = namedO p [] := by
  unfold atKey
  rw [List.find?_append, List.find?_eq_none.2 fun a ha => by simpa using hA a ha, List.find?_cons, hp]
  simp
theorem atKey_skip {A B : List (List JV)} {p : List JV} {key : List UInt8} (hp : kk p ≠ key) : atKey (A ++ p :: B) key = atKey (A ++ B) key := by
  unfold atKey
  rw [List.find?_append, List.find?_append, List.find?_cons, beq_eq_false_iff_ne.2 hp]
theorem ObjR.cutKey {l : List JV} {x : JV} {ks : List (List JV)} (o : ObjR l x ks) (key : List UInt8) : cutO l (getO l 0 key) = atKey ks key := by
  rcases key_split ks key with h | ⟨A, p, B, rfl, h1, h2⟩
  · rw [o.getNo h, cutO_no, atKey_no h]
  · rw [(o.getAt h1 h2).1, atKey_at h1 h2]
    have e1 : l = (x :: A.flatten) ++ (p ++ B.flatten) := by rw [o.eq]; simp
    have := cutO_at o.right e1 (o.vals p (by simp))
    rw [List.length_cons] at this
    rw [show 1 + A.flatten.length = A.flatten.length + 1 by omega]
    exact this
theorem Vals.named {w : Nat} {p : List JV} (h : Vals w p) (key : List UInt8) : Vals w (namedO p key) := by
  cases p with
  | nil => exact h
  | cons x r => exact h
theorem kk_named {p : List JV} {key : List UInt8} (h : p ≠ []) : kk (namedO p key) = key := by
  cases p with
  | nil => exact absurd rfl h
  | cons x r => rfl
theorem named_self {p : List JV} {key : List UInt8} (h : kk p = key) : namedO p key = p := by
  cases p with
  | nil => rfl
  | cons x r => subst h; rfl
theorem named_named (p : List JV) (a b : List UInt8) : namedO (namedO p a) b = namedO p b := by
  cases p <;> rfl
theorem right_key {l : List JV} (h : rightO l = true) : kk l = [] := by
  obtain ⟨x, ks, rfl, hf, _⟩ := (seg_iff 49 false l).1 ((rightO_iff l).1 h).2
  rcases (fit_own hf).2.1 with h | h
  · cases h
  · exact h
/-! ### What is set, what is dropped -/
theorem ObjR.setAt {l : List JV} {x : JV} {A B : List (List JV)} {p v : List JV} {key : List UInt8} (o : ObjR l x (A ++ p :: B)) (hA : ∀ a ∈ A, kk a ≠ key) (hp : kk p = key) (hv : rightO v = true) : setO l key v = wholeO (x :: (A ++ namedO v key :: B).flatten) := by
  obtain ⟨h1, h2⟩ := o.getAt hA hp
  unfold setO
  rw [if_neg (by rw [o.obj0, hv]; simp), h2, h1, if_pos (by omega), Int.toNat_natCast, Int.toNat_natCast]
  have e1 : l = (x :: A.flatten) ++ (p ++ B.flatten) := by rw [o.eq]; simp
  have e3 : l.take (1 + A.flatten.length) = x :: A.flatten := by rw [e1, List.take_left' (by simp; omega)]
  have e4 : l.drop (1 + A.flatten.length + p.length) = B.flatten := by rw [e1, ← List.append_assoc, List.drop_left' (by simp; omega)]
  rw [e3, e4]
  simp
theorem ObjR.setNo {l : List JV} {x : JV} {ks : List (List JV)} {v : List JV} {key : List UInt8} (o : ObjR l x ks) (hA : ∀ a ∈ ks, kk a ≠ key) (hv : rightO v = true) : setO l key v = wholeO ((x.1, x.2.1, x.2.2.1, x.2.2.2 + 1) :: (ks ++ [namedO v key]).flatten) := by
  have h1 := o.getNo hA
  unfold setO
  rw [if_neg (by rw [o.obj0, hv]; simp), h1, if_neg (by decide), o.eq]
  congr 1
  simp [plusC]
theorem ObjR.dropAt {l : List JV} {x : JV} {A B : List (List JV)} {p : List JV} {key : List UInt8} (o : ObjR l x (A ++ p :: B)) (hA : ∀ a ∈ A, kk a ≠ key) (hp : kk p = key) : dropO l key = (x.1, x.2.1, x.2.2.1, x.2.2.2 + -1) :: (A ++ B).flatten := by
  obtain ⟨h1, h2⟩ := o.getAt hA hp
  unfold dropO
  rw [if_neg (by rw [o.obj0]; simp), h2, h1, if_neg (by omega), Int.toNat_natCast, Int.toNat_natCast]
  have e1 : l = (x :: A.flatten) ++ (p ++ B.flatten) := by rw [o.eq]; simp
  have e3 : l.take (1 + A.flatten.length) = x :: A.flatten := by rw [e1, List.take_left' (by simp; omega)]
  have e4 : l.drop (1 + A.flatten.length + p.length) = B.flatten := by rw [e1, ← List.append_assoc, List.drop_left' (by simp; omega)]
  rw [e3, e4]
  simp [plusC]
theorem ObjR.dropNo {l : List JV} {x : JV} {ks : List (List JV)} {key : List UInt8} (o : ObjR l x ks) (hA : ∀ a ∈ ks, kk a ≠ key) : dropO l key = l := by
  unfold dropO
  rw [if_neg (by rw [o.obj0]; simp), o.getNo hA, if_pos (by decide)]
theorem whole_ne {l : List JV} (h : wholeO l ≠ []) : rightO l = true ∧ wholeO l = l := by
  unfold wholeO at h ⊢
  split at h
  · rename_i hr; exact ⟨hr, by rw [if_pos hr]⟩
  · exact absurd rfl h
end Go.Proofs.YtjopikfkgjbcgaaDoor
