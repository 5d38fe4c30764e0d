/- Compare: plain laws. -/
import Derived.Test.YtfnippeemboljaaDoorWg
namespace Go.Proofs.YtfnippeemboljaaDoor
set_option linter.unnecessarySimpa false
set_option linter.unusedSimpArgs false
set_option linter.unusedVariables false
open Go.RowKit
abbrev cb (x y : Str) : Int := Go.Lib.compareBytes x y
theorem cb_nil : cb [] [] = 0 := rfl
theorem cb_cons (a b : UInt8) (x y : Str) : cb (a :: x) (b :: y) = if a < b then -1 else if b < a then 1 else cb x y := rfl
theorem u8_tri (a b : UInt8) : a < b ∨ a = b ∨ b < a := by
  rcases Nat.lt_trichotomy a.toNat b.toNat with h | h | h
  · exact .inl (UInt8.lt_iff_toNat_lt.2 h)
  · exact .inr (.inl (UInt8.toNat_inj.1 h))
  · exact .inr (.inr (UInt8.lt_iff_toNat_lt.2 h))
theorem u8_irr (a : UInt8) : ¬ a < a := fun h => Nat.lt_irrefl _ (UInt8.lt_iff_toNat_lt.1 h)
theorem u8_asy {a b : UInt8} (h : a < b) : ¬ b < a := fun k => by
  have := UInt8.lt_iff_toNat_lt.1 h
  have := UInt8.lt_iff_toNat_lt.1 k
  omega
theorem u8_trans {a b c : UInt8} (h : a < b) (k : b < c) : a < c := UInt8.lt_iff_toNat_lt.2 (Nat.lt_trans (UInt8.lt_iff_toNat_lt.1 h) (UInt8.lt_iff_toNat_lt.1 k))
theorem cb_lt (x y : Str) : Op.bytesLess x y = decide (cb x y < 0) := by
  induction x generalizing y with
  | nil => cases y <;> rfl
  | cons a x ih =>
    cases y with
    | nil => rfl
    | cons b y =>
      rw [Op.bytesLess, ih y, cb_cons]
      rcases u8_tri a b with h | h | h
      · simp [h]
      · subst h; simp [u8_irr]
      · have : a ≠ b := fun e => by subst e; exact u8_irr _ h
        simp [u8_asy h, h, this]
theorem cb_anti (x y : Str) : cb x y = - cb y x := by
  induction x generalizing y with
  | nil => cases y <;> rfl
  | cons a x ih =>
    cases y with
    | nil => rfl
    | cons b y =>
      rw [cb_cons, cb_cons]
      rcases u8_tri a b with h | h | h
      · rw [if_pos h, if_neg (u8_asy h), if_pos h]
      · subst h; rw [if_neg (u8_irr _), if_neg (u8_irr _), if_neg (u8_irr _), if_neg (u8_irr _), ih]
      · rw [if_neg (u8_asy h), if_pos h, if_pos h]; rfl
theorem cb_eq (x y : Str) : cb x y = 0 ↔ x = y := by
  induction x generalizing y with
  | nil => cases y <;> simp [cb, Go.Lib.compareBytes]
  | cons a x ih =>
    cases y with
    | nil => simp [cb, Go.Lib.compareBytes]
    | cons b y =>
      rw [cb_cons]
      rcases u8_tri a b with h | h | h
      · rw [if_pos h]
        exact ⟨fun q => by omega, fun q => by rw [(List.cons.inj q).1] at h; exact absurd h (u8_irr _)⟩
      · subst h; rw [if_neg (u8_irr _), if_neg (u8_irr _), ih]; simp
      · rw [if_neg (u8_asy h), if_pos h]
        exact ⟨fun q => by omega, fun q => by rw [(List.cons.inj q).1] at h; exact absurd h (u8_irr _)⟩
theorem cb_val (x y : Str) : cb x y = -1 ∨ cb x y = 0 ∨ cb x y = 1 := by
  induction x generalizing y with
  | nil => cases y <;> simp [cb, Go.Lib.compareBytes]
  | cons a x ih =>
    cases y with
    | nil => simp [cb, Go.Lib.compareBytes]
    | cons b y =>
      rw [cb_cons]
      rcases u8_tri a b with h | h | h
      · rw [if_pos h]; exact .inl rfl
      · subst h; rw [if_neg (u8_irr _), if_neg (u8_irr _)]; exact ih y
      · rw [if_neg (u8_asy h), if_pos h]; exact .inr (.inr rfl)
theorem cb_trans (x y z : Str) (h1 : cb x y < 0) (h2 : cb y z < 0) : cb x z < 0 := by
  induction x generalizing y z with
  | nil =>
    cases z with
    | nil => cases y <;> simp [cb, Go.Lib.compareBytes] at h1 h2
    | cons c z => exact (by decide : (-1 : Int) < 0)
  | cons a x ih =>
    cases y with
    | nil => simp [cb, Go.Lib.compareBytes] at h1
    | cons b y =>
      cases z with
      | nil => simp [cb, Go.Lib.compareBytes] at h2
      | cons c z =>
        rw [cb_cons] at h1 h2 ⊢
        rcases u8_tri a b with h | h | h
        · rcases u8_tri b c with k | k | k
          · rw [if_pos (u8_trans h k)]; decide
          · subst k; rw [if_pos h]; decide
          · rw [if_neg (u8_asy k), if_pos k] at h2; omega
        · subst h
          rw [if_neg (u8_irr _), if_neg (u8_irr _)] at h1
          rcases u8_tri a c with k | k | k
          · rw [if_pos k]; decide
          · subst k
            rw [if_neg (u8_irr _), if_neg (u8_irr _)] at h2 ⊢
            exact ih y z h1 h2
          · rw [if_neg (u8_asy k), if_pos k] at h2; omega
        · rw [if_neg (u8_asy h), if_pos h] at h1; omega
/-! ### Paths, part by part -/
theorem cmpP_cons (x y : Str) (l m : List Str) : cmpP (x :: l) (y :: m) = if cb x y = 0 then cmpP l m else cb x y := rfl
theorem cmpP_anti (l m : List Str) : cmpP l m = - cmpP m l := by
  induction l generalizing m with
  | nil => cases m <;> rfl
  | cons x l ih =>
    cases m with
    | nil => rfl
    | cons y m =>
      rw [cmpP_cons, cmpP_cons, cb_anti y x]
      by_cases h : cb x y = 0
      · rw [if_pos h, if_pos (by omega), ih]
      · rw [if_neg h, if_neg (by omega)]; omega
theorem cmpP_eq (l m : List Str) : cmpP l m = 0 ↔ l = m := by
  induction l generalizing m with
  | nil => cases m <;> simp [cmpP]
  | cons x l ih =>
    cases m with
    | nil => simp [cmpP]
    | cons y m =>
      rw [cmpP_cons]
      by_cases h : cb x y = 0
      · rw [if_pos h, ih, (cb_eq x y).1 h]; simp
      · rw [if_neg h]
        exact ⟨fun q => absurd q h, fun q => absurd ((cb_eq x y).2 (List.cons.inj q).1) h⟩
theorem cmpP_trans (l m n : List Str) (h1 : cmpP l m < 0) (h2 : cmpP m n < 0) : cmpP l n < 0 := by
  induction l generalizing m n with
  | nil =>
    cases n with
    | nil => cases m <;> simp [cmpP] at h1 h2
    | cons z n => exact (by decide : (-1 : Int) < 0)
  | cons x l ih =>
    cases m with
    | nil => simp [cmpP] at h1
    | cons y m =>
      cases n with
      | nil => simp [cmpP] at h2
      | cons z n =>
        rw [cmpP_cons] at h1 h2 ⊢
        by_cases h : cb x y = 0
        · rw [if_pos h] at h1
          have e := (cb_eq x y).1 h
          subst e
          by_cases k : cb x z = 0
          · rw [if_pos k] at h2 ⊢; exact ih m n h1 h2
          · rw [if_neg k] at h2 ⊢; exact h2
        · rw [if_neg h] at h1
          by_cases k : cb y z = 0
          · have e := (cb_eq y z).1 k
            subst e
            rw [if_neg h]; exact h1
          · rw [if_neg k] at h2
            have := cb_trans x y z h1 h2
            rw [if_neg (by omega)]; exact this
theorem cmpP_drop {l m : List Str} {k : Nat} (hl : k < l.length) (hm : k < m.length) : cmpP (l.drop k) (m.drop k) = if cb (l.getD k []) (m.getD k []) = 0 then cmpP (l.drop (k + 1)) (m.drop (k + 1)) else cb (l.getD k []) (m.getD k []) := by
  have e1 : l.drop k = l.getD k [] :: l.drop (k + 1) := by rw [List.drop_eq_getElem_cons hl]; simp [hl]
  have e2 : m.drop k = m.getD k [] :: m.drop (k + 1) := by rw [List.drop_eq_getElem_cons hm]; simp [hm]
  rw [e1, e2, cmpP_cons]
theorem cmpP_end {l m : List Str} {k : Nat} (hl : k ≤ l.length) (hm : k ≤ m.length) (h : ¬ (k < l.length ∧ k < m.length)) : cmpP (l.drop k) (m.drop k) = if l.length < m.length then -1 else if l.length > m.length then 1 else 0 := by
  by_cases h1 : k = l.length
  · rw [List.drop_of_length_le (l := l) (by omega)]
    by_cases h2 : k = m.length
    · rw [List.drop_of_length_le (l := m) (by omega), if_neg (by omega), if_neg (by omega)]; rfl
    · rw [List.drop_eq_getElem_cons (show k < m.length by omega), if_pos (by omega)]; rfl
  · have h2 : k = m.length := by omega
    rw [List.drop_of_length_le (l := m) (by omega), List.drop_eq_getElem_cons (show k < l.length by omega), if_neg (by omega), if_pos (by omega)]; rfl
def orI (p q : Int) : Int := if p = 0 then q else p
theorem cmpP_or (x y : Str) (l m : List Str) (h : l = [] ∨ m = []) : cmpP (x :: l) (y :: m) = orI (cb x y) (Go.Lib.compareInt l.length m.length) := by
  rw [cmpP_cons]
  unfold orI
  have : cmpP l m = Go.Lib.compareInt l.length m.length := by
    unfold Go.Lib.compareInt
    rcases h with rfl | rfl
    · cases m with
      | nil => rfl
      | cons y m => rw [if_pos (by simp)]; rfl
    · cases l with
      | nil => rfl
      | cons y m => rw [if_neg (by simp; omega), if_pos (by simp)]; rfl
  rw [this]
/-! ### Cut, and the parts -/
theorem cut_parts (s : Str) : parts s = (cutO s).1 :: (if (cutO s).2.2 = true then parts (cutO s).2.1 else []) := by
  rcases idx47 s with ⟨_, h⟩ | ⟨u, v, rfl, h, _⟩
  · rw [cutO_no h, parts_one s h]; rfl
  · rw [cutO_yes h, parts_app u v h]; rfl
theorem cut_len (s : Str) : (cutO s).2.1.length ≤ s.length ∧ (s ≠ [] → (cutO s).2.1.length < s.length) := by
  rcases idx47 s with ⟨_, h⟩ | ⟨u, v, rfl, h, _⟩
  · rw [cutO_no h]; exact ⟨Nat.zero_le _, fun q => List.length_pos_iff.2 q⟩
  · rw [cutO_yes h]; simp; omega
theorem cut_len1 (s : Str) : (cutO s).1.length ≤ s.length := by
  rcases idx47 s with ⟨_, h⟩ | ⟨u, v, rfl, h, _⟩
  · rw [cutO_no h]; exact Nat.le_refl _
  · rw [cutO_yes h]; simp
theorem count_tail (s : Str) : ((s.count 47 : Nat) : Int) = ((if (cutO s).2.2 = true then parts (cutO s).2.1 else []).length : Int) := by
  have h1 := parts_len s
  rw [cut_parts s, List.length_cons] at h1
  omega
theorem compareO_ne {a b : Str} (ha : a ≠ []) (hb : b ≠ []) : compareO a b = cmpP (parts a) (parts b) := by
  unfold compareO tparts
  rw [if_neg ha, if_neg hb]
theorem compareO_nil {a b : Str} (h : a = [] ∨ b = []) : compareO a b = Go.Lib.compareInt a.length b.length := by
  have hp : ∀ s : Str, s ≠ [] → ∃ x l, tparts s = x :: l := fun s hs => by
    unfold tparts
    rw [if_neg hs]
    cases hh : parts s with
    | nil => exact absurd hh (parts_ne s)
    | cons x l => exact ⟨x, l, rfl⟩
  have h0 : tparts [] = [] := rfl
  unfold compareO Go.Lib.compareInt
  by_cases ha : a = []
  · subst ha
    by_cases hb : b = []
    · subst hb; rfl
    · obtain ⟨y, m, e⟩ := hp b hb
      have := List.length_pos_iff.2 hb
      rw [e, h0, if_pos (by simp; omega)]; rfl
  · have hb : b = [] := h.resolve_left ha
    subst hb
    obtain ⟨y, m, e⟩ := hp a ha
    have := List.length_pos_iff.2 ha
    rw [e, h0, if_neg (by simp), if_pos (by simp; omega)]; rfl
end Go.Proofs.YtfnippeemboljaaDoor
