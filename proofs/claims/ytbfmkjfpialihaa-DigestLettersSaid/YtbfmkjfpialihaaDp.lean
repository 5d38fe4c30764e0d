/- Digests as texts, as plain functions on lists; no program in sight. -/
import Derived.Test.YtbfmkjfpialihaaWh
namespace Go.Proofs.Ytbfmkjfpialihaa
set_option linter.unnecessarySimpa false
set_option linter.unusedSimpArgs false
set_option linter.unusedVariables false
def hexd : List UInt8 := [48, 49, 50, 51, 52, 53, 54, 55, 56, 57, 97, 98, 99, 100, 101, 102]
def pre7 : List UInt8 := [115, 104, 97, 50, 53, 54, 58]
/-- A hex digit's letter; a letter's value, 16 if it has none. -/
def hx (n : Nat) : UInt8 := hexd.getD n 0
def val (c : UInt8) : Nat := if 48 ≤ c.toNat ∧ c.toNat ≤ 57 then c.toNat - 48 else if 97 ≤ c.toNat ∧ c.toNat ≤ 102 then c.toNat - 87 else 16
def prH (d : List UInt8) : List UInt8 := d.flatMap fun c => [hx (c.toNat / 16), hx (c.toNat % 16)]
/-- A digest's text. -/
def prD (d : List UInt8) : List UInt8 := pre7 ++ prH d
def good (t : List UInt8) : Bool := t.all fun c => decide (val c < 16)
def at16 (t : List UInt8) (i : Nat) : UInt8 := UInt8.ofNat (16 * val (t.getD (2 * i) 0) + val (t.getD (2 * i + 1) 0))
def unhex (t : List UInt8) : List UInt8 := (List.range 32).map (at16 t)
def isD (s : List UInt8) : Bool := decide (s.length = 71) && s.take 7 == pre7 && good (s.drop 7)
def zero32 : List UInt8 := List.replicate 32 0
/-- What a text is parsed as. -/
def parseD (s : List UInt8) : List UInt8 × Bool := if isD s = true then (unhex (s.drop 7), true) else (zero32, false)
/-- Which of two is less. -/
def lessL : List UInt8 → List UInt8 → Bool
  | x :: xs, y :: ys => if x = y then lessL xs ys else decide (x.toNat < y.toNat)
  | _, _ => false
theorem byte_all {p : UInt8 → Prop} [DecidablePred p] (h : ∀ n : Fin 256, p (UInt8.ofNat n.val)) (c : UInt8) : p c := by
  have := h ⟨c.toNat, c.toNat_lt⟩
  simpa using this
theorem val_le (c : UInt8) : val c ≤ 16 := by unfold val; split <;> (try split) <;> omega
theorem val_hx_fin : ∀ n : Fin 16, val (hx n.val) = n.val := by decide +kernel
theorem val_hx (n : Nat) (h : n < 16) : val (hx n) = n := val_hx_fin ⟨n, h⟩
theorem hx_val_fin : ∀ n : Fin 256, val (UInt8.ofNat n.val) < 16 → hx (val (UInt8.ofNat n.val)) = UInt8.ofNat n.val := by decide +kernel
theorem hx_val (c : UInt8) (h : val c < 16) : hx (val c) = c := by
  have := hx_val_fin ⟨c.toNat, c.toNat_lt⟩
  simp only [UInt8.ofNat_toNat] at this
  exact this h
theorem idx_fin : ∀ n : Fin 256, Go.Lib.indexByte hexd (UInt8.ofNat n.val) = if val (UInt8.ofNat n.val) < 16 then (val (UInt8.ofNat n.val) : Int) else -1 := by decide +kernel
theorem idx_hex (c : UInt8) : Go.Lib.indexByte hexd c = if val c < 16 then (val c : Int) else -1 := by
  have := idx_fin ⟨c.toNat, c.toNat_lt⟩
  simpa only [UInt8.ofNat_toNat] using this
theorem prH_len (d : List UInt8) : (prH d).length = 2 * d.length := by
  induction d with
  | nil => rfl
  | cons c d ih => simp [prH] at ih ⊢; omega
theorem prD_len (d : List UInt8) : (prD d).length = 7 + 2 * d.length := by simp [prD, prH_len, pre7]; omega
theorem prH_succ (d : List UInt8) (k : Nat) (h : k < d.length) : prH (d.take (k + 1)) = prH (d.take k) ++ [hx ((d.getD k 0).toNat / 16), hx ((d.getD k 0).toNat % 16)] := by
  rw [List.take_add_one, List.getElem?_eq_getElem h]
  unfold prH
  rw [List.flatMap_append]
  congr 1
  simp [h]
theorem prH_get (d : List UInt8) (i : Nat) (h : i < d.length) : (prH d).getD (2 * i) 0 = hx ((d.getD i 0).toNat / 16) ∧ (prH d).getD (2 * i + 1) 0 = hx ((d.getD i 0).toNat % 16) := by
  induction d generalizing i with
  | nil => cases h
  | cons c d ih =>
    cases i with
    | zero => simp [prH]
    | succ i =>
      have := ih i (by simpa using h)
      simp only [prH, List.flatMap_cons] at this ⊢
      rw [show 2 * (i + 1) = (2 * i) + 1 + 1 by omega, show (2 * i) + 1 + 1 + 1 = (2 * i + 1) + 1 + 1 by omega]
      simpa using this
theorem prH_good (d : List UInt8) : good (prH d) = true := by
  unfold good prH
  rw [List.all_eq_true]
  intro c hc
  obtain ⟨x, _, hx'⟩ := List.mem_flatMap.1 hc
  have h1 := x.toNat_lt
  simp at hx'
  rcases hx' with rfl | rfl
  · rw [val_hx _ (by omega)]; simp; omega
  · rw [val_hx _ (by omega)]; simp; omega
theorem list_ext32 {a b : List UInt8} (ha : a.length = 32) (hb : b.length = 32) (h : ∀ i, i < 32 → a.getD i 0 = b.getD i 0) : a = b := by
  apply List.ext_getElem (by omega)
  intro i h1 h2
  have := h i (by omega)
  rw [List.getD_eq_getElem?_getD, List.getD_eq_getElem?_getD, List.getElem?_eq_getElem h1, List.getElem?_eq_getElem h2] at this
  exact this
theorem unhex_len (t : List UInt8) : (unhex t).length = 32 := by simp [unhex]
theorem unhex_get (t : List UInt8) (i : Nat) (h : i < 32) : (unhex t).getD i 0 = at16 t i := by
  simp [unhex, h]
theorem unhex_prH (d : List UInt8) (h : d.length = 32) : unhex (prH d) = d := by
  refine list_ext32 (unhex_len _) h fun i hi => ?_
  rw [unhex_get _ _ hi, at16]
  obtain ⟨h1, h2⟩ := prH_get d i (by omega)
  rw [h1, h2]
  have := (d.getD i 0).toNat_lt
  rw [val_hx _ (by omega), val_hx _ (by omega), show 16 * ((d.getD i 0).toNat / 16) + (d.getD i 0).toNat % 16 = (d.getD i 0).toNat by omega]
  simp
/-- What is printed is parsed as it was. -/
theorem parse_prD (d : List UInt8) (h : d.length = 32) : parseD (prD d) = (d, true) := by
  have h1 : isD (prD d) = true := by
    unfold isD
    rw [prD_len, h]
    simp [prD, pre7]
    exact prH_good d
  unfold parseD
  rw [if_pos h1]
  have : (prD d).drop 7 = prH d := by simp [prD, pre7]
  rw [this, unhex_prH d h]
theorem good_at {t : List UInt8} (h : good t = true) {i : Nat} (hi : i < t.length) : val (t.getD i 0) < 16 := by
  unfold good at h
  rw [List.all_eq_true] at h
  have := h t[i] (List.getElem_mem hi)
  simpa [hi] using this
theorem list_ext64 {a b : List UInt8} (ha : a.length = 64) (hb : b.length = 64) (h : ∀ i, i < 32 → a.getD (2 * i) 0 = b.getD (2 * i) 0 ∧ a.getD (2 * i + 1) 0 = b.getD (2 * i + 1) 0) : a = b := by
  apply List.ext_getElem (by omega)
  intro i h1 h2
  have h3 : a.getD i 0 = b.getD i 0 := by
    rcases Nat.mod_two_eq_zero_or_one i with e | e
    · have := (h (i / 2) (by omega)).1
      rwa [show 2 * (i / 2) = i by omega] at this
    · have := (h (i / 2) (by omega)).2
      rwa [show 2 * (i / 2) + 1 = i by omega] at this
  rw [List.getD_eq_getElem?_getD, List.getD_eq_getElem?_getD, List.getElem?_eq_getElem h1, List.getElem?_eq_getElem h2] at h3
  exact h3
theorem prH_unhex (t : List UInt8) (hl : t.length = 64) (hg : good t = true) : prH (unhex t) = t := by
  refine list_ext64 (by rw [prH_len, unhex_len]) hl fun i hi => ?_
  obtain ⟨h1, h2⟩ := prH_get (unhex t) i (by rw [unhex_len]; exact hi)
  rw [h1, h2, unhex_get _ _ hi]
  have q1 := good_at hg (i := 2 * i) (by omega)
  have q2 := good_at hg (i := 2 * i + 1) (by omega)
  have e : (at16 t i).toNat = 16 * val (t.getD (2 * i) 0) + val (t.getD (2 * i + 1) 0) := by
    unfold at16
    rw [UInt8.toNat_ofNat']
    omega
  rw [e, show (16 * val (t.getD (2 * i) 0) + val (t.getD (2 * i + 1) 0)) / 16 = val (t.getD (2 * i) 0) by omega, show (16 * val (t.getD (2 * i) 0) + val (t.getD (2 * i + 1) 0)) % 16 = val (t.getD (2 * i + 1) 0) by omega]
  exact ⟨hx_val _ q1, hx_val _ q2⟩
/-- What is parsed is printed as it was. -/
theorem prD_parse (s : List UInt8) (h : (parseD s).2 = true) : prD (parseD s).1 = s := by
  unfold parseD at h ⊢
  split at h
  · rename_i hd
    rw [if_pos hd]
    unfold isD at hd
    simp only [Bool.and_eq_true, decide_eq_true_eq, beq_iff_eq] at hd
    obtain ⟨⟨h1, h2⟩, h3⟩ := hd
    simp only [prD]
    rw [prH_unhex _ (by simp; omega) h3, ← h2, List.take_append_drop]
  · cases h
theorem parse_no (s : List UInt8) (h : (parseD s).2 = false) : (parseD s).1 = zero32 := by
  unfold parseD at h ⊢
  split at h
  · cases h
  · rename_i hd
    rw [if_neg hd]
theorem parse_len (s : List UInt8) : (parseD s).1.length = 32 := by
  unfold parseD
  split
  · exact unhex_len _
  · rfl
/-! ### Order -/
theorem less_irrefl (a : List UInt8) : lessL a a = false := by
  induction a with
  | nil => rfl
  | cons x a ih => simp [lessL, ih]
theorem less_asymm (a b : List UInt8) : lessL a b = true → lessL b a = false := by
  induction a generalizing b with
  | nil => intro h; cases b <;> simp [lessL] at h
  | cons x a ih =>
    cases b with
    | nil => intro h; simp [lessL] at h
    | cons y b =>
      unfold lessL
      by_cases e : x = y
      · subst e; simpa using ih b
      · rw [if_neg e, if_neg (Ne.symm e)]
        simp; omega
theorem less_total (a b : List UInt8) (h : a.length = b.length) : (lessL a b || lessL b a) = !(a == b) := by
  induction a generalizing b with
  | nil => cases b with
    | nil => rfl
    | cons => cases h
  | cons x a ih =>
    cases b with
    | nil => cases h
    | cons y b =>
      unfold lessL
      by_cases e : x = y
      · subst e
        have := ih b (by simpa using h)
        simpa using this
      · rw [if_neg e, if_neg (Ne.symm e)]
        have : x.toNat ≠ y.toNat := fun q => e (UInt8.toNat_inj.1 q)
        have h1 : (x :: a == y :: b) = false := by simp [e]
        rw [h1]
        simp; omega
theorem less_trans (a b c : List UInt8) : lessL a b = true → lessL b c = true → lessL a c = true := by
  induction a generalizing b c with
  | nil => intro h; cases b <;> simp [lessL] at h
  | cons x a ih =>
    cases b with
    | nil => intro h; simp [lessL] at h
    | cons y b =>
      cases c with
      | nil => intro _ h; simp [lessL] at h
      | cons z c =>
        unfold lessL
        by_cases e1 : x = y
        · subst e1
          by_cases e2 : x = z
          · subst e2; simpa using ih b c
          · simp [e2]
        · by_cases e2 : y = z
          · subst e2
            simp only [e1, if_false, if_true]
            exact fun h _ => h
          · rw [if_neg e1, if_neg e2]
            intro h1 h2
            simp at h1 h2
            have e3 : x ≠ z := by intro q; subst q; omega
            rw [if_neg e3]
            simp; omega
/-- slices.Compare's answer. -/
def cmpL : List UInt8 → List UInt8 → Int
  | x :: xs, y :: ys => if x = y then cmpL xs ys else if x.toNat < y.toNat then -1 else 1
  | _, _ => 0
theorem cmp_less (a b : List UInt8) : decide (cmpL a b < 0) = lessL a b := by
  induction a generalizing b with
  | nil => cases b <;> rfl
  | cons x a ih =>
    cases b with
    | nil => rfl
    | cons y b =>
      unfold cmpL lessL
      by_cases e : x = y
      · rw [if_pos e, if_pos e]; exact ih b
      · rw [if_neg e, if_neg e]
        by_cases h : x.toNat < y.toNat <;> simp [h]
/-! ### Half bytes, one by one -/
def dA (t : List UInt8) : Nat → List UInt8
  | 0 => zero32
  | k + 1 => (dA t k).set (k / 2) (UInt8.ofNat ((((dA t k).getD (k / 2) 0).toNat * 16) % 256 + val (t.getD k 0)))
theorem dA_len (t : List UInt8) (k : Nat) : (dA t k).length = 32 := by
  induction k with
  | zero => rfl
  | succ k ih => simp [dA, ih]
theorem dA_zero (t : List UInt8) (k j : Nat) (h : k ≤ 2 * j) : (dA t k).getD j 0 = 0 := by
  induction k with
  | zero =>
    show (List.replicate 32 (0 : UInt8)).getD j 0 = 0
    rw [List.getD_eq_getElem?_getD, List.getElem?_replicate]
    split <;> rfl
  | succ k ih =>
    rw [dA, getD_set_ne _ _ _ _ _ (by omega)]
    exact ih (by omega)
theorem dA_full (t : List UInt8) (i : Nat) (hi : i ≤ 32) : dA t (2 * i) = (List.range i).map (at16 t) ++ List.replicate (32 - i) 0 := by
  induction i with
  | zero => rfl
  | succ i ih =>
    have h0 := dA_zero t (2 * i) i (Nat.le_refl _)
    have hl := dA_len t (2 * i)
    rw [show 2 * (i + 1) = 2 * i + 1 + 1 by omega]
    simp only [dA]
    rw [show (2 * i) / 2 = i by omega, show (2 * i + 1) / 2 = i by omega, h0, getD_set_self _ _ _ _ (by omega), List.set_set, ih (by omega)]
    have v1 := val_le (t.getD (2 * i) 0)
    have e : UInt8.ofNat ((UInt8.ofNat ((0 : UInt8).toNat * 16 % 256 + val (t.getD (2 * i) 0))).toNat * 16 % 256 + val (t.getD (2 * i + 1) 0)) = at16 t i := by
      unfold at16
      apply UInt8.toNat_inj.1
      simp only [UInt8.toNat_ofNat']
      simp
      omega
    rw [e, fill_step (at16 t) 32 i 0 (by omega)]
theorem dA_unhex (t : List UInt8) : dA t 64 = unhex t := by
  have := dA_full t 32 (Nat.le_refl _)
  simpa [unhex] using this
end Go.Proofs.Ytbfmkjfpialihaa
