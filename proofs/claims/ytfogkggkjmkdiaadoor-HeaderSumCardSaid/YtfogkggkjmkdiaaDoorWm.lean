/- Plain laws: what is written is read as it was; blanks do not matter. -/
import Derived.Test.YtfogkggkjmkdiaaDoorWl
namespace Go.Proofs.YtfogkggkjmkdiaaDoor
set_option linter.unnecessarySimpa false
set_option linter.unusedSimpArgs false
set_option linter.unusedVariables false
open Go.RowKit
theorem pad_isO (c : UInt8) (h : isPad c = true) : isO c = false := by
  cases e : isO c with
  | false => rfl
  | true => rw [pad_not c e] at h; cases h
theorem refO_app (ds : List UInt8) (h : ∀ c ∈ ds, isO c = true) : ∀ (n : Nat) (t : List UInt8), refO n (ds ++ t) = if (goO n ds).2 = true then refO (goO n ds).1 t else (0, false) := by
  induction ds with
  | nil => intro n t; rfl
  | cons c s ih =>
    intro n t
    have hc := h c (List.mem_cons_self ..)
    rw [List.cons_append, refO, goO, if_pos hc, if_pos hc]
    split
    · rw [ih (fun c hc => h c (List.mem_cons_of_mem _ hc))]
    · rfl
theorem goO_app (ds : List UInt8) : ∀ (n : Nat) (t : List UInt8), goO n (ds ++ t) = if (goO n ds).2 = true then goO (goO n ds).1 t else (0, false) := by
  induction ds with
  | nil => intro n t; rfl
  | cons c s ih =>
    intro n t
    rw [List.cons_append, goO, goO]
    split
    · split
      · rw [ih]
      · rfl
    · rfl
theorem goB_app (ds : List UInt8) : ∀ (n : Nat) (t : List UInt8), goB n (ds ++ t) = if (goB n ds).2 = true then goB (goB n ds).1 t else (0, false) := by
  induction ds with
  | nil => intro n t; rfl
  | cons c s ih =>
    intro n t
    rw [List.cons_append, goB, goB]
    split
    · rw [ih]
    · rfl
theorem refO_pads (n : Nat) (t : List UInt8) (h : t.all isPad = true) : refO n t = (n, true) := by
  cases t with
  | nil => rfl
  | cons c s =>
    have hc : isPad c = true := by rw [List.all_cons] at h; exact (Bool.and_eq_true _ _ ▸ h).1
    rw [refO, if_neg (by rw [pad_isO c hc]; decide), if_pos h]
theorem mv_fits (k n d : Nat) (h : n * 2 ^ k + d ≤ 4611686018427387904) : mv k n d = (n * 2 ^ k + d, true) := by
  unfold mv
  rw [if_neg]
  have h1 : n * 2 ^ k ≤ 4611686018427387904 - d := by omega
  have h2 := (Nat.le_div_iff_mul_le (Nat.pow_pos (by decide) : 0 < 2 ^ k)).2 h1
  omega
theorem let_toNat (d : Nat) (h : d < 8) : (UInt8.ofNat (d + 48)).toNat = d + 48 := by
  rw [UInt8.toNat_ofNat']
  omega
theorem let_isO (d : Nat) (h : d < 8) : isO (UInt8.ofNat (d + 48)) = true := isO_yes (by rw [let_toNat d h]; omega)
theorem dgts_succ (b n m : Nat) : dgts b n (m + 1) = dgts b (n / 2 ^ b) m ++ [n % 2 ^ b] := by
  rw [← dgR_dgts, ← dgR_dgts]
  rfl
theorem goO_val : ∀ (m n0 N : Nat), N < 8 ^ m → n0 * 8 ^ m + N ≤ 4611686018427387904 → goO n0 ((dgts 3 N m).map (fun d => UInt8.ofNat (d + 48))) = (n0 * 8 ^ m + N, true) := by
  intro m
  induction m with
  | zero =>
    intro n0 N h1 h2
    have : N = 0 := by omega
    subst this
    simp [dgts, goO]
  | succ m ih =>
    intro n0 N h1 h2
    have e8 : (8 : Nat) ^ (m + 1) = 8 ^ m * 8 := Nat.pow_succ 8 m
    rw [e8] at h1 h2 ⊢
    have ea : n0 * (8 ^ m * 8) = (n0 * 8 ^ m) * 8 := (Nat.mul_assoc _ _ _).symm
    rw [ea] at h2 ⊢
    rw [dgts_succ, List.map_append, goO_app, show N / 2 ^ 3 = N / 8 from rfl, show N % 2 ^ 3 = N % 8 from rfl, ih n0 (N / 8) (by omega) (by omega)]
    rw [if_pos rfl]
    simp only [List.map_cons, List.map_nil]
    rw [goO, if_pos (let_isO _ (by omega)), let_toNat _ (by omega), show N % 8 + 48 - 48 = N % 8 by omega, mv_fits 3 _ _ (by omega)]
    rw [if_pos rfl]
    simp only [goO]
    congr 1
    omega
set_option maxRecDepth 4000 in
theorem goB_val : ∀ (m n0 N : Nat), N < 256 ^ m → n0 * 256 ^ m + N ≤ 4611686018427387904 → goB n0 ((dgts 8 N m).map UInt8.ofNat) = (n0 * 256 ^ m + N, true) := by
  intro m
  induction m with
  | zero =>
    intro n0 N h1 h2
    have : N = 0 := by omega
    subst this
    simp [dgts, goB]
  | succ m ih =>
    intro n0 N h1 h2
    have e8 : (256 : Nat) ^ (m + 1) = 256 ^ m * 256 := Nat.pow_succ 256 m
    rw [e8] at h1 h2 ⊢
    have ea : n0 * (256 ^ m * 256) = (n0 * 256 ^ m) * 256 := (Nat.mul_assoc _ _ _).symm
    rw [ea] at h2 ⊢
    rw [dgts_succ, List.map_append, goB_app, show N / 2 ^ 8 = N / 256 from rfl, show N % 2 ^ 8 = N % 256 from rfl, ih n0 (N / 256) (by omega) (by omega)]
    rw [if_pos rfl]
    simp only [List.map_cons, List.map_nil]
    have et : (UInt8.ofNat (N % 256)).toNat = N % 256 := by rw [UInt8.toNat_ofNat']; omega
    rw [goB, et, mv_fits 8 _ _ (by omega)]
    rw [if_pos rfl]
    simp only [goB]
    congr 1
    omega
theorem dw_head (c : UInt8) (s : List UInt8) (h : isO c = true) : (c :: s).dropWhile (· == 32) = c :: s := by
  have h1 := of_decide_eq_true h
  have h2 : (c == 32) = false := by
    rw [beq_eq_false_iff_ne]
    intro e
    subst e
    simp at h1
  rw [List.dropWhile_cons, h2]
  simp
/-- Blanks, octal digits, and blanks or zeros. -/
theorem readO_digits (n : Nat) (ds t : List UInt8) (hne : ds ≠ []) (hds : ∀ c ∈ ds, isO c = true) (ht : t.all isPad = true) (hok : (goO 0 ds).2 = true) : readO (List.replicate n 32 ++ (ds ++ t)) = ((goO 0 ds).1, true) := by
  cases ds with
  | nil => exact absurd rfl hne
  | cons c s =>
    have hc := hds c (List.mem_cons_self ..)
    have hc2 := of_decide_eq_true hc
    have hdw : (List.replicate n 32 ++ (c :: s ++ t)).dropWhile (· == 32) = c :: s ++ t := by
      induction n with
      | zero => rw [List.replicate_zero, List.nil_append]; exact dw_head c (s ++ t) hc
      | succ n ih => rw [List.replicate_succ, List.cons_append, List.dropWhile_cons]; simpa using ih
    rw [readO_ref, if_neg (by cases n <;> simp [List.replicate_succ]), if_neg, hdw, refO_app (c :: s) hds, if_pos hok, refO_pads _ _ ht]
    cases n with
    | zero => simp; omega
    | succ n => simp [List.replicate_succ]
theorem dgts_mem (b n m d : Nat) (h : d ∈ dgts b n m) : d < 2 ^ b := by
  obtain ⟨j, _, rfl⟩ := List.mem_map.1 h
  exact dgt_lt b n m j
theorem readO_oct (N m : Nat) (hm : 1 ≤ m) (hN : N ≤ 4611686018427387904) (h : N / 2 ^ (3 * m) = 0) : readO (oct N m) = (N, true) := by
  have hlt : N < 8 ^ m := by
    have h1 : 0 < 2 ^ (3 * m) := Nat.pow_pos (by decide)
    have h2 := (Nat.div_eq_zero_iff_lt h1).1 h
    rwa [Nat.pow_mul] at h2
  have hv := goO_val m 0 N hlt (by omega)
  rw [Nat.zero_mul, Nat.zero_add] at hv
  have h1 := readO_digits 0 ((dgts 3 N m).map (fun d => UInt8.ofNat (d + 48))) [0] (by
    intro e
    have := congrArg List.length e
    rw [List.length_map, dgts_len] at this
    simp at this
    omega) (by
    intro c hc
    obtain ⟨d, hd, rfl⟩ := List.mem_map.1 hc
    exact let_isO d (dgts_mem 3 N m d hd)) rfl (by rw [hv])
  rw [hv] at h1
  exact h1
theorem readO_bin (N m : Nat) (hN : N ≤ 4611686018427387904) (h : N / 2 ^ (8 * m) = 0) : readO (bin N m) = (N, true) := by
  have hlt : N < 256 ^ m := by
    have h1 : 0 < 2 ^ (8 * m) := Nat.pow_pos (by decide)
    have h2 := (Nat.div_eq_zero_iff_lt h1).1 h
    rwa [Nat.pow_mul] at h2
  have hv := goB_val m 0 N hlt (by omega)
  rw [Nat.zero_mul, Nat.zero_add] at hv
  unfold readO bin
  have h0 : (128 :: (dgts 8 N m).map UInt8.ofNat).getD 0 0 = 128 := rfl
  rw [if_neg (by simp), h0, if_pos (by decide)]
  unfold binO
  rw [h0, if_pos rfl]
  exact hv
/-- May a number be written? -/
def mayO (n size : Int) : Bool := decide (0 ≤ n ∧ n ≤ 4611686018427387904 ∧ 2 ≤ size ∧ size ≤ 12 ∧ (size < 9 → n.toNat / 2 ^ (8 * (size - 1).toNat) = 0))
theorem writeO_no {n size : Int} (h : (writeO n size).2 = false) : writeO n size = ([], false) := by
  unfold writeO writeN at h ⊢
  split
  · rename_i h1
    rw [if_pos h1] at h
    split
    · rename_i h2; rw [if_pos h2] at h; cases h
    · rename_i h2
      rw [if_neg h2] at h
      split
      · rename_i h3; rw [if_pos h3] at h; cases h
      · rfl
  · rfl
theorem big8 (N m : Nat) (hN : N ≤ 4611686018427387904) (hm : 8 ≤ m) : N / 2 ^ (8 * m) = 0 := by
  apply (Nat.div_eq_zero_iff_lt (Nat.pow_pos (by decide))).2
  have : 2 ^ 64 ≤ 2 ^ (8 * m) := Nat.pow_le_pow_right (by decide) (by omega)
  omega
theorem oct_bin (N m : Nat) (h : N / 2 ^ (3 * m) = 0) : N / 2 ^ (8 * m) = 0 := by
  have h1 := (Nat.div_eq_zero_iff_lt (Nat.pow_pos (by decide) : 0 < 2 ^ (3 * m))).1 h
  apply (Nat.div_eq_zero_iff_lt (Nat.pow_pos (by decide))).2
  have : 2 ^ (3 * m) ≤ 2 ^ (8 * m) := Nat.pow_le_pow_right (by decide) (by omega)
  omega
theorem writeO_may (n size : Int) : (writeO n size).2 = mayO n size := by
  unfold writeO mayO
  by_cases h : 0 ≤ n ∧ n ≤ 4611686018427387904 ∧ 2 ≤ size ∧ size ≤ 12
  · rw [if_pos h]
    unfold writeN
    by_cases ho : n.toNat / 2 ^ (3 * (size - 1).toNat) = 0
    · rw [if_pos ho]
      have := oct_bin _ _ ho
      exact (decide_eq_true ⟨h.1, h.2.1, h.2.2.1, h.2.2.2, fun _ => this⟩).symm
    · rw [if_neg ho]
      by_cases hb : n.toNat / 2 ^ (8 * (size - 1).toNat) = 0
      · rw [if_pos hb]
        exact (decide_eq_true ⟨h.1, h.2.1, h.2.2.1, h.2.2.2, fun _ => hb⟩).symm
      · rw [if_neg hb]
        have : size < 9 := by
          by_cases q : size < 9
          · exact q
          · exact absurd (big8 n.toNat (size - 1).toNat (by omega) (by omega)) hb
        exact (decide_eq_false fun q => hb (q.2.2.2.2 this)).symm
  · rw [if_neg h]
    exact (decide_eq_false fun q => h ⟨q.1, q.2.1, q.2.2.1, q.2.2.2.1⟩).symm
/-- What is written is read as it was, in as many bytes as it says. -/
theorem write_back (n size : Int) (h : (writeO n size).2 = true) : readO (writeO n size).1 = (n.toNat, true) ∧ ((writeO n size).1.length : Int) = size ∧ 0 ≤ n := by
  unfold writeO at h ⊢
  by_cases h1 : 0 ≤ n ∧ n ≤ 4611686018427387904 ∧ 2 ≤ size ∧ size ≤ 12
  · rw [if_pos h1] at h ⊢
    unfold writeN at h ⊢
    by_cases ho : n.toNat / 2 ^ (3 * (size - 1).toNat) = 0
    · rw [if_pos ho]
      refine ⟨readO_oct _ _ (by omega) (by omega) ho, ?_, h1.1⟩
      simp only [oct, List.length_append, List.length_map, dgts_len, List.length_cons, List.length_nil]
      omega
    · rw [if_neg ho] at h ⊢
      by_cases hb : n.toNat / 2 ^ (8 * (size - 1).toNat) = 0
      · rw [if_pos hb]
        refine ⟨readO_bin _ _ (by omega) hb, ?_, h1.1⟩
        simp only [bin, List.length_map, dgts_len, List.length_cons]
        omega
      · rw [if_neg hb] at h
        cases h
  · rw [if_neg h1] at h
    cases h
theorem goO_fits : ∀ (ds : List UInt8) (n B : Nat), (∀ c ∈ ds, isO c = true) → n < B → B * 8 ^ ds.length ≤ 4611686018427387904 → (goO n ds).2 = true := by
  intro ds
  induction ds with
  | nil => intros; rfl
  | cons c s ih =>
    intro n B hds hn hB
    have hc := hds c (List.mem_cons_self ..)
    have hc2 := of_decide_eq_true hc
    have e8 : B * 8 ^ (c :: s).length = B * 8 * 8 ^ s.length := by rw [List.length_cons, Nat.pow_succ, Nat.mul_comm (8 ^ s.length) 8, Nat.mul_assoc]
    rw [e8] at hB
    have h1 : B * 8 * 1 ≤ B * 8 * 8 ^ s.length := Nat.mul_le_mul_left _ (Nat.pow_pos (by decide))
    rw [goO, if_pos hc, mv_fits 3 _ _ (by omega), if_pos rfl]
    exact ih _ (B * 8) (fun c hc => hds c (List.mem_cons_of_mem _ hc)) (by show n * 8 + _ < _; omega) hB
theorem getD_last (xs ys : List UInt8) : ∀ x y, xs ++ [x] = ys ++ [y] → xs = ys ∧ x = y := fun x y h => by
  have := List.append_inj' h rfl
  exact ⟨this.1, by simpa using this.2⟩
end Go.Proofs.YtfogkggkjmkdiaaDoor
