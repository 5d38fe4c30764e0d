/- Headers: plain laws. -/
import Derived.Test.YtfogkggkjmkdiaaDoorHp
namespace Go.Proofs.YtfogkggkjmkdiaaDoor
set_option linter.unnecessarySimpa false
set_option linter.unusedSimpArgs false
set_option linter.unusedVariables false
open Go.RowKit
def refBody (x : Hd) : List UInt8 := over (over (over (numOver x (over zeros 0 x.name) 7) 156 [x.typ]) 157 x.link) 257 magic
theorem longO_no {s : List UInt8} (h : longO s = false) : s.length ≤ 100 ∧ s.contains 0 = false := by
  unfold longO at h
  rw [Bool.or_eq_false_iff] at h
  exact ⟨by have := of_decide_eq_false h.1; omega, h.2⟩
structure OkO (x : Hd) : Prop where
  name : x.name.length ≤ 100
  name0 : x.name.contains 0 = false
  link : x.link.length ≤ 100
  link0 : x.link.contains 0 = false
  wrs : wrsOk x 7 = true
theorem okO_spec {x : Hd} (h : okO x = true) : OkO x := by
  unfold okO at h
  rw [Bool.and_eq_true, Bool.not_eq_true', Bool.or_eq_false_iff] at h
  exact ⟨(longO_no h.1.1).1, (longO_no h.1.1).2, (longO_no h.1.2).1, (longO_no h.1.2).2, h.2⟩
theorem nameOver_len {x : Hd} (h : x.name.length ≤ 100) : (over zeros 0 x.name).length = 512 := by rw [over_len _ _ _ (by rw [zeros_len]; omega), zeros_len]
theorem magic_len : magic.length = 8 := rfl
theorem one_len (c : UInt8) : [c].length = 1 := rfl
theorem body_ref {x : Hd} (h : OkO x) : body x = refBody x := by
  have hA := nameOver_len h.name
  have hN := numOver_len h.wrs (Nat.le_refl _) hA
  have hl := h.link
  have hw := h.wrs
  have hm := magic_len
  have h1 : (over (over zeros 0 x.name) 157 x.link).length = 512 := by rw [over_len _ _ _ (by omega), hA]
  have h2 : (over (over (over zeros 0 x.name) 157 x.link) 257 magic).length = 512 := by rw [over_len _ _ _ (by omega), h1]
  have h3 : (over (numOver x (over zeros 0 x.name) 7) 157 x.link).length = 512 := by rw [over_len _ _ _ (by omega), hN]
  unfold body refBody
  rw [numOver_comm hw (Nat.le_refl _) h2 _ _ (by rw [one_len]; omega), numOver_comm hw (Nat.le_refl _) h1 _ _ (by omega), numOver_comm hw (Nat.le_refl _) hA _ _ (by omega)]
  rw [over_comm _ 257 156 _ _ (by omega) (by rw [one_len]; omega) (by rw [one_len]; omega), over_comm _ 157 156 _ _ (by omega) (by rw [one_len]; omega) (by rw [one_len]; omega)]
theorem refBody_len {x : Hd} (h : OkO x) : (refBody x).length = 512 := by
  have hA := nameOver_len h.name
  have hN := numOver_len h.wrs (Nat.le_refl _) hA
  have hl := h.link
  have hm := magic_len
  have h1 : (over (numOver x (over zeros 0 x.name) 7) 156 [x.typ]).length = 512 := by rw [over_len _ _ _ (by rw [one_len]; omega), hN]
  have h2 : (over (over (numOver x (over zeros 0 x.name) 7) 156 [x.typ]) 157 x.link).length = 512 := by rw [over_len _ _ _ (by omega), h1]
  unfold refBody
  rw [over_len _ _ _ (by omega), h2]
/-! ### Sums -/
theorem cA_congr {xs ys : List UInt8} {k : Nat} (h : ∀ i, i < k → ¬(148 ≤ i ∧ i < 156) → xs.getD i 0 = ys.getD i 0) : cA xs k = cA ys k := by
  induction k with
  | zero => rfl
  | succ k ih =>
    rw [cA, cA, ih fun i hi => h i (by omega)]
    by_cases hm : 148 ≤ k ∧ k < 156
    · rw [if_pos hm, if_pos hm]
    · rw [if_neg hm, if_neg hm, h k (by omega) hm]
theorem check_over (b : List UInt8) (o : Nat) (y : List UInt8) (hb : b.length = 512) (h1 : 148 ≤ o) (h2 : o + y.length ≤ 156) : checkO (over b o y) = checkO b := by
  unfold checkO
  rw [over_len _ _ _ (by omega), if_pos hb, if_pos hb, cA_congr (ys := b)]
  intro i hi hm
  rw [List.getD_eq_getElem?_getD, over_get _ _ _ (by omega), if_neg (by omega), ← List.getD_eq_getElem?_getD]
theorem sum_nat (b : List UInt8) (hb : b.length = 512) : ∃ S : Nat, checkO b = (S : Int) ∧ S < 262144 ∧ sum7 b = oct S 6 ∧ writeO (checkO b) 7 = (oct S 6, true) := by
  refine ⟨256 + cA b 512, ?_, ?_, ?_⟩
  · unfold checkO
    rw [if_pos hb]
  · have := cA_le b 512
    omega
  · have h1 := cA_le b 512
    have h2 : writeO (checkO b) 7 = (oct (256 + cA b 512) 6, true) := by
      unfold checkO
      rw [if_pos hb]
      unfold writeO
      rw [if_pos (by omega), show ((7 : Int) - 1).toNat = 6 from rfl, Int.toNat_natCast]
      unfold writeN
      rw [if_pos ((Nat.div_eq_zero_iff_lt (by decide)).2 (by rw [show (2 : Nat) ^ (3 * 6) = 262144 from rfl]; omega))]
    exact ⟨by unfold sum7; rw [h2], h2⟩
theorem oct_len (S m : Nat) : (oct S m).length = m + 1 := by
  unfold oct
  rw [List.length_append, List.length_map, dgts_len]
  rfl
theorem sum7_len (b : List UInt8) (hb : b.length = 512) : (sum7 b).length = 7 := by
  obtain ⟨S, _, _, h, _⟩ := sum_nat b hb
  rw [h, oct_len]
theorem read_sum (S : Nat) (hS : S < 262144) (c : UInt8) (hc : isPad c = true) : readO (oct S 6 ++ [c]) = (S, true) := by
  have hv := goO_val 6 0 S (by rw [show (8 : Nat) ^ 6 = 262144 from rfl]; exact hS) (by omega)
  rw [Nat.zero_mul, Nat.zero_add] at hv
  have h1 := readO_digits 0 ((dgts 3 S 6).map (fun d => UInt8.ofNat (d + 48))) [0, c] (by
    intro e
    have := congrArg List.length e
    rw [List.length_map, dgts_len] at this
    cases this) (by
    intro c hc
    obtain ⟨d, hd, rfl⟩ := List.mem_map.1 hc
    exact let_isO d (dgts_mem 3 S 6 d hd)) (by rw [List.all_cons, List.all_cons, hc]; rfl) (by rw [hv])
  rw [hv] at h1
  unfold oct
  rw [List.append_assoc]
  exact h1
theorem sums_sealed (b : List UInt8) (hb : b.length = 512) (c : UInt8) (hc : isPad c = true) : sumsO (over b 148 (sum7 b ++ [c])) = true := by
  obtain ⟨S, h1, h2, h3, _⟩ := sum_nat b hb
  have hl : (sum7 b ++ [c]).length = 8 := by rw [List.length_append, sum7_len b hb]; rfl
  unfold sumsO
  rw [seg_same _ _ _ _ (by omega) (by omega), check_over _ _ _ hb (by omega) (by omega), h3, read_sum S h2 c hc, h1]
  simp
/-! ### The parts of a block -/
structure Parts (B : List UInt8) (x : Hd) (p : List UInt8) : Prop where
  len : B.length = 512
  mag : seg B 257 265 = magic
  flds : ∀ k, k < 7 → fld B k = wr x k
  name : seg B 0 100 = x.name ++ List.replicate (100 - x.name.length) 0
  link : seg B 157 257 = x.link ++ List.replicate (100 - x.link.length) 0
  pre : seg B 345 500 = p ++ List.replicate (155 - p.length) 0
  typ : seg B 156 157 = [x.typ]
theorem parts_over {B : List UInt8} {x : Hd} {p : List UInt8} (h : Parts B x p) (o : Nat) (y : List UInt8) (h1 : 148 ≤ o) (h2 : o + y.length ≤ 156) : Parts (over B o y) x p := by
  have hl := h.len
  refine ⟨by rw [over_len _ _ _ (by omega), hl], ?_, fun k hk => ?_, ?_, ?_, ?_, ?_⟩
  · rw [seg_other _ _ _ _ _ (by omega) (by omega)]; exact h.mag
  · have := at_sz k hk
    unfold fld
    rw [seg_other _ _ _ _ _ (by omega) (by omega)]; exact h.flds k hk
  · rw [seg_other _ _ _ _ _ (by omega) (by omega)]; exact h.name
  · rw [seg_other _ _ _ _ _ (by omega) (by omega)]; exact h.link
  · rw [seg_other _ _ _ _ _ (by omega) (by omega)]; exact h.pre
  · rw [seg_other _ _ _ _ _ (by omega) (by omega)]; exact h.typ
theorem parts_pre {B : List UInt8} {x : Hd} (h : Parts B x []) (p : List UInt8) (h1 : p.length ≤ 155) : Parts (over B 345 p) x p := by
  have hl := h.len
  refine ⟨by rw [over_len _ _ _ (by omega), hl], ?_, fun k hk => ?_, ?_, ?_, ?_, ?_⟩
  · rw [seg_other _ _ _ _ _ (by omega) (by omega)]; exact h.mag
  · have := at_sz k hk
    unfold fld
    rw [seg_other _ _ _ _ _ (by omega) (by omega)]; exact h.flds k hk
  · rw [seg_other _ _ _ _ _ (by omega) (by omega)]; exact h.name
  · rw [seg_other _ _ _ _ _ (by omega) (by omega)]; exact h.link
  · rw [seg_begin _ _ _ _ (by omega) (by omega) (by omega)]
    congr 1
    have h3 : seg B (345 + p.length) 500 = (seg B 345 500).drop p.length := by
      unfold seg
      rw [List.drop_drop]
    rw [h3, h.pre, List.nil_append, List.drop_replicate]
    congr 1
  · rw [seg_other _ _ _ _ _ (by omega) (by omega)]; exact h.typ
theorem parts_body {x : Hd} (h : OkO x) : Parts (refBody x) x [] := by
  have hA := nameOver_len h.name
  have hN := numOver_len h.wrs (Nat.le_refl _) hA
  have hl := h.link
  have hn := h.name
  have hm := magic_len
  have h1 : (over (numOver x (over zeros 0 x.name) 7) 156 [x.typ]).length = 512 := by rw [over_len _ _ _ (by rw [one_len]; omega), hN]
  have h2 : (over (over (numOver x (over zeros 0 x.name) 7) 156 [x.typ]) 157 x.link).length = 512 := by rw [over_len _ _ _ (by omega), h1]
  have ho := one_len x.typ
  have hz : ∀ lo hi, (hi ≤ 100 ∨ 157 ≤ lo ∧ hi ≤ 329 ∨ 345 ≤ lo) → x.name.length ≤ lo → hi ≤ 512 → seg (over (numOver x (over zeros 0 x.name) 7) 156 [x.typ]) lo hi = List.replicate (hi - lo) 0 := by
    intro lo hi hlo hnl hhi
    rw [seg_other _ _ _ _ _ (by omega) (by omega), numOver_other h.wrs (Nat.le_refl _) hA _ _ (by omega), seg_other _ _ _ _ _ (by rw [zeros_len]; omega) (by omega)]
    exact seg_zeros _ _ _ hhi
  refine ⟨refBody_len h, ?_, fun k hk => ?_, ?_, ?_, ?_, ?_⟩
  · exact seg_same _ _ _ _ (by omega) (by omega)
  · have := at_sz k hk
    unfold fld refBody
    rw [seg_other _ _ _ _ _ (by omega) (by omega), seg_other _ _ _ _ _ (by omega) (by omega), seg_other _ _ _ _ _ (by omega) (by omega)]
    exact numOver_fld h.wrs (Nat.le_refl _) hA k hk
  · unfold refBody
    rw [seg_other _ _ _ _ _ (by omega) (by omega), seg_other _ _ _ _ _ (by omega) (by omega), seg_other _ _ _ _ _ (by omega) (by omega)]
    rw [numOver_other h.wrs (Nat.le_refl _) hA _ _ (by omega), seg_begin _ _ _ _ (by rw [zeros_len]; omega) (by omega) (by rw [zeros_len]; omega)]
    rw [show seg zeros (0 + x.name.length) 100 = _ from seg_zeros 512 _ _ (by omega), Nat.zero_add]
  · unfold refBody
    rw [seg_other _ _ _ _ _ (by omega) (by omega), seg_begin _ _ _ _ (by omega) (by omega) (by omega)]
    rw [hz _ _ (by omega) (by omega) (by omega), show 257 - (157 + x.link.length) = 100 - x.link.length by omega]
  · unfold refBody
    rw [seg_other _ _ _ _ _ (by omega) (by omega), seg_other _ _ _ _ _ (by omega) (by omega), hz _ _ (by omega) (by omega) (by omega), List.nil_append]
    congr 1
  · unfold refBody
    rw [seg_other _ _ _ _ _ (by omega) (by omega), seg_other _ _ _ _ _ (by omega) (by omega)]
    exact seg_same _ _ _ _ (by omega) (by omega)
theorem parts_blk {x : Hd} (h : OkO x) : Parts (blk x) x [] := by
  have hb := body_ref h
  have hl : (sum7 (refBody x) ++ [32]).length = 8 := by rw [List.length_append, sum7_len _ (refBody_len h)]; rfl
  unfold blk
  rw [hb]
  exact parts_over (parts_body h) 148 _ (by omega) (by omega)
theorem nums_nat {x : Hd} (h : OkO x) {k : Nat} (hk : k < 7) : readO (wr x k) = ((x.nums.getD k 0).toNat, true) ∧ 0 ≤ x.nums.getD k 0 := by
  have := write_back _ _ (wrsOk_lt h.wrs hk)
  exact ⟨this.1, this.2.2⟩
theorem parse_parts {B : List UInt8} {x : Hd} {p : List UInt8} (h : OkO x) (hB : Parts B x p) (hp : p.contains 0 = false) (hs : sumsO B = true) : parseO B = ({ x with name := pfx p x.name }, 0) := by
  have hn : ∀ k, k < 7 → num B k = x.nums.getD k 0 ∧ numOk B k = true := fun k hk => by
    obtain ⟨h1, h2⟩ := nums_nat h hk
    unfold num numOk
    rw [hB.flds k hk, h1]
    exact ⟨by show (((x.nums.getD k 0).toNat : Nat) : Int) = _; omega, rfl⟩
  have hno : ∀ k, k ≤ 7 → numsOk B k = true := by
    intro k
    induction k with
    | zero => intro _; rfl
    | succ k ih => intro hk; rw [numsOk, ih (by omega), (hn k (by omega)).2]; rfl
  have hnm := textO_pad x.name (100 - x.name.length) h.name0
  have hlk := textO_pad x.link (100 - x.link.length) h.link0
  have hpf := textO_pad p (155 - p.length) hp
  unfold parseO
  rw [if_neg (fun q => q hB.len), hs, if_neg (by decide)]
  have hform : formO B = true := by
    unfold formO
    rw [hB.mag, hno 7 (Nat.le_refl _), hB.name, hB.link, hB.pre, hnm, hlk, hpf]
    rfl
  rw [hform, if_neg (by decide)]
  unfold hdrO
  rw [hB.name, hB.link, hB.pre, hnm, hlk, hpf, getD_seg, hB.typ]
  rw [(hn 0 (by omega)).1, (hn 1 (by omega)).1, (hn 2 (by omega)).1, (hn 3 (by omega)).1, (hn 4 (by omega)).1, (hn 5 (by omega)).1, (hn 6 (by omega)).1]
  rfl
theorem sums_blk {x : Hd} (h : OkO x) : sumsO (blk x) = true := by
  have := sums_sealed (refBody x) (refBody_len h) 32 rfl
  unfold blk
  rw [body_ref h]
  exact this
/-- What is printed is parsed as it was. -/
theorem parse_back {x : Hd} (h : OkO x) : parseO (blk x) = (x, 0) := parse_parts h (parts_blk h) rfl (sums_blk h)
/-- A byte that is another one is seen. -/
theorem sums_other {b : List UInt8} {i : Nat} {c : UInt8} (hb : b.length = 512) (hi : i < 512) (hm : ¬(148 ≤ i ∧ i < 156)) (hs : sumsO b = true) (hc : c ≠ b.getD i 0) : sumsO (b.set i c) = false := by
  unfold sumsO at hs ⊢
  rw [set_over _ _ _ (by omega), seg_other _ _ _ _ _ (by rw [one_len]; omega) (by rw [one_len]; omega), ← set_over _ _ _ (by omega)]
  rw [Bool.and_eq_true, beq_iff_eq] at hs
  rw [hs.1, hs.2, Bool.true_and, beq_eq_false_iff_ne]
  unfold checkO
  rw [if_pos hb, List.length_set, if_pos hb]
  have h1 := cA_set b i c (by omega) 512
  rw [if_pos ⟨hi, hm⟩] at h1
  have h2 : (c.toNat : Int) ≠ (b.getD i 0).toNat := u8_ne hc
  omega
theorem parse_other {b : List UInt8} {i : Nat} {c : UInt8} (hb : b.length = 512) (hi : i < 512) (hm : ¬(148 ≤ i ∧ i < 156)) (hs : sumsO b = true) (hc : c ≠ b.getD i 0) : parseO (b.set i c) = (Hd.zero, 5) := by
  unfold parseO
  rw [if_neg (by rw [List.length_set]; exact fun q => q hb), sums_other hb hi hm hs hc, if_pos rfl]
/-- A block with the sum that it should have. -/
def sealO (b : List UInt8) : List UInt8 := over (over zeros 0 (b.take 512)) 148 (sum7 (over zeros 0 (b.take 512)))
theorem sealO_of {b : List UInt8} (hb : b.length = 512) : sealO b = over b 148 (sum7 b) := by
  have h1 : over zeros 0 (b.take 512) = b := by
    unfold over
    rw [show b.take 512 = b from List.take_of_length_le (by omega), List.take_zero, List.nil_append, List.drop_of_length_le (by rw [zeros_len]; omega), List.append_nil]
  unfold sealO
  rw [h1]
theorem over_snoc (b y : List UInt8) (o : Nat) (c : UInt8) (h : o + y.length < b.length) (hc : b.getD (o + y.length) 0 = c) : over b o y = over b o (y ++ [c]) := by
  apply List.ext_getElem?
  intro i
  rw [over_get _ _ _ (by omega), over_get _ _ _ (by rw [List.length_append, one_len]; omega), List.length_append, one_len]
  by_cases h1 : o ≤ i ∧ i < o + y.length
  · rw [if_pos h1, if_pos (by omega), List.getElem?_append_left (by omega)]
  · rw [if_neg h1]
    by_cases h2 : i = o + y.length
    · subst h2
      rw [if_pos (by omega), List.getElem?_append_right (by omega), List.getElem?_eq_getElem h]
      rw [List.getD_eq_getElem?_getD, List.getElem?_eq_getElem h] at hc
      rw [Nat.add_sub_cancel_left, Nat.sub_self]
      exact congrArg some hc
    · rw [if_neg (by omega)]
theorem parse_prefix {x : Hd} (h : OkO x) (p : List UInt8) (hp : p.length ≤ 155) (hp0 : p.contains 0 = false) : parseO (sealO (over (blk x) 345 p)) = ({ x with name := pfx p x.name }, 0) := by
  have hP := parts_pre (parts_blk h) p hp
  have hl := hP.len
  have h7 := sum7_len _ hl
  have hb8 : (sum7 (refBody x) ++ [32]).length = 8 := by rw [List.length_append, sum7_len _ (refBody_len h)]; rfl
  have hrl := refBody_len h
  have h32 : (over (blk x) 345 p).getD 155 0 = 32 := by
    rw [getD_seg, seg_other _ _ _ _ _ (by rw [(parts_blk h).len]; omega) (by omega)]
    have : seg (blk x) 155 156 = [32] := by
      unfold blk
      rw [body_ref h]
      have e : seg (over (refBody x) 148 (sum7 (refBody x) ++ [32])) 155 156 = (seg (over (refBody x) 148 (sum7 (refBody x) ++ [32])) 148 156).drop 7 := by
        unfold seg
        rw [List.drop_drop]
      rw [e, seg_same _ _ _ _ (by omega) (by omega), List.drop_append, List.drop_of_length_le (by rw [sum7_len _ hrl]; exact Nat.le_refl _), sum7_len _ hrl]
      rfl
    rw [this]
    rfl
  rw [sealO_of hl, over_snoc _ _ _ 32 (by omega) (by rw [h7]; exact h32)]
  refine parse_parts h (parts_over hP _ _ (Nat.le_refl _) (by rw [List.length_append, h7, one_len]; omega)) hp0 (sums_sealed _ hl 32 rfl)
end Go.Proofs.YtfogkggkjmkdiaaDoor
