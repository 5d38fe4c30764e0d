/- The tables that are laid; utf8.ValidString: it is what the document calls valid. -/
import Derived.Test.YtjopikfkgjbcgaaDoorOb
import Derived.Test.YtjopikfkgjbcgaaDoorNe
import Derived.Test.YtjopikfkgjbcgaaDoorShelfV
import Derived.Lib.MapLaws
namespace Go.Proofs.YtjopikfkgjbcgaaDoor
set_option linter.unnecessarySimpa false
set_option linter.unusedSimpArgs false
set_option linter.unusedVariables false
open Go.RowKit
/-- The tables of utf8 and of strconv lie where they were laid. -/
def Plc (h : Heap) : Prop := ∀ w : World, w.heap = h → Lib.Utf8Tabs 0 1 w ∧ Lib.TabIs Tryd.prog w "internal/strconv.uint64pow10" .u64 Lib.pow10Tab
theorem gpow : Tryd.prog.globalNamed "internal/strconv.uint64pow10" = some 2 := by kernel_rfl
theorem Plc.ext {h h' : Heap} (p : Plc h) (x : Ext h h') : Plc h' := fun w hw => by
  have q := p { w with heap := h } rfl
  refine ⟨⟨fun c hc => ?_, fun i hi => ⟨?_, ?_⟩⟩, ?_⟩
  · have := q.1.1 c hc
    rw [cell_cellH] at this ⊢
    rw [hw, cellH_keep (x.old 0 (lt_of_cellH this))]
    exact this
  · have := (q.1.2 i hi).1
    rw [cell_cellH] at this ⊢
    rw [hw, cellH_keep (x.old 1 (lt_of_cellH this))]
    exact this
  · have := (q.1.2 i hi).2
    rw [cell_cellH] at this ⊢
    rw [hw, cellH_keep (x.old 1 (lt_of_cellH this))]
    exact this
  · have h2 := q.2
    unfold Lib.TabIs World.var? at h2 ⊢
    rw [gpow, Option.bind_some] at h2 ⊢
    have hlt : 2 < h.size := by
      refine Nat.lt_of_not_le fun hle => ?_
      have : h[2]? = none := Array.getElem?_eq_none hle
      simp only [this] at h2
      cases h2
    have e : w.heap[2]? = h[2]? := by rw [hw]; exact x.old 2 hlt
    simp only [e]
    exact h2
theorem all1 (f : Nat → Bool) : (List.range 1).all f = f 0 := by show (f 0 && true) = f 0; simp
theorem all2 (f : Nat → Bool) : (List.range 2).all f = (f 0 && f 1) := by show (f 0 && (f 1 && true)) = _; simp
theorem all3 (f : Nat → Bool) : (List.range 3).all f = (f 0 && (f 1 && f 2)) := by show (f 0 && (f 1 && (f 2 && true))) = _; simp
theorem cont_iff (b : Nat) (hb : b < 256) : cont (b : Int) = decide (b / 64 = 2) := by
  unfold cont
  rw [Bool.eq_iff_iff, Bool.and_eq_true, decide_eq_true_eq, decide_eq_true_eq, decide_eq_true_eq]
  omega
/-- What a decoder's answer says of a size. -/
def szD (d : Nat × Nat) : Nat := if d.1 = 65533 ∧ d.2 = 1 then 0 else d.2
theorem szD_bad : szD (65533, 1) = 0 := rfl
theorem szD_ok (c z : Nat) (hz : z ≠ 1) : szD (c, z) = z := by unfold szD; rw [if_neg (fun q => hz q.2)]
set_option maxHeartbeats 1000000 in
/-- The document's size of a character is the model's own decoder's. -/
theorem sizeO_dec (s : List UInt8) : sizeO s = szD (Lib.decodeL s) := by
  rw [Lib.decodeL_N]
  have hb : ∀ k, (s.getD k 0).toNat < 256 ∧ (s.length ≤ k → (s.getD k 0).toNat = 0) := fun k => by
    refine ⟨(s.getD k 0).toNat_lt, fun hk => ?_⟩
    rw [List.getD_eq_getElem?_getD, List.getElem?_eq_none hk]
    rfl
  have ha : ∀ k, at8 s k = ((s.getD k 0).toNat : Int) := fun _ => rfl
  unfold sizeO
  simp only [ha]
  obtain ⟨h0, _⟩ := hb 0
  obtain ⟨h1, z1⟩ := hb 1
  obtain ⟨h2, z2⟩ := hb 2
  obtain ⟨h3, z3⟩ := hb 3
  generalize (s.getD 0 0).toNat = b0 at *
  have g1 : cont (at8 s 1) = decide ((s.getD 1 0).toNat / 64 = 2) := cont_iff _ h1
  have g2 : cont (at8 s 2) = decide ((s.getD 2 0).toNat / 64 = 2) := cont_iff _ h2
  have g3 : cont (at8 s 3) = decide ((s.getD 3 0).toNat / 64 = 2) := cont_iff _ h3
  rw [ha] at g1 g2 g3
  have k1 : ∀ n, numK s n 1 = n * 64 + ((s.getD 1 0).toNat : Int) - 128 := fun _ => rfl
  have k2 : ∀ n, numK s n 2 = (n * 64 + ((s.getD 1 0).toNat : Int) - 128) * 64 + ((s.getD 2 0).toNat : Int) - 128 := fun _ => rfl
  have k3 : ∀ n, numK s n 3 = ((n * 64 + ((s.getD 1 0).toNat : Int) - 128) * 64 + ((s.getD 2 0).toNat : Int) - 128) * 64 + ((s.getD 3 0).toNat : Int) - 128 := fun _ => rfl
  by_cases c1 : b0 < 128
  · have hl : lead (b0 : Int) = (1, (b0 : Int)) := by unfold lead; rw [if_pos (by omega)]
    rw [hl]
    simp only [if_true]
    unfold Lib.decodeN
    rw [if_pos c1]
    unfold szD
    rw [if_neg (by omega)]
  by_cases c2 : b0 < 192
  · have hl : lead (b0 : Int) = (0, 0) := by unfold lead; rw [if_neg (by omega), if_neg (by omega), if_neg (by omega), if_neg (by omega)]
    rw [hl]
    refine Eq.trans (b := 0) rfl ?_
    unfold Lib.decodeN
    rw [if_neg c1, if_neg (by omega), if_neg (by omega), if_neg (by omega)]
    rfl
  by_cases c3 : b0 < 224
  · have hl : lead (b0 : Int) = (2, (b0 : Int) - 192) := by unfold lead; rw [if_neg (by omega), if_pos (by omega)]
    rw [hl]
    simp only [show (2 : Nat) - 1 = 1 from rfl, all1, k1]
    rw [show (0 : Nat) + 1 = 1 from rfl, g1, if_neg (by decide), if_neg (by decide)]
    generalize (s.getD 1 0).toNat = b1 at *
    have hle : leastO 2 = 128 := rfl
    generalize s.length = n at *
    generalize (s.getD 2 0).toNat = b2 at *
    generalize (s.getD 3 0).toNat = b3 at *
    by_cases q1 : b1 / 64 = 2
    · rw [if_neg (by rw [decide_eq_true q1]; decide), hle]
      by_cases q2 : b0 % 32 * 64 + b1 % 64 ≥ 128
      · have hD : Lib.decodeN n b0 b1 b2 b3 = (b0 % 32 * 64 + b1 % 64, 2) := by
          unfold Lib.decodeN
          rw [if_neg c1, if_pos ⟨by omega, by omega, q1⟩, if_pos q2]
        rw [hD, szD_ok _ _ (by decide), if_neg (by omega)]
      · have hD : Lib.decodeN n b0 b1 b2 b3 = (65533, 1) := by
          unfold Lib.decodeN
          rw [if_neg c1, if_pos ⟨by omega, by omega, q1⟩, if_neg q2]
        rw [hD, szD_bad, if_pos (by omega)]
    · have hD : Lib.decodeN n b0 b1 b2 b3 = (65533, 1) := by
        unfold Lib.decodeN
        rw [if_neg c1, if_neg (fun q => q1 q.2.2), if_neg (by omega), if_neg (by omega)]
      rw [hD, szD_bad, if_pos (by rw [decide_eq_false q1])]
  by_cases c4 : b0 < 240
  · have hl : lead (b0 : Int) = (3, (b0 : Int) - 224) := by unfold lead; rw [if_neg (by omega), if_neg (by omega), if_pos (by omega)]
    rw [hl]
    simp only [show (3 : Nat) - 1 = 2 from rfl, all2, k2]
    rw [show (0 : Nat) + 1 = 1 from rfl, show (1 : Nat) + 1 = 2 from rfl, g1, g2, if_neg (by decide), if_neg (by decide)]
    generalize (s.getD 1 0).toNat = b1 at *
    generalize (s.getD 2 0).toNat = b2 at *
    have hle : leastO 3 = 2048 := rfl
    generalize s.length = n at *
    generalize (s.getD 3 0).toNat = b3 at *
    by_cases q : b1 / 64 = 2 ∧ b2 / 64 = 2
    · obtain ⟨q1, q2⟩ := q
      rw [if_neg (by rw [decide_eq_true q1, decide_eq_true q2]; decide), hle]
      by_cases q3 : b0 % 16 * 4096 + b1 % 64 * 64 + b2 % 64 ≥ 2048 ∧ (b0 % 16 * 4096 + b1 % 64 * 64 + b2 % 64 < 55296 ∨ (57344 ≤ b0 % 16 * 4096 + b1 % 64 * 64 + b2 % 64 ∧ b0 % 16 * 4096 + b1 % 64 * 64 + b2 % 64 ≤ 1114111))
      · have hD : Lib.decodeN n b0 b1 b2 b3 = (b0 % 16 * 4096 + b1 % 64 * 64 + b2 % 64, 3) := by
          unfold Lib.decodeN
          rw [if_neg c1, if_neg (by omega), if_pos ⟨by omega, ⟨by omega, q1⟩, ⟨by omega, q2⟩⟩, if_pos q3]
        rw [hD, szD_ok _ _ (by decide), if_neg (by omega)]
      · have hD : Lib.decodeN n b0 b1 b2 b3 = (65533, 1) := by
          unfold Lib.decodeN
          rw [if_neg c1, if_neg (by omega), if_pos ⟨by omega, ⟨by omega, q1⟩, ⟨by omega, q2⟩⟩, if_neg q3]
        rw [hD, szD_bad, if_pos (by omega)]
    · have hD : Lib.decodeN n b0 b1 b2 b3 = (65533, 1) := by
        unfold Lib.decodeN
        rw [if_neg c1, if_neg (by omega), if_neg (fun r => q ⟨r.2.1.2, r.2.2.2⟩), if_neg (by omega)]
      rw [hD, szD_bad, if_pos (by rw [← Bool.decide_and, decide_eq_false q])]
  by_cases c5 : b0 < 248
  · have hl : lead (b0 : Int) = (4, (b0 : Int) - 240) := by unfold lead; rw [if_neg (by omega), if_neg (by omega), if_neg (by omega), if_pos (by omega)]
    rw [hl]
    simp only [show (4 : Nat) - 1 = 3 from rfl, all3, k3]
    rw [show (0 : Nat) + 1 = 1 from rfl, show (1 : Nat) + 1 = 2 from rfl, show (2 : Nat) + 1 = 3 from rfl, g1, g2, g3, if_neg (by decide), if_neg (by decide)]
    generalize (s.getD 1 0).toNat = b1 at *
    generalize (s.getD 2 0).toNat = b2 at *
    generalize (s.getD 3 0).toNat = b3 at *
    have hle : leastO 4 = 65536 := rfl
    generalize s.length = n at *
    by_cases q : b1 / 64 = 2 ∧ b2 / 64 = 2 ∧ b3 / 64 = 2
    · obtain ⟨q1, q2, q3⟩ := q
      rw [if_neg (by rw [decide_eq_true q1, decide_eq_true q2, decide_eq_true q3]; decide), hle]
      by_cases q4 : b0 % 8 * 262144 + b1 % 64 * 4096 + b2 % 64 * 64 + b3 % 64 ≥ 65536 ∧ (b0 % 8 * 262144 + b1 % 64 * 4096 + b2 % 64 * 64 + b3 % 64 < 55296 ∨ (57344 ≤ b0 % 8 * 262144 + b1 % 64 * 4096 + b2 % 64 * 64 + b3 % 64 ∧ b0 % 8 * 262144 + b1 % 64 * 4096 + b2 % 64 * 64 + b3 % 64 ≤ 1114111))
      · have hD : Lib.decodeN n b0 b1 b2 b3 = (b0 % 8 * 262144 + b1 % 64 * 4096 + b2 % 64 * 64 + b3 % 64, 4) := by
          unfold Lib.decodeN
          rw [if_neg c1, if_neg (by omega), if_neg (by omega), if_pos ⟨by omega, ⟨by omega, q1⟩, ⟨by omega, q2⟩, ⟨by omega, q3⟩⟩, if_pos q4]
        rw [hD, szD_ok _ _ (by decide), if_neg (by omega)]
      · have hD : Lib.decodeN n b0 b1 b2 b3 = (65533, 1) := by
          unfold Lib.decodeN
          rw [if_neg c1, if_neg (by omega), if_neg (by omega), if_pos ⟨by omega, ⟨by omega, q1⟩, ⟨by omega, q2⟩, ⟨by omega, q3⟩⟩, if_neg q4]
        rw [hD, szD_bad, if_pos (by omega)]
    · have hD : Lib.decodeN n b0 b1 b2 b3 = (65533, 1) := by
        unfold Lib.decodeN
        rw [if_neg c1, if_neg (by omega), if_neg (by omega), if_neg (fun r => q ⟨r.2.1.2, r.2.2.1.2, r.2.2.2.2⟩)]
      rw [hD, szD_bad, if_pos (by rw [← Bool.decide_and, ← Bool.decide_and, decide_eq_false q])]
  · have hl : lead (b0 : Int) = (0, 0) := by unfold lead; rw [if_neg (by omega), if_neg (by omega), if_neg (by omega), if_neg (by omega)]
    rw [hl]
    refine Eq.trans (b := 0) rfl ?_
    unfold Lib.decodeN
    rw [if_neg c1, if_neg (by omega), if_neg (by omega), if_neg (by omega)]
    rfl
theorem validN_D : ∀ (n : Nat) (s : List UInt8), s.length ≤ n → validN n s = Lib.validGoD n s
  | 0, s, h => by
    have : s = [] := List.length_eq_zero_iff.1 (by omega)
    subst this
    rfl
  | n + 1, s, h => by
    unfold validN Lib.validGoD
    by_cases hs : s = []
    · rw [if_pos hs, if_pos hs]
    · rw [if_neg hs, if_neg hs, sizeO_dec]
      unfold szD
      by_cases hd : (Lib.decodeL s).1 = 65533 ∧ (Lib.decodeL s).2 = 1
      · rw [if_pos hd, if_pos hd, if_pos rfl]
      · have hw := Lib.decodeL_width s
        rw [if_neg hd, if_neg hd, if_neg (by omega)]
        have := List.length_pos_iff.2 hs
        exact validN_D n _ (by rw [List.length_drop]; omega)
theorem valid_ch (h : Heap) (s : List UInt8) (hP : Plc h) (hs : s.length ≤ 9223372036854775807) : CH Tryd.prog 33 #[.string (strOf s)] h fun v h' => v = .bool (validO s) ∧ Ext h h' :=
  CH.of_below (fun w hw => (Tryd.utf8_ValidString (strOf s) w (by rw [strOf_size]; exact hs) (hP w hw).1).mono fun _ _ ⟨a, b⟩ => ⟨a, b⟩) fun h' x => ⟨congrArg Value.bool (validN_D s.length s (Nat.le_refl _)).symm, x⟩
end Go.Proofs.YtjopikfkgjbcgaaDoor
