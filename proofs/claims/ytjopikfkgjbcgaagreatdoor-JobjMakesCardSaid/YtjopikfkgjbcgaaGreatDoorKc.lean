/- What is set is got, what is dropped is not, other keys do not change: told of lists alone. No program in sight. -/
import Derived.Test.YtjopikfkgjbcgaaGreatDoorRa
import Derived.Test.YtjopikfkgjbcgaaGreatDoorOb
import Derived.Test.YtjopikfkgjbcgaaGreatDoorOr
import Derived.Lib.ItoaLen
namespace Go.Proofs.YtjopikfkgjbcgaaGreatDoor
set_option linter.unnecessarySimpa false
set_option linter.unusedSimpArgs false
set_option linter.unusedVariables false
open Go.RowKit
theorem right_seg {l : List JV} (h : rightO l = true) : Seg 50 false l := ((rightO_iff l).1 h).2
/-- A right row that is built of a head and of values is an object of them, if its head is one's. -/
theorem objR_of {l : List JV} {x : JV} {ks : List (List JV)} (hr : rightO l = true) (e : l = x :: ks.flatten) (ho : isObj x = true) (hl : ks.length = x.2.2.2.toNat) (hv : ∀ k ∈ ks, Vals 1 k) : ObjR l x ks := ⟨e, hr, ho, hl, hv⟩
theorem v_ne {v : List JV} (h : rightO v = true) : v ≠ [] := right_ne h
theorem named_vals {v : List JV} (h : rightO v = true) (key : List UInt8) : Vals 1 (namedO v key) := (right_vals h).named key
theorem named_back {v : List JV} (h : rightO v = true) (key : List UInt8) : namedO (namedO v key) [] = v := by
  rw [named_named, named_self (right_key h)]
theorem named_kk {v : List JV} (h : rightO v = true) (key : List UInt8) : kk (namedO v key) = key := kk_named (right_ne h)
theorem isObj_plus (x : JV) (d : Int) : isObj (x.1, x.2.1, x.2.2.1, x.2.2.2 + d) = isObj x := rfl
/-- What a row that was set is: its head, its members. -/
theorem set_obj {l v : List JV} {key : List UInt8} (hs : setO l key v ≠ []) : ∃ x ks x' ks', ObjR l x ks ∧ KidsOk 49 true [] ks ∧ fitV false x = true ∧ rightO v = true ∧ ObjR (setO l key v) x' ks' ∧ rightO (setO l key v) = true ∧
    ((∃ A p B, ks = A ++ p :: B ∧ (∀ a ∈ A, kk a ≠ key) ∧ kk p = key ∧ ks' = A ++ namedO v key :: B ∧ x' = x) ∨ ((∀ a ∈ ks, kk a ≠ key) ∧ ks' = ks ++ [namedO v key] ∧ x' = (x.1, x.2.1, x.2.2.1, x.2.2.2 + 1))) := by
  have hc : objO l = true ∧ rightO v = true := by
    refine ⟨?_, ?_⟩
    · cases q : objO l with
      | true => rfl
      | false => exact absurd (by unfold setO; rw [if_pos (.inl q)]) hs
    · cases q : rightO v with
      | true => rfl
      | false => exact absurd (by unfold setO; rw [if_pos (.inr q)]) hs
  obtain ⟨ho, hv⟩ := hc
  obtain ⟨x, ks, o, hf, hk⟩ := obj_split ho
  have h0 := own_count (fit_own hf).1
  rcases key_split ks key with hno | ⟨A, p, B, rfl, hA, hp⟩
  · have e := o.setNo hno hv
    rw [e] at hs
    obtain ⟨hr, hw⟩ := whole_ne hs
    rw [hw] at e
    refine ⟨x, ks, (x.1, x.2.1, x.2.2.1, x.2.2.2 + 1), ks ++ [namedO v key], o, hk, hf, hv, ?_, by rw [e]; exact hr, .inr ⟨hno, rfl, rfl⟩⟩
    refine ⟨e, by rw [e]; exact hr, o.obj, ?_, fun k hk' => ?_⟩
    · rw [List.length_append, o.len]
      show x.2.2.2.toNat + 1 = (x.2.2.2 + 1).toNat
      omega
    · rcases List.mem_append.1 hk' with q | q
      · exact o.vals k q
      · have q : k = namedO v key := List.mem_singleton.1 q
        rw [q]; exact named_vals hv key
  · have e := o.setAt hA hp hv
    rw [e] at hs
    obtain ⟨hr, hw⟩ := whole_ne hs
    rw [hw] at e
    refine ⟨x, A ++ p :: B, x, A ++ namedO v key :: B, o, hk, hf, hv, ?_, by rw [e]; exact hr, .inl ⟨A, p, B, rfl, hA, hp, rfl, rfl⟩⟩
    refine ⟨e, by rw [e]; exact hr, o.obj, ?_, fun k hk' => ?_⟩
    · rw [← o.len]; simp
    · rcases List.mem_append.1 hk' with q | q
      · exact o.vals k (List.mem_append.2 (.inl q))
      · rcases List.mem_cons.1 q with q | q
        · rw [q]; exact named_vals hv key
        · exact o.vals k (List.mem_append.2 (.inr (List.mem_cons_of_mem _ q)))
theorem set_right {l v : List JV} {key : List UInt8} (hs : setO l key v ≠ []) : rightO (setO l key v) = true := by
  obtain ⟨x, ks, x', ks', o, hk, hf, hv, o', hr, hc⟩ := set_obj hs
  exact hr
theorem set_get {l v : List JV} {key : List UInt8} (hs : setO l key v ≠ []) : cutO (setO l key v) (getO (setO l key v) 0 key) = v := by
  obtain ⟨x, ks, x', ks', o, hk, hf, hv, o', hr, hc⟩ := set_obj hs
  rw [o'.cutKey]
  rcases hc with ⟨A, p, B, rfl, hA, hp, rfl, rfl⟩ | ⟨hno, rfl, rfl⟩
  · rw [atKey_at hA (named_kk hv key), named_back hv]
  · rw [atKey_at hno (named_kk hv key), named_back hv]
theorem set_other {l v : List JV} {key other : List UInt8} (hs : setO l key v ≠ []) (hne : other ≠ key) : cutO (setO l key v) (getO (setO l key v) 0 other) = cutO l (getO l 0 other) := by
  obtain ⟨x, ks, x', ks', o, hk, hf, hv, o', hr, hc⟩ := set_obj hs
  rw [o'.cutKey, o.cutKey]
  rcases hc with ⟨A, p, B, rfl, hA, hp, rfl, rfl⟩ | ⟨hno, rfl, rfl⟩
  · rw [atKey_skip (by rw [named_kk hv]; exact fun q => hne q.symm), atKey_skip (by rw [hp]; exact fun q => hne q.symm)]
  · rw [atKey_skip (by rw [named_kk hv]; exact fun q => hne q.symm), List.append_nil]
/-- What was set anew and is dropped again leaves the row as it was. -/
theorem set_drop {l v : List JV} {key : List UInt8} (hs : setO l key v ≠ []) (hno : getO l 0 key = -1) : dropO (setO l key v) key = l := by
  obtain ⟨x, ks, x', ks', o, hk, hf, hv, o', hr, hc⟩ := set_obj hs
  rcases hc with ⟨A, p, B, rfl, hA, hp, rfl, rfl⟩ | ⟨hno, rfl, rfl⟩
  · have := (o.getAt hA hp).1
    rw [hno] at this
    omega
  · rw [o'.dropAt hno (named_kk hv key), o.eq]
    simp only [List.append_nil]
    congr 1
    show (x.1, x.2.1, x.2.2.1, x.2.2.2 + 1 + -1) = x
    rw [show x.2.2.2 + 1 + -1 = x.2.2.2 by omega]
/-- What a row of which was dropped is. -/
theorem drop_obj {l : List JV} {key : List UInt8} (hd : dropO l key ≠ []) : ∃ x ks x' ks', ObjR l x ks ∧ ObjR (dropO l key) x' ks' ∧ rightO (dropO l key) = true ∧ (∀ k ∈ ks', kk k ≠ key) ∧ ∀ other, other ≠ key → atKey ks' other = atKey ks other := by
  have ho : objO l = true := by
    cases q : objO l with
    | true => rfl
    | false => exact absurd (by unfold dropO; rw [if_pos q]) hd
  obtain ⟨x, ks, o, hf, hk⟩ := obj_split ho
  have h0 := own_count (fit_own hf).1
  rcases key_split ks key with hno | ⟨A, p, B, rfl, hA, hp⟩
  · have e := o.dropNo hno
    exact ⟨x, ks, x, ks, o, by rw [e]; exact o, by rw [e]; exact o.right, hno, fun _ _ => rfl⟩
  · have e := o.dropAt hA hp
    have hlen := o.len
    rw [List.length_append, List.length_cons] at hlen
    have hobj6 : x.1 = 6 := by simpa [isObj] using o.obj
    have hf' : fitV false (x.1, x.2.1, x.2.2.1, x.2.2.2 + -1) = true := by
      obtain ⟨q1, q2, q3⟩ := fit_own hf
      have hk0 : x.2.1 = [] := by
        rcases q2 with q | q
        · cases q
        · exact q
      have hown : ownO (x.1, x.2.1, x.2.2.1, x.2.2.2 + -1) = true := by
        have q1' := q1
        unfold ownO at q1' ⊢
        simp only at q1' ⊢
        rw [if_neg (by omega), if_neg (by omega)] at q1' ⊢
        exact q1'
      unfold fitV
      simp only
      rw [hown, q3, hk0]
      rfl
    have hkn := (hk.2 rfl).1
    rw [List.map_append, List.map_cons, List.nodup_append, List.nodup_cons] at hkn
    have hnk : ∀ k ∈ A ++ B, kk k ≠ key := fun k hk' => by
      rcases List.mem_append.1 hk' with q | q
      · exact hA k q
      · intro r
        exact hkn.2.1.1 (List.mem_map.2 ⟨k, q, by rw [r, hp]⟩)
    have hKids : KidsOk 49 (isObj (x.1, x.2.1, x.2.2.1, x.2.2.2 + -1)) [] (A ++ B) := by
      rw [isObj_plus, o.obj]
      refine ⟨fun k hk' => hk.1 k ?_, fun _ => ⟨?_, fun _ _ h => by cases h⟩⟩
      · rcases List.mem_append.1 hk' with q | q
        · exact List.mem_append.2 (.inl q)
        · exact List.mem_append.2 (.inr (List.mem_cons_of_mem _ q))
      · rw [List.map_append, List.nodup_append]
        exact ⟨hkn.1, hkn.2.1.2, fun a ha b hb => hkn.2.2 a ha b (List.mem_cons_of_mem _ hb)⟩
    have hseg : Seg 50 false (dropO l key) := by
      rw [e]
      refine (seg_iff 49 false _).2 ⟨_, A ++ B, rfl, hf', ?_, hKids⟩
      show (A ++ B).length = (x.2.2.2 + -1).toNat
      rw [List.length_append]
      omega
    have hlen2 : (dropO l key).length ≤ 5000 := by
      have h5 := ((rightO_iff l).1 o.right).1
      rw [o.eq] at h5
      rw [e]
      simp only [List.length_cons, List.flatten_append, List.flatten_cons, List.length_append] at h5 ⊢
      omega
    have hr : rightO (dropO l key) = true := (rightO_iff _).2 ⟨hlen2, hseg⟩
    refine ⟨x, A ++ p :: B, (x.1, x.2.1, x.2.2.1, x.2.2.2 + -1), A ++ B, o, ⟨e, hr, o.obj, ?_, fun k hk' => o.vals k ?_⟩, hr, hnk, fun other hne => ?_⟩
    · show (A ++ B).length = (x.2.2.2 + -1).toNat
      rw [List.length_append]
      omega
    · rcases List.mem_append.1 hk' with q | q
      · exact List.mem_append.2 (.inl q)
      · exact List.mem_append.2 (.inr (List.mem_cons_of_mem _ q))
    · rw [atKey_skip (by rw [hp]; exact fun q => hne q.symm)]
theorem drop_right {l : List JV} {key : List UInt8} (hd : dropO l key ≠ []) : rightO (dropO l key) = true := by
  obtain ⟨x, ks, x', ks', o, o', hr, hk, ht⟩ := drop_obj hd
  exact hr
theorem drop_get {l : List JV} {key : List UInt8} (hd : dropO l key ≠ []) : getO (dropO l key) 0 key = -1 := by
  obtain ⟨x, ks, x', ks', o, o', hr, hk, ht⟩ := drop_obj hd
  exact o'.getNo hk
theorem drop_other {l : List JV} {key other : List UInt8} (hd : dropO l key ≠ []) (hne : other ≠ key) : cutO (dropO l key) (getO (dropO l key) 0 other) = cutO l (getO l 0 other) := by
  obtain ⟨x, ks, x', ks', o, o', hr, hk, ht⟩ := drop_obj hd
  rw [o'.cutKey, o.cutKey, ht other hne]
end Go.Proofs.YtjopikfkgjbcgaaGreatDoor
/-! What is quoted and unquoted again: what comes out. No program in sight. -/
namespace Go.Proofs.YtjopikfkgjbcgaaGreatDoor
set_option linter.unnecessarySimpa false
set_option linter.unusedSimpArgs false
set_option linter.unusedVariables false
open Go.RowKit
/-! ### A character's size depends on its own bytes alone -/
theorem numK_congr {s t : List UInt8} (n : Int) : ∀ k, (∀ j, j < k → at8 s (j + 1) = at8 t (j + 1)) → numK s n k = numK t n k
  | 0, _ => rfl
  | k + 1, h => by rw [numK, numK, numK_congr n k fun j hj => h j (by omega), h k (by omega)]
theorem at8_take {t r : List UInt8} {z k : Nat} (hk : k < z) (hz : z ≤ t.length) : at8 (t.take z ++ r) k = at8 t k := by
  unfold at8
  congr 2
  rw [List.getD_eq_getElem?_getD, List.getD_eq_getElem?_getD, List.getElem?_append_left (by rw [List.length_take]; omega), List.getElem?_take_of_lt hk]
theorem size_lead {t : List UInt8} (h : 2 ≤ sizeO t) : (lead (at8 t 0)).1 = sizeO t := by
  unfold sizeO at h ⊢
  simp only at h ⊢
  generalize (lead (at8 t 0)).1 = z at *
  generalize numK t (lead (at8 t 0)).2 (z - 1) = n at *
  split at h
  · omega
  · split at h
    · omega
    · split at h
      · omega
      · split at h
        · omega
        · rename_i h1 h2 h3 h4
          rw [if_neg h1, if_neg h2, if_neg h3, if_neg h4]
theorem size_one {t : List UInt8} : sizeO t = 1 ↔ at8 t 0 < 128 := by
  have hr := at8_range t 0
  constructor
  · intro h
    refine Int.lt_of_not_ge fun hc => ?_
    have hl : (lead (at8 t 0)).1 ≠ 1 := by
      unfold lead
      rw [if_neg (by omega)]
      split
      · simp
      · split
        · simp
        · split <;> simp
    unfold sizeO at h
    simp only at h
    rw [if_neg hl] at h
    split at h
    · omega
    · split at h
      · omega
      · split at h
        · omega
        · exact hl h
  · intro h
    unfold sizeO lead
    rw [if_pos h]
    rfl
theorem size_take {t r : List UInt8} (h : 2 ≤ sizeO t) (hl : sizeO t ≤ t.length) : sizeO (t.take (sizeO t) ++ r) = sizeO t := by
  have hz := size_lead h
  obtain ⟨z, hzE⟩ : ∃ z, z = sizeO t := ⟨_, rfl⟩
  rw [← hzE] at hz hl h ⊢
  have h0 : at8 (t.take z ++ r) 0 = at8 t 0 := at8_take (by omega) hl
  have hk : numK (t.take z ++ r) (lead (at8 t 0)).2 (z - 1) = numK t (lead (at8 t 0)).2 (z - 1) := numK_congr _ _ fun j hj => at8_take (by omega) hl
  have hc : (List.range (z - 1)).all (fun k => cont (at8 (t.take z ++ r) (k + 1))) = (List.range (z - 1)).all (fun k => cont (at8 t (k + 1))) := by
    rw [Bool.eq_iff_iff, List.all_eq_true, List.all_eq_true]
    constructor
    · intro q k hk2
      have := q k hk2
      rwa [at8_take (by have := List.mem_range.1 hk2; omega) hl] at this
    · intro q k hk2
      rw [at8_take (by have := List.mem_range.1 hk2; omega) hl]
      exact q k hk2
  have e : sizeO (t.take z ++ r) = sizeO t := by
    unfold sizeO
    rw [h0, hz]
    simp only
    rw [hk, hc]
  rw [e, ← hzE]
theorem size_bad (r : List UInt8) : sizeO ([239, 191, 189] ++ r) = 3 := by
  have e : sizeO [239, 191, 189] = 3 := by decide +kernel
  have h := size_take (t := [239, 191, 189]) (r := r) (by rw [e]; decide) (by rw [e]; decide)
  rw [e] at h
  exact h
/-! ### Quoted -/
def hexd (d : Nat) : UInt8 := ([48, 49, 50, 51, 52, 53, 54, 55, 56, 57, 97, 98, 99, 100, 101, 102] : List UInt8).getD d 0
/-- How a character below 80 is quoted. -/
def oneQ (c : Nat) : List UInt8 :=
  if c = 8 then [92, 98] else if c = 9 then [92, 116] else if c = 10 then [92, 110] else if c = 12 then [92, 102] else if c = 13 then [92, 114] else if c = 34 then [92, 34] else if c = 92 then [92, 92]
  else if c < 32 then [92, 117, 48, 48, hexd (c / 16), hexd (c % 16)] else [UInt8.ofNat c]
theorem oneQ_len (c : Nat) : (oneQ c).length ≤ 6 := by
  unfold oneQ
  repeat' split
  all_goals simp
def bad3 : List UInt8 := [239, 191, 189]
def quoN : Nat → List UInt8 → List UInt8
  | 0, _ => []
  | n + 1, s => if s = [] then [] else if sizeO s = 0 then bad3 ++ quoN n (s.drop 1) else (if sizeO s = 1 then oneQ (at8 s 0).toNat else s.take (sizeO s)) ++ quoN n (s.drop (sizeO s))
/-- What stands between the quotes. -/
def quoI (s : List UInt8) : List UInt8 := quoN s.length s
def menN : Nat → List UInt8 → List UInt8
  | 0, _ => []
  | n + 1, s => if s = [] then [] else if sizeO s = 0 then bad3 ++ menN n (s.drop 1) else s.take (sizeO s) ++ menN n (s.drop (sizeO s))
theorem quoN_nil (n : Nat) : quoN n [] = [] := by cases n <;> rfl
theorem menN_nil (n : Nat) : menN n [] = [] := by cases n <;> rfl
theorem quoN_len : ∀ (n : Nat) (s : List UInt8), (quoN n s).length ≤ 6 * n
  | 0, _ => Nat.zero_le _
  | n + 1, s => by
    unfold quoN
    split
    · exact Nat.zero_le _
    · split
      · have := quoN_len n (s.drop 1)
        rw [List.length_append]
        show 3 + _ ≤ _
        omega
      · have := quoN_len n (s.drop (sizeO s))
        have h6 := oneQ_len (at8 s 0).toNat
        have h4 := sizeO_le s
        rw [List.length_append]
        split
        · omega
        · rw [List.length_take]; omega
theorem menN_len : ∀ (n : Nat) (s : List UInt8), (menN n s).length ≤ 4 * n
  | 0, _ => Nat.zero_le _
  | n + 1, s => by
    unfold menN
    split
    · exact Nat.zero_le _
    · split
      · have := menN_len n (s.drop 1)
        rw [List.length_append]
        show 3 + _ ≤ _
        omega
      · have := menN_len n (s.drop (sizeO s))
        have h4 := sizeO_le s
        rw [List.length_append, List.length_take]
        omega
/-- It is what the library's map of each character to itself gives. -/
theorem men_map : ∀ (n : Nat) (s : List UInt8), s.length ≤ n → menN n s = Lib.mapD id s
  | 0, s, h => by
    have : s = [] := List.length_eq_zero_iff.1 (by omega)
    subst this
    rfl
  | n + 1, s, h => by
    unfold menN
    by_cases hs : s = []
    · rw [if_pos hs, hs]; rfl
    · have hp := List.length_pos_iff.2 hs
      have hw := Lib.decodeL_width s
      rw [if_neg hs, sizeO_dec]
      unfold szD
      by_cases hd : (Lib.decodeL s).1 = 65533 ∧ (Lib.decodeL s).2 = 1
      · rw [if_pos hd, if_pos rfl, Lib.mapD_step id s hs, hd.1, hd.2, men_map n _ (by rw [List.length_drop]; omega)]
        rfl
      · rw [if_neg hd, if_neg (by omega), Lib.mapD_same id s hs rfl hd, men_map n _ (by rw [List.length_drop]; omega)]
end Go.Proofs.YtjopikfkgjbcgaaGreatDoor
/-! A number's text: onionskinref10.Text, which calls itself: the decimal numeral. -/
namespace Go.Proofs.YtjopikfkgjbcgaaGreatDoor
set_option linter.unnecessarySimpa false
set_option linter.unusedSimpArgs false
set_option linter.unusedVariables false
open Go.RowKit
theorem digit_at : ∀ m : Nat, m < 10 → (([48, 49, 50, 51, 52, 53, 54, 55, 56, 57] : List UInt8).take (m + 1)).drop m = [UInt8.ofNat (48 + m)] := by decide
theorem dec_small {m : Nat} (h : m < 10) : Lib.decDigits m = [UInt8.ofNat (48 + m)] := by rw [Lib.decDigits, dif_pos h]
theorem dec_big {m : Nat} (h : ¬ m < 10) : Lib.decDigits m = Lib.decDigits (m / 10) ++ Lib.decDigits (m % 10) := by
  rw [dec_small (Nat.mod_lt m (by decide))]
  conv => lhs; rw [Lib.decDigits, dif_neg h]
theorem dec_len {m : Nat} (h : m ≤ 9223372036854775807) : (Lib.decDigits m).length ≤ 21 := by
  rw [← Lib.itoa_nonneg]
  exact Lib.itoa_length_le m (by omega) (by omega)
set_option maxRecDepth 10000 in
theorem textN_ch (m : Nat) : ∀ h : Heap, m ≤ 9223372036854775807 → CH Tryz.prog 24 #[I64 (m : Nat)] h fun v h' => v = .string (strOf (Lib.decDigits m)) ∧ h = h' := by
  induction m using Nat.strongRecOn with
  | _ m ih =>
    intro h hm
    refine CH.of_body Tryz.func24 rfl rfl rfl ?_
    intro f hf
    have p0 : f 0 = I64 (m : Nat) := by rw [hf]; exact fr0_at rfl
    -- region 0
    repeat refine HW.seq ?_
    refine HW.region ?_
    refine HL.still (Runs.assign rfl) ?_
    intro u2 e2
    refine HL.nil ?_
    -- region 1
    repeat refine HW.seq ?_
    refine HW.region ?_
    refine HL.still (Runs.move p0) ?_
    intro u3 e3
    refine HL.still (Runs.lss e3 rfl (t := false) (decide_eq_false (by omega))) ?_
    intro u4 e4
    refine HL.nil ?_
    refine HW.no e4 ?_
    refine HW.skip ?_
    by_cases hd : m < 10
    · skip
      -- region 5
      repeat refine HW.seq ?_
      refine HW.region ?_
      refine HL.still (Runs.move p0) ?_
      intro u19 e19
      refine HL.still (Runs.lss e19 rfl (t := true) (decide_eq_true (by omega))) ?_
      intro u20 e20
      refine HL.nil ?_
      refine HW.yes e20 ?_
      -- region 6
      repeat refine HW.seq ?_
      refine HW.region ?_
      refine HL.still (Runs.move p0) ?_
      intro u21 e21
      refine HL.still (Runs.move p0) ?_
      intro u22 e22
      refine HL.still (Runs.add e22 rfl (c := ((m + 1 : Nat) : Int)) (by rw [i64w (by omega)]; omega)) ?_
      intro u23 e23
      refine HL.still (Runs.sliceS Tryz.underlying9 rfl (xs := [48, 49, 50, 51, 52, 53, 54, 55, 56, 57]) (lo := m) (hi := m + 1) ⟨_, e21⟩ ⟨_, e23⟩ (by omega) (show m + 1 ≤ 10 by omega)) ?_
      intro u24 e24
      refine HL.still (Runs.assign e24) ?_
      intro u2 e2
      refine HL.nil ?_
      refine HW.ret ?_
      exact RT.one rfl e2 ⟨by rw [digit_at m hd, dec_small hd], rfl⟩
    · have h1 := dec_len (m := m / 10) (by omega)
      have h2 := dec_len (m := m % 10) (by omega)
      -- region 5
      repeat refine HW.seq ?_
      refine HW.region ?_
      refine HL.still (Runs.move p0) ?_
      intro u19 e19
      refine HL.still (Runs.lss e19 rfl (t := false) (decide_eq_false (by omega))) ?_
      intro u20 e20
      refine HL.nil ?_
      refine HW.no e20 ?_
      refine HW.skip ?_
      -- region 7
      repeat refine HW.seq ?_
      refine HW.region ?_
      refine HL.still (Runs.move p0) ?_
      intro u25 e25
      refine HL.still (Runs.quo e25 rfl (c := ((m / 10 : Nat) : Int)) (by decide) (by rw [quo64 (by omega) (by decide)]; omega)) ?_
      intro u26 e26
      refine HL.one (HO.call Tryz.func24 bd24 nm24 (args1 e26) rfl ((ih (m / 10) (by omega) h (by omega)).mono ?_))
      rintro _ b1 ⟨rfl, rfl⟩
      intro u27 e27
      refine HL.still (Runs.move p0) ?_
      intro u28 e28
      refine HL.still (Runs.rem e28 rfl (c := ((m % 10 : Nat) : Int)) (by decide) (by rw [rem64 (by omega) (by decide)]; omega)) ?_
      intro u29 e29
      refine HL.one (HO.call Tryz.func24 bd24 nm24 (args1 e29) rfl ((ih (m % 10) (by omega) h (by omega)).mono ?_))
      rintro _ b2 ⟨rfl, rfl⟩
      intro u30 e30
      refine HL.still (Runs.addS e27 e30 ) ?_
      intro u31 e31
      refine HL.still (Runs.assign e31) ?_
      intro u2 e2
      refine HL.nil ?_
      refine HW.ret ?_
      exact RT.one rfl e2 ⟨by rw [dec_big hd], rfl⟩
set_option maxRecDepth 10000 in
theorem textM_ch (m : Nat) : ∀ h : Heap, 1 ≤ m → m ≤ 9223372036854775808 → CH Tryz.prog 24 #[I64 (-(m : Int))] h fun v h' => v = .string (strOf (45 :: Lib.decDigits m)) ∧ h = h' := by
  induction m using Nat.strongRecOn with
  | _ m ih =>
    intro h h0 hm
    refine CH.of_body Tryz.func24 rfl rfl rfl ?_
    intro f hf
    have p0 : f 0 = I64 (-(m : Int)) := by rw [hf]; exact fr0_at rfl
    -- region 0
    repeat refine HW.seq ?_
    refine HW.region ?_
    refine HL.still (Runs.assign rfl) ?_
    intro u2 e2
    refine HL.nil ?_
    -- region 1
    repeat refine HW.seq ?_
    refine HW.region ?_
    refine HL.still (Runs.move p0) ?_
    intro u3 e3
    refine HL.still (Runs.lss e3 rfl (t := true) (decide_eq_true (by omega))) ?_
    intro u4 e4
    refine HL.nil ?_
    refine HW.yes e4 ?_
    by_cases hd : m < 10
    · have h1 := dec_len (m := m) (by omega)
      -- region 2
      repeat refine HW.seq ?_
      refine HW.region ?_
      refine HL.still (Runs.move p0) ?_
      intro u5 e5
      refine HL.still (Runs.gtr e5 rfl (t := true) (decide_eq_true (by omega))) ?_
      intro u6 e6
      refine HL.nil ?_
      refine HW.yes e6 ?_
      -- region 3
      repeat refine HW.seq ?_
      refine HW.region ?_
      refine HL.still (Runs.move p0) ?_
      intro u7 e7
      refine HL.still (Runs.neg e7 (c := (m : Int)) (by rw [i64w (by omega)]; omega)) ?_
      intro u8 e8
      refine HL.one (HO.call Tryz.func24 bd24 nm24 (args1 e8) rfl ((textN_ch m h (by omega)).mono ?_))
      rintro _ b1 ⟨rfl, rfl⟩
      intro u9 e9
      refine HL.still (Runs.addS rfl e9 (xs := [45]) (by simp only [List.length_cons, List.length_nil]; omega)) ?_
      intro u10 e10
      refine HL.still (Runs.assign e10) ?_
      intro u2 e2
      refine HL.nil ?_
      refine HW.ret ?_
      exact RT.one rfl e2 ⟨rfl, rfl⟩
    · have h1 := dec_len (m := m / 10) (by omega)
      have h2 := dec_len (m := m % 10) (by omega)
      have hq : (-(m : Int)).tdiv 10 = -((m / 10 : Nat) : Int) := by rw [Int.neg_tdiv, Int.tdiv_eq_ediv_of_nonneg (by omega)]; omega
      have hr : (-(m : Int)).tmod 10 = -((m % 10 : Nat) : Int) := by rw [Int.neg_tmod, Int.tmod_eq_emod_of_nonneg (by omega)]; omega
      -- region 2
      repeat refine HW.seq ?_
      refine HW.region ?_
      refine HL.still (Runs.move p0) ?_
      intro u5 e5
      refine HL.still (Runs.gtr e5 rfl (t := false) (decide_eq_false (by omega))) ?_
      intro u6 e6
      refine HL.nil ?_
      refine HW.no e6 ?_
      refine HW.skip ?_
      -- region 4
      repeat refine HW.seq ?_
      refine HW.region ?_
      refine HL.still (Runs.move p0) ?_
      intro u11 e11
      refine HL.still (Runs.quo e11 rfl (c := -((m / 10 : Nat) : Int)) (by decide) (by rw [hq, i64w (by omega)])) ?_
      intro u12 e12
      refine HL.one (HO.call Tryz.func24 bd24 nm24 (args1 e12) rfl ((ih (m / 10) (by omega) h (by omega) (by omega)).mono ?_))
      rintro _ b1 ⟨rfl, rfl⟩
      intro u13 e13
      refine HL.still (Runs.move p0) ?_
      intro u14 e14
      refine HL.still (Runs.rem e14 rfl (c := -((m % 10 : Nat) : Int)) (by decide) hr) ?_
      intro u15 e15
      refine HL.still (Runs.neg e15 (c := ((m % 10 : Nat) : Int)) (by rw [i64w (by omega)]; omega)) ?_
      intro u16 e16
      refine HL.one (HO.call Tryz.func24 bd24 nm24 (args1 e16) rfl ((textN_ch (m % 10) h (by omega)).mono ?_))
      rintro _ b2 ⟨rfl, rfl⟩
      intro u17 e17
      refine HL.still (Runs.addS e13 e17 (by simp only [List.length_cons]; omega)) ?_
      intro u18 e18
      refine HL.still (Runs.assign e18) ?_
      intro u2 e2
      refine HL.nil ?_
      refine HW.ret ?_
      exact RT.one rfl e2 ⟨by rw [dec_big hd]; rfl, rfl⟩
theorem textR_ch (h : Heap) (n : Int) (h0 : -9223372036854775808 ≤ n) (h1 : n ≤ 9223372036854775807) : CH Tryz.prog 24 #[I64 n] h fun v h' => v = .string (strOf (Lib.itoa n)) ∧ h = h' := by
  by_cases hn : 0 ≤ n
  · obtain ⟨m, rfl⟩ : ∃ m : Nat, n = m := ⟨n.toNat, by omega⟩
    rw [Lib.itoa_nonneg]
    exact textN_ch m h (by omega)
  · obtain ⟨m, rfl⟩ : ∃ m : Nat, n = -(m : Int) := ⟨(-n).toNat, by omega⟩
    rw [Lib.itoa_neg m (by omega)]
    exact textM_ch m h (by omega) (by omega)
end Go.Proofs.YtjopikfkgjbcgaaGreatDoor
