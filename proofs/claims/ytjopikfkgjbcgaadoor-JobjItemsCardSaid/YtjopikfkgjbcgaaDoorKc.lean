/- What is set is got, what is dropped is not, other keys do not change: told of lists alone. No program in sight. -/
import Derived.Test.YtjopikfkgjbcgaaDoorRc
namespace Go.Proofs.YtjopikfkgjbcgaaDoor
set_option linter.unnecessarySimpa false
set_option linter.unusedSimpArgs false
set_option linter.unusedVariables false
open Go.RowKit
theorem right_seg {l : List JV} (h : rightO l = true) : Seg 50 false l := ((rightO_iff l).1 h).2
/-- A right row that is built of a head and of values is an object of them, if its head is one's. -/
theorem objR_of {l : List JV} {x : JV} {ks : List (List JV)} (hr : rightO l = true) (e : l = x :: ks.flatten) (ho : isObj x = true) (hl : ks.length = x.2.2.2.toNat) (hv : ∀ k ∈ ks, Vals 1 k) : ObjR l x ks := ⟨e, hr, ho, hl, hv⟩
theorem v_ne {v : List JV} (h : rightO v = true) : v ≠ [] := right_ne h
theorem named_vals {v : List JV} (h : rightO v = true) (key : List UInt8) : Vals 1 (namedO v key) := (right_vals h).named key
theorem named_back {v : List JV} (h : rightO v = true) (key : List UInt8) : namedO (namedO v key) [] = v := by
  rw [named_named, named_self (right_key h)]
theorem named_kk {v : List JV} (h : rightO v = true) (key : List UInt8) : kk (namedO v key) = key := kk_named (right_ne h)
theorem isObj_plus (x : JV) (d : Int) : isObj (x.1, x.2.1, x.2.2.1, x.2.2.2 + d) = isObj x := rfl
/-- What a row that was set is: its head, its members. -/
theorem set_obj {l v : List JV} {key : List UInt8} (hs : setO l key v ≠ []) : ∃ x ks x' ks', ObjR l x ks ∧ KidsOk 49 true [] ks ∧ fitV false x = true ∧ rightO v = true ∧ ObjR (setO l key v) x' ks' ∧ rightO (setO l key v) = true ∧
    ((∃ A p B, ks = A ++ p :: B ∧ (∀ a ∈ A, kk a ≠ key) ∧ kk p = key ∧ ks' = A ++ namedO v key :: B ∧ x' = x) ∨ ((∀ a ∈ ks, kk a ≠ key) ∧ ks' = ks ++ [namedO v key] ∧ x' = (x.1, x.2.1, x.2.2.1, x.2.2.2 + 1))) := by
  have hc : objO l = true ∧ rightO v = true := by
    refine ⟨?_, ?_⟩
    · cases q : objO l with
      | true => rfl
      | false => exact absurd (by unfold setO; rw [if_pos (.inl q)]) hs
    · cases q : rightO v with
      | true => rfl
      | false => exact absurd (by unfold setO; rw [if_pos (.inr q)]) hs
  obtain ⟨ho, hv⟩ := hc
  obtain ⟨x, ks, o, hf, hk⟩ := obj_split ho
  have h0 := own_count (fit_own hf).1
  rcases key_split ks key with hno | ⟨A, p, B, rfl, hA, hp⟩
  · have e := o.setNo hno hv
    rw [e] at hs
    obtain ⟨hr, hw⟩ := whole_ne hs
    rw [hw] at e
    refine ⟨x, ks, (x.1, x.2.1, x.2.2.1, x.2.2.2 + 1), ks ++ [namedO v key], o, hk, hf, hv, ?_, by rw [e]; exact hr, .inr ⟨hno, rfl, rfl⟩⟩
    refine ⟨e, by rw [e]; exact hr, o.obj, ?_, fun k hk' => ?_⟩
    · rw [List.length_append, o.len]
      show x.2.2.2.toNat + 1 = (x.2.2.2 + 1).toNat
      omega
    · rcases List.mem_append.1 hk' with q | q
      · exact o.vals k q
      · have q : k = namedO v key := List.mem_singleton.1 q
        rw [q]; exact named_vals hv key
  · have e := o.setAt hA hp hv
    rw [e] at hs
    obtain ⟨hr, hw⟩ := whole_ne hs
    rw [hw] at e
    refine ⟨x, A ++ p :: B, x, A ++ namedO v key :: B, o, hk, hf, hv, ?_, by rw [e]; exact hr, .inl ⟨A, p, B, rfl, hA, hp, rfl, rfl⟩⟩
    refine ⟨e, by rw [e]; exact hr, o.obj, ?_, fun k hk' => ?_⟩
    · rw [← o.len]; simp
    · rcases List.mem_append.1 hk' with q | q
      · exact o.vals k (List.mem_append.2 (.inl q))
      · rcases List.mem_cons.1 q with q | q
        · rw [q]; exact named_vals hv key
        · exact o.vals k (List.mem_append.2 (.inr (List.mem_cons_of_mem _ q)))
theorem set_right {l v : List JV} {key : List UInt8} (hs : setO l key v ≠ []) : rightO (setO l key v) = true := by
  obtain ⟨x, ks, x', ks', o, hk, hf, hv, o', hr, hc⟩ := set_obj hs
  exact hr
theorem set_get {l v : List JV} {key : List UInt8} (hs : setO l key v ≠ []) : cutO (setO l key v) (getO (setO l key v) 0 key) = v := by
  obtain ⟨x, ks, x', ks', o, hk, hf, hv, o', hr, hc⟩ := set_obj hs
  rw [o'.cutKey]
  rcases hc with ⟨A, p, B, rfl, hA, hp, rfl, rfl⟩ | ⟨hno, rfl, rfl⟩
  · rw [atKey_at hA (named_kk hv key), named_back hv]
  · rw [atKey_at hno (named_kk hv key), named_back hv]
theorem set_other {l v : List JV} {key other : List UInt8} (hs : setO l key v ≠ []) (hne : other ≠ key) : cutO (setO l key v) (getO (setO l key v) 0 other) = cutO l (getO l 0 other) := by
  obtain ⟨x, ks, x', ks', o, hk, hf, hv, o', hr, hc⟩ := set_obj hs
  rw [o'.cutKey, o.cutKey]
  rcases hc with ⟨A, p, B, rfl, hA, hp, rfl, rfl⟩ | ⟨hno, rfl, rfl⟩
  · rw [atKey_skip (by rw [named_kk hv]; exact fun q => hne q.symm), atKey_skip (by rw [hp]; exact fun q => hne q.symm)]
  · rw [atKey_skip (by rw [named_kk hv]; exact fun q => hne q.symm), List.append_nil]
/-- What was set anew and is dropped again leaves the row as it was. -/
theorem set_drop {l v : List JV} {key : List UInt8} (hs : setO l key v ≠ []) (hno : getO l 0 key = -1) : dropO (setO l key v) key = l := by
  obtain ⟨x, ks, x', ks', o, hk, hf, hv, o', hr, hc⟩ := set_obj hs
  rcases hc with ⟨A, p, B, rfl, hA, hp, rfl, rfl⟩ | ⟨hno, rfl, rfl⟩
  · have := (o.getAt hA hp).1
    rw [hno] at this
    omega
  · rw [o'.dropAt hno (named_kk hv key), o.eq]
    simp only [List.append_nil]
    congr 1
    show (x.1, x.2.1, x.2.2.1, x.2.2.2 + 1 + -1) = x
    rw [show x.2.2.2 + 1 + -1 = x.2.2.2 by omega]
/-- What a row of which was dropped is. -/
theorem drop_obj {l : List JV} {key : List UInt8} (hd : dropO l key ≠ []) : ∃ x ks x' ks', ObjR l x ks ∧ ObjR (dropO l key) x' ks' ∧ rightO (dropO l key) = true ∧ (∀ k ∈ ks', kk k ≠ key) ∧ ∀ other, other ≠ key → atKey ks' other = atKey ks other := by
  have ho : objO l = true := by
    cases q : objO l with
    | true => rfl
    | false => exact absurd (by unfold dropO; rw [if_pos q]) hd
  obtain ⟨x, ks, o, hf, hk⟩ := obj_split ho
  have h0 := own_count (fit_own hf).1
  rcases key_split ks key with hno | ⟨A, p, B, rfl, hA, hp⟩
  · have e := o.dropNo hno
    exact ⟨x, ks, x, ks, o, by rw [e]; exact o, by rw [e]; exact o.right, hno, fun _ _ => rfl⟩
  · have e := o.dropAt hA hp
    have hlen := o.len
    rw [List.length_append, List.length_cons] at hlen
    have hobj6 : x.1 = 6 := by simpa [isObj] using o.obj
    have hf' : fitV false (x.1, x.2.1, x.2.2.1, x.2.2.2 + -1) = true := by
      obtain ⟨q1, q2, q3⟩ := fit_own hf
      have hk0 : x.2.1 = [] := by
        rcases q2 with q | q
        · cases q
        · exact q
      have hown : ownO (x.1, x.2.1, x.2.2.1, x.2.2.2 + -1) = true := by
        have q1' := q1
        unfold ownO at q1' ⊢
        simp only at q1' ⊢
        rw [if_neg (by omega), if_neg (by omega)] at q1' ⊢
        exact q1'
      unfold fitV
      simp only
      rw [hown, q3, hk0]
      rfl
    have hkn := (hk.2 rfl).1
    rw [List.map_append, List.map_cons, List.nodup_append, List.nodup_cons] at hkn
    have hnk : ∀ k ∈ A ++ B, kk k ≠ key := fun k hk' => by
      rcases List.mem_append.1 hk' with q | q
      · exact hA k q
      · intro r
        exact hkn.2.1.1 (List.mem_map.2 ⟨k, q, by rw [r, hp]⟩)
    have hKids : KidsOk 49 (isObj (x.1, x.2.1, x.2.2.1, x.2.2.2 + -1)) [] (A ++ B) := by
      rw [isObj_plus, o.obj]
      refine ⟨fun k hk' => hk.1 k ?_, fun _ => ⟨?_, fun _ _ h => by cases h⟩⟩
      · rcases List.mem_append.1 hk' with q | q
        · exact List.mem_append.2 (.inl q)
        · exact List.mem_append.2 (.inr (List.mem_cons_of_mem _ q))
      · rw [List.map_append, List.nodup_append]
        exact ⟨hkn.1, hkn.2.1.2, fun a ha b hb => hkn.2.2 a ha b (List.mem_cons_of_mem _ hb)⟩
    have hseg : Seg 50 false (dropO l key) := by
      rw [e]
      refine (seg_iff 49 false _).2 ⟨_, A ++ B, rfl, hf', ?_, hKids⟩
      show (A ++ B).length = (x.2.2.2 + -1).toNat
      rw [List.length_append]
      omega
    have hlen2 : (dropO l key).length ≤ 5000 := by
      have h5 := ((rightO_iff l).1 o.right).1
      rw [o.eq] at h5
      rw [e]
      simp only [List.length_cons, List.flatten_append, List.flatten_cons, List.length_append] at h5 ⊢
      omega
    have hr : rightO (dropO l key) = true := (rightO_iff _).2 ⟨hlen2, hseg⟩
    refine ⟨x, A ++ p :: B, (x.1, x.2.1, x.2.2.1, x.2.2.2 + -1), A ++ B, o, ⟨e, hr, o.obj, ?_, fun k hk' => o.vals k ?_⟩, hr, hnk, fun other hne => ?_⟩
    · show (A ++ B).length = (x.2.2.2 + -1).toNat
      rw [List.length_append]
      omega
    · rcases List.mem_append.1 hk' with q | q
      · exact List.mem_append.2 (.inl q)
      · exact List.mem_append.2 (.inr (List.mem_cons_of_mem _ q))
    · rw [atKey_skip (by rw [hp]; exact fun q => hne q.symm)]
theorem drop_right {l : List JV} {key : List UInt8} (hd : dropO l key ≠ []) : rightO (dropO l key) = true := by
  obtain ⟨x, ks, x', ks', o, o', hr, hk, ht⟩ := drop_obj hd
  exact hr
theorem drop_get {l : List JV} {key : List UInt8} (hd : dropO l key ≠ []) : getO (dropO l key) 0 key = -1 := by
  obtain ⟨x, ks, x', ks', o, o', hr, hk, ht⟩ := drop_obj hd
  exact o'.getNo hk
theorem drop_other {l : List JV} {key other : List UInt8} (hd : dropO l key ≠ []) (hne : other ≠ key) : cutO (dropO l key) (getO (dropO l key) 0 other) = cutO l (getO l 0 other) := by
  obtain ⟨x, ks, x', ks', o, o', hr, hk, ht⟩ := drop_obj hd
  rw [o'.cutKey, o.cutKey, ht other hne]
end Go.Proofs.YtjopikfkgjbcgaaDoor
