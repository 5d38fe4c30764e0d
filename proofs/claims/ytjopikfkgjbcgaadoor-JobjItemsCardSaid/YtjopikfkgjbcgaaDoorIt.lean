/- A list and an object of the same rows: what they are made of, what stands where. No program in sight. -/
import Derived.Test.YtjopikfkgjbcgaaDoorOu
import Derived.Test.YtjopikfkgjbcgaaDoorKc
import Derived.Test.YtjopikfkgjbcgaaDoorOr
import Derived.Lib.ItoaLen
import Derived.Test.YtjopikfkgjbcgaaDoorKp
namespace Go.Proofs.YtjopikfkgjbcgaaDoor
set_option linter.unnecessarySimpa false
set_option linter.unusedSimpArgs false
set_option linter.unusedVariables false
open Go.RowKit
theorem Vals.unique : ∀ {p p' a b : List JV} {w : Nat}, Vals w p → Vals w p' → p ++ a = p' ++ b → p = p'
  | [], [], _, _, _, _, _, _ => rfl
  | [], _ :: _, _, _, w, h, k, _ => by
    have h : w = 0 := h
    have := k.1
    omega
  | _ :: _, [], _, _, w, h, k, _ => by
    have k : w = 0 := k
    have := h.1
    omega
  | x :: r, y :: s, a, b, w, h, k, e => by
    rw [List.cons_append, List.cons_append] at e
    injection e with e1 e2
    subst e1
    rw [Vals.unique h.2.2 k.2.2 e2]
theorem flat_inj : ∀ {ks js : List (List JV)}, ks.length = js.length → (∀ k ∈ ks, Vals 1 k) → (∀ j ∈ js, Vals 1 j) → ks.flatten = js.flatten → ks = js
  | [], [], _, _, _, _ => rfl
  | [], _ :: _, h, _, _, _ => by cases h
  | _ :: _, [], h, _, _, _ => by cases h
  | k :: ks, j :: js, h, hk, hj, e => by
    rw [List.flatten_cons, List.flatten_cons] at e
    have h1 := Vals.unique (hk k (List.mem_cons_self ..)) (hj j (List.mem_cons_self ..)) e
    subst h1
    have e2 := List.append_cancel_left e
    rw [flat_inj (by simpa using h) (fun x hx => hk x (List.mem_cons_of_mem _ hx)) (fun x hx => hj x (List.mem_cons_of_mem _ hx)) e2]
/-- A right row: its head, and the rows behind it. -/
structure RowR (l : List JV) (x : JV) (ks : List (List JV)) : Prop where
  eq : l = x :: ks.flatten
  right : rightO l = true
  len : ks.length = x.2.2.2.toNat
  vals : ∀ k ∈ ks, Vals 1 k
theorem RowR.places {l : List JV} {x : JV} {ks : List (List JV)} (o : RowR l x ks) : placesO l 0 = posK 1 ks := by
  have h0 : 0 < l.length := by rw [o.eq]; simp
  have hg : l.getD 0 zJ = x := by rw [o.eq]; rfl
  exact places_pos (a := [x]) (q := []) (k := 0) o.right h0 (by rw [o.eq]; simp) rfl (by rw [o.len, hg]) o.vals
theorem RowR.item {l : List JV} {x : JV} {ks : List (List JV)} (o : RowR l x ks) {k : Nat} (h : k < ks.length) : itemO l 0 (k : Nat) = ((1 + (ks.take k).flatten.length : Nat) : Int) := by
  unfold itemO
  rw [o.places, posK_len, if_neg (by omega), Int.toNat_natCast, List.getD_eq_getElem?_getD, posK_get 1 ks k h]
  rfl
theorem RowR.itemNo {l : List JV} {x : JV} {ks : List (List JV)} (o : RowR l x ks) : itemO l 0 (ks.length : Nat) = -1 := by
  unfold itemO
  rw [o.places, posK_len, if_pos (by omega)]
theorem RowR.cut {l : List JV} {x : JV} {ks : List (List JV)} (o : RowR l x ks) {k : Nat} (h : k < ks.length) : cutO l (itemO l 0 (k : Nat)) = namedO ks[k] [] := by
  rw [o.item h]
  have e1 : l = (x :: (ks.take k).flatten) ++ (ks[k] ++ (ks.drop (k + 1)).flatten) := by rw [o.eq, flat_split ks k h]; simp
  have := cutO_at o.right e1 (o.vals _ (List.getElem_mem h))
  rw [List.length_cons] at this
  rw [show 1 + (ks.take k).flatten.length = (ks.take k).flatten.length + 1 by omega]
  exact this
theorem fit_head {kind : Int} (hk : kind = 5 ∨ kind = 6) (n : Nat) : fitV false (kind, [], [], (n : Int)) = true := by
  have hv : validO [] = true := validN_nil _
  have ho : ownO (kind, [], [], (n : Int)) = true := by
    unfold ownO
    simp only
    rw [if_neg (by omega), if_neg (by omega), hv]
    rfl
  unfold fitV
  simp only
  rw [ho, hv]
  rfl
/-- The rows of an object. -/
def pieces (kind : Int) (keys : List (List UInt8)) (Ls : List (List JV)) : List (List JV) := (List.range Ls.length).map (pieceK kind keys Ls)
theorem pieces_len (kind : Int) (keys : List (List UInt8)) (Ls : List (List JV)) : (pieces kind keys Ls).length = Ls.length := by simp [pieces]
theorem getD_at {α : Type} {l : List α} {i : Nat} {d : α} (h : i < l.length) : l.getD i d = l[i] := by
  rw [List.getD_eq_getElem?_getD, List.getElem?_eq_getElem h]; rfl
theorem pieces_at {kind : Int} {keys : List (List UInt8)} {Ls : List (List JV)} {i : Nat} (h : i < (pieces kind keys Ls).length) : (pieces kind keys Ls)[i] = pieceK kind keys Ls i := by simp [pieces]
theorem pieces5 (keys : List (List UInt8)) (Ls : List (List JV)) : pieces 5 keys Ls = Ls := by
  refine List.ext_getElem (pieces_len ..) fun i h1 h2 => ?_
  rw [pieces_at h1]
  unfold pieceK
  rw [if_neg (by decide), getD_at h2]
theorem made_row (kind : Int) (keys : List (List UInt8)) (Ls : List (List JV)) (hr : ∀ l ∈ Ls, rightO l = true) : madeO kind keys Ls = wholeO ((kind, [], [], (Ls.length : Int)) :: (pieces kind keys Ls).flatten) := by
  unfold madeO
  rw [if_pos (List.all_eq_true.2 hr)]
  rfl
theorem piece6 {keys : List (List UInt8)} {Ls : List (List JV)} (i : Nat) : pieceK 6 keys Ls i = namedO (Ls.getD i []) (keys.getD i []) := by
  unfold pieceK
  rw [if_pos rfl]
theorem pieces_vals {kind : Int} {keys : List (List UInt8)} {Ls : List (List JV)} (hr : ∀ l ∈ Ls, rightO l = true) : ∀ k ∈ pieces kind keys Ls, Vals 1 k := fun k hk => by
  obtain ⟨i, hi, rfl⟩ := List.mem_map.1 hk
  have hi := List.mem_range.1 hi
  unfold pieceK
  rw [getD_at hi]
  split
  · exact named_vals (hr _ (List.getElem_mem hi)) _
  · exact right_vals (hr _ (List.getElem_mem hi))
theorem pieces_flat (kind : Int) (keys : List (List UInt8)) (Ls : List (List JV)) : (pieces kind keys Ls).flatten.length = lenLs Ls := by
  have := body_len kind keys Ls Ls.length (Nat.le_refl _)
  rw [List.take_length] at this
  exact this
/-- When is what is made right? -/
theorem made_right {kind : Int} (hk : kind = 5 ∨ kind = 6) {keys : List (List UInt8)} {Ls : List (List JV)} (hr : ∀ l ∈ Ls, rightO l = true) (hkl : keys.length = Ls.length) (hnd : keys.Nodup) (hkv : ∀ s ∈ keys, validO s = true) :
    rightO ((kind, [], [], (Ls.length : Int)) :: (pieces kind keys Ls).flatten) = true ↔ lenLs Ls + 1 ≤ 5000 ∧ ∀ l ∈ Ls, Seg 49 false l := by
  rw [rightO_iff, List.length_cons, pieces_flat]
  refine and_congr Iff.rfl ?_
  rw [seg_iff 49]
  have hP : ∀ (i : Nat) (hi : i < Ls.length), pieceK kind keys Ls i ∈ pieces kind keys Ls := fun i hi => List.mem_map.2 ⟨i, List.mem_range.2 hi, rfl⟩
  constructor
  · rintro ⟨x, ks, e, hf, hl, hks⟩ l hm
    injection e with e1 e2
    subst e1
    have hks2 : ks = pieces kind keys Ls := (flat_inj (by rw [pieces_len, hl]; rfl) (pieces_vals hr) (fun k hk' => (hks.1 k hk').vals) e2).symm
    subst hks2
    obtain ⟨i, hi, rfl⟩ := List.mem_iff_getElem.1 hm
    have h1 := hks.1 _ (hP i hi)
    have h2 := hr _ hm
    unfold pieceK at h1
    rw [getD_at hi] at h1
    split at h1
    · have := h1.unkeyed
      rwa [named_back h2] at this
    · have := h1.unkeyed
      rwa [named_self (right_key h2)] at this
  · intro h
    refine ⟨_, pieces kind keys Ls, rfl, fit_head hk _, by rw [pieces_len]; rfl, fun k hk' => ?_, fun ho => ⟨?_, fun _ _ h => by cases h⟩⟩
    · obtain ⟨i, hi, rfl⟩ := List.mem_map.1 hk'
      have hi := List.mem_range.1 hi
      have h1 := h _ (List.getElem_mem hi)
      rcases hk with rfl | rfl
      · unfold pieceK
        rw [if_neg (by decide), getD_at hi]
        exact h1
      · rw [piece6, getD_at hi]
        exact h1.keyed (by rw [getD_at (by omega)]; exact hkv _ (List.getElem_mem _))
    · have h6 : kind = 6 := by simpa [isObj] using ho
      subst h6
      have : (pieces 6 keys Ls).map kk = keys := by
        refine List.ext_getElem (by rw [List.length_map, pieces_len, hkl]) fun i h1 h2 => ?_
        have hi : i < Ls.length := by omega
        rw [List.getElem_map, pieces_at (by rw [pieces_len]; exact hi), piece6, getD_at hi, named_kk (hr _ (List.getElem_mem hi)), getD_at h2]
      rw [this]
      exact hnd
/-- A list and an object of the same rows. -/
theorem items_law {keys : List (List UInt8)} {Ls : List (List JV)} (hr : ∀ l ∈ Ls, rightO l = true) (hkl : keys.length = Ls.length) (hnd : keys.Nodup) (hkv : ∀ s ∈ keys, validO s = true) :
    (listO Ls = [] ∧ objectO keys Ls = []) ∨ (rightO (listO Ls) = true ∧ rightO (objectO keys Ls) = true ∧ (listO Ls).getD 0 zJ = (5, [], [], (Ls.length : Int)) ∧ itemO (listO Ls) 0 (Ls.length : Nat) = -1 ∧
      ∀ k (h : k < Ls.length), cutO (listO Ls) (itemO (listO Ls) 0 (k : Nat)) = Ls[k] ∧ cutO (objectO keys Ls) (getO (objectO keys Ls) 0 (keys.getD k [])) = Ls[k] ∧ itemO (objectO keys Ls) 0 (k : Nat) = getO (objectO keys Ls) 0 (keys.getD k [])) := by
  have eL : listO Ls = wholeO ((5, [], [], (Ls.length : Int)) :: (pieces 5 keys Ls).flatten) := by
    unfold listO
    rw [made_row 5 [] Ls hr, pieces5, pieces5]
  have eO : objectO keys Ls = wholeO ((6, [], [], (Ls.length : Int)) :: (pieces 6 keys Ls).flatten) := by
    unfold objectO
    rw [if_pos hkl, made_row 6 keys Ls hr]
  have m5 := made_right (.inl rfl) (kind := 5) hr hkl hnd hkv
  have m6 := made_right (.inr rfl) (kind := 6) hr hkl hnd hkv
  by_cases hc : lenLs Ls + 1 ≤ 5000 ∧ ∀ l ∈ Ls, Seg 49 false l
  · right
    have r5 := m5.2 hc
    have r6 := m6.2 hc
    unfold wholeO at eL eO
    rw [if_pos r5] at eL
    rw [if_pos r6] at eO
    rw [eL, eO]
    have R5 : RowR ((5, [], [], (Ls.length : Int)) :: (pieces 5 keys Ls).flatten) (5, [], [], (Ls.length : Int)) (pieces 5 keys Ls) := ⟨rfl, r5, by rw [pieces_len]; rfl, pieces_vals hr⟩
    have R6 : RowR ((6, [], [], (Ls.length : Int)) :: (pieces 6 keys Ls).flatten) (6, [], [], (Ls.length : Int)) (pieces 6 keys Ls) := ⟨rfl, r6, by rw [pieces_len]; rfl, pieces_vals hr⟩
    have O6 : ObjR ((6, [], [], (Ls.length : Int)) :: (pieces 6 keys Ls).flatten) (6, [], [], (Ls.length : Int)) (pieces 6 keys Ls) := ⟨rfl, r6, rfl, by rw [pieces_len]; rfl, pieces_vals hr⟩
    refine ⟨r5, r6, rfl, ?_, fun k h => ?_⟩
    · have := R5.itemNo
      rwa [pieces_len] at this
    · have hk5 : k < (pieces 5 keys Ls).length := by rw [pieces_len]; exact h
      have hk6 : k < (pieces 6 keys Ls).length := by rw [pieces_len]; exact h
      have hkk : k < keys.length := by omega
      have hrk := hr _ (List.getElem_mem h)
      have hp : (pieces 6 keys Ls)[k] = namedO Ls[k] (keys.getD k []) := by rw [pieces_at hk6, piece6, getD_at h]
      have hA : ∀ a ∈ (pieces 6 keys Ls).take k, kk a ≠ keys.getD k [] := fun a ha => by
        obtain ⟨i, hi, rfl⟩ := List.mem_iff_getElem.1 ha
        rw [List.length_take, pieces_len] at hi
        have hiL : i < Ls.length := by omega
        rw [List.getElem_take, pieces_at (by rw [pieces_len]; exact hiL), piece6, getD_at hiL, named_kk (hr _ (List.getElem_mem hiL)), getD_at (show i < keys.length by omega), getD_at hkk]
        exact List.pairwise_iff_getElem.1 hnd i k (by omega) hkk (by omega)
      have hB : pieces 6 keys Ls = (pieces 6 keys Ls).take k ++ (pieces 6 keys Ls)[k] :: (pieces 6 keys Ls).drop (k + 1) := split_at _ _ hk6
      have O6' := O6
      have hg : getO ((6, [], [], (Ls.length : Int)) :: (pieces 6 keys Ls).flatten) 0 (keys.getD k []) = ((1 + ((pieces 6 keys Ls).take k).flatten.length : Nat) : Int) := by
        rw [hB] at O6'
        have := (O6'.getAt (key := keys.getD k []) hA (by rw [hp]; exact named_kk hrk _)).1
        rwa [← hB] at this
      have hi6 := R6.item hk6
      refine ⟨?_, ?_, by rw [hi6, hg]⟩
      · rw [R5.cut hk5, pieces_at hk5]
        unfold pieceK
        rw [if_neg (by decide), getD_at h, named_self (right_key hrk)]
      · rw [hg, ← hi6, R6.cut hk6, hp, named_back hrk]
  · left
    have r5 : ¬ rightO ((5, [], [], (Ls.length : Int)) :: (pieces 5 keys Ls).flatten) = true := fun q => hc (m5.1 q)
    have r6 : ¬ rightO ((6, [], [], (Ls.length : Int)) :: (pieces 6 keys Ls).flatten) = true := fun q => hc (m6.1 q)
    unfold wholeO at eL eO
    rw [if_neg r5] at eL
    rw [if_neg r6] at eO
    exact ⟨eL, eO⟩
/-! A number's text: onionskinref10.Text, which calls itself: the decimal numeral. -/
open Go.RowKit
theorem digit_at : ∀ m : Nat, m < 10 → (([48, 49, 50, 51, 52, 53, 54, 55, 56, 57] : List UInt8).take (m + 1)).drop m = [UInt8.ofNat (48 + m)] := by decide
theorem dec_small {m : Nat} (h : m < 10) : Lib.decDigits m = [UInt8.ofNat (48 + m)] := by rw [Lib.decDigits, dif_pos h]
theorem dec_big {m : Nat} (h : ¬ m < 10) : Lib.decDigits m = Lib.decDigits (m / 10) ++ Lib.decDigits (m % 10) := by
  rw [dec_small (Nat.mod_lt m (by decide))]
  conv => lhs; rw [Lib.decDigits, dif_neg h]
theorem dec_len {m : Nat} (h : m ≤ 9223372036854775807) : (Lib.decDigits m).length ≤ 21 := by
  rw [← Lib.itoa_nonneg]
  exact Lib.itoa_length_le m (by omega) (by omega)
set_option maxRecDepth 10000 in
theorem textN_ch (m : Nat) : ∀ h : Heap, m ≤ 9223372036854775807 → CH Tryd.prog 15 #[I64 (m : Nat)] h fun v h' => v = .string (strOf (Lib.decDigits m)) ∧ h = h' := by
  induction m using Nat.strongRecOn with
  | _ m ih =>
    intro h hm
    refine CH.of_body Tryd.func15 rfl rfl rfl ?_
    intro f hf
    have p0 : f 0 = I64 (m : Nat) := by rw [hf]; exact fr0_at rfl
    -- region 0
    repeat refine HW.seq ?_
    refine HW.region ?_
    refine HL.still (Runs.assign rfl) ?_
    intro u2 e2
    refine HL.nil ?_
    -- region 1
    repeat refine HW.seq ?_
    refine HW.region ?_
    refine HL.still (Runs.move p0) ?_
    intro u3 e3
    refine HL.still (Runs.lss e3 rfl (t := false) (decide_eq_false (by omega))) ?_
    intro u4 e4
    refine HL.nil ?_
    refine HW.no e4 ?_
    refine HW.skip ?_
    by_cases hd : m < 10
    · skip
      -- region 5
      repeat refine HW.seq ?_
      refine HW.region ?_
      refine HL.still (Runs.move p0) ?_
      intro u19 e19
      refine HL.still (Runs.lss e19 rfl (t := true) (decide_eq_true (by omega))) ?_
      intro u20 e20
      refine HL.nil ?_
      refine HW.yes e20 ?_
      -- region 6
      repeat refine HW.seq ?_
      refine HW.region ?_
      refine HL.still (Runs.move p0) ?_
      intro u21 e21
      refine HL.still (Runs.move p0) ?_
      intro u22 e22
      refine HL.still (Runs.add e22 rfl (c := ((m + 1 : Nat) : Int)) (by rw [i64w (by omega)]; omega)) ?_
      intro u23 e23
      refine HL.still (Runs.sliceS Tryd.underlying9 rfl (xs := [48, 49, 50, 51, 52, 53, 54, 55, 56, 57]) (lo := m) (hi := m + 1) ⟨_, e21⟩ ⟨_, e23⟩ (by omega) (show m + 1 ≤ 10 by omega)) ?_
      intro u24 e24
      refine HL.still (Runs.assign e24) ?_
      intro u2 e2
      refine HL.nil ?_
      refine HW.ret ?_
      exact RT.one rfl e2 ⟨by rw [digit_at m hd, dec_small hd], rfl⟩
    · have h1 := dec_len (m := m / 10) (by omega)
      have h2 := dec_len (m := m % 10) (by omega)
      -- region 5
      repeat refine HW.seq ?_
      refine HW.region ?_
      refine HL.still (Runs.move p0) ?_
      intro u19 e19
      refine HL.still (Runs.lss e19 rfl (t := false) (decide_eq_false (by omega))) ?_
      intro u20 e20
      refine HL.nil ?_
      refine HW.no e20 ?_
      refine HW.skip ?_
      -- region 7
      repeat refine HW.seq ?_
      refine HW.region ?_
      refine HL.still (Runs.move p0) ?_
      intro u25 e25
      refine HL.still (Runs.quo e25 rfl (c := ((m / 10 : Nat) : Int)) (by decide) (by rw [quo64 (by omega) (by decide)]; omega)) ?_
      intro u26 e26
      refine HL.one (HO.call Tryd.func15 bd15 nm15 (args1 e26) rfl ((ih (m / 10) (by omega) h (by omega)).mono ?_))
      rintro _ b1 ⟨rfl, rfl⟩
      intro u27 e27
      refine HL.still (Runs.move p0) ?_
      intro u28 e28
      refine HL.still (Runs.rem e28 rfl (c := ((m % 10 : Nat) : Int)) (by decide) (by rw [rem64 (by omega) (by decide)]; omega)) ?_
      intro u29 e29
      refine HL.one (HO.call Tryd.func15 bd15 nm15 (args1 e29) rfl ((ih (m % 10) (by omega) h (by omega)).mono ?_))
      rintro _ b2 ⟨rfl, rfl⟩
      intro u30 e30
      refine HL.still (Runs.addS e27 e30 ) ?_
      intro u31 e31
      refine HL.still (Runs.assign e31) ?_
      intro u2 e2
      refine HL.nil ?_
      refine HW.ret ?_
      exact RT.one rfl e2 ⟨by rw [dec_big hd], rfl⟩
set_option maxRecDepth 10000 in
theorem textM_ch (m : Nat) : ∀ h : Heap, 1 ≤ m → m ≤ 9223372036854775808 → CH Tryd.prog 15 #[I64 (-(m : Int))] h fun v h' => v = .string (strOf (45 :: Lib.decDigits m)) ∧ h = h' := by
  induction m using Nat.strongRecOn with
  | _ m ih =>
    intro h h0 hm
    refine CH.of_body Tryd.func15 rfl rfl rfl ?_
    intro f hf
    have p0 : f 0 = I64 (-(m : Int)) := by rw [hf]; exact fr0_at rfl
    -- region 0
    repeat refine HW.seq ?_
    refine HW.region ?_
    refine HL.still (Runs.assign rfl) ?_
    intro u2 e2
    refine HL.nil ?_
    -- region 1
    repeat refine HW.seq ?_
    refine HW.region ?_
    refine HL.still (Runs.move p0) ?_
    intro u3 e3
    refine HL.still (Runs.lss e3 rfl (t := true) (decide_eq_true (by omega))) ?_
    intro u4 e4
    refine HL.nil ?_
    refine HW.yes e4 ?_
    by_cases hd : m < 10
    · have h1 := dec_len (m := m) (by omega)
      -- region 2
      repeat refine HW.seq ?_
      refine HW.region ?_
      refine HL.still (Runs.move p0) ?_
      intro u5 e5
      refine HL.still (Runs.gtr e5 rfl (t := true) (decide_eq_true (by omega))) ?_
      intro u6 e6
      refine HL.nil ?_
      refine HW.yes e6 ?_
      -- region 3
      repeat refine HW.seq ?_
      refine HW.region ?_
      refine HL.still (Runs.move p0) ?_
      intro u7 e7
      refine HL.still (Runs.neg e7 (c := (m : Int)) (by rw [i64w (by omega)]; omega)) ?_
      intro u8 e8
      refine HL.one (HO.call Tryd.func15 bd15 nm15 (args1 e8) rfl ((textN_ch m h (by omega)).mono ?_))
      rintro _ b1 ⟨rfl, rfl⟩
      intro u9 e9
      refine HL.still (Runs.addS rfl e9 (xs := [45]) (by simp only [List.length_cons, List.length_nil]; omega)) ?_
      intro u10 e10
      refine HL.still (Runs.assign e10) ?_
      intro u2 e2
      refine HL.nil ?_
      refine HW.ret ?_
      exact RT.one rfl e2 ⟨rfl, rfl⟩
    · have h1 := dec_len (m := m / 10) (by omega)
      have h2 := dec_len (m := m % 10) (by omega)
      have hq : (-(m : Int)).tdiv 10 = -((m / 10 : Nat) : Int) := by rw [Int.neg_tdiv, Int.tdiv_eq_ediv_of_nonneg (by omega)]; omega
      have hr : (-(m : Int)).tmod 10 = -((m % 10 : Nat) : Int) := by rw [Int.neg_tmod, Int.tmod_eq_emod_of_nonneg (by omega)]; omega
      -- region 2
      repeat refine HW.seq ?_
      refine HW.region ?_
      refine HL.still (Runs.move p0) ?_
      intro u5 e5
      refine HL.still (Runs.gtr e5 rfl (t := false) (decide_eq_false (by omega))) ?_
      intro u6 e6
      refine HL.nil ?_
      refine HW.no e6 ?_
      refine HW.skip ?_
      -- region 4
      repeat refine HW.seq ?_
      refine HW.region ?_
      refine HL.still (Runs.move p0) ?_
      intro u11 e11
      refine HL.still (Runs.quo e11 rfl (c := -((m / 10 : Nat) : Int)) (by decide) (by rw [hq, i64w (by omega)])) ?_
      intro u12 e12
      refine HL.one (HO.call Tryd.func15 bd15 nm15 (args1 e12) rfl ((ih (m / 10) (by omega) h (by omega) (by omega)).mono ?_))
      rintro _ b1 ⟨rfl, rfl⟩
      intro u13 e13
      refine HL.still (Runs.move p0) ?_
      intro u14 e14
      refine HL.still (Runs.rem e14 rfl (c := -((m % 10 : Nat) : Int)) (by decide) hr) ?_
      intro u15 e15
      refine HL.still (Runs.neg e15 (c := ((m % 10 : Nat) : Int)) (by rw [i64w (by omega)]; omega)) ?_
      intro u16 e16
      refine HL.one (HO.call Tryd.func15 bd15 nm15 (args1 e16) rfl ((textN_ch (m % 10) h (by omega)).mono ?_))
      rintro _ b2 ⟨rfl, rfl⟩
      intro u17 e17
      refine HL.still (Runs.addS e13 e17 (by simp only [List.length_cons]; omega)) ?_
      intro u18 e18
      refine HL.still (Runs.assign e18) ?_
      intro u2 e2
      refine HL.nil ?_
      refine HW.ret ?_
      exact RT.one rfl e2 ⟨by rw [dec_big hd]; rfl, rfl⟩
theorem textR_ch (h : Heap) (n : Int) (h0 : -9223372036854775808 ≤ n) (h1 : n ≤ 9223372036854775807) : CH Tryd.prog 15 #[I64 n] h fun v h' => v = .string (strOf (Lib.itoa n)) ∧ h = h' := by
  by_cases hn : 0 ≤ n
  · obtain ⟨m, rfl⟩ : ∃ m : Nat, n = m := ⟨n.toNat, by omega⟩
    rw [Lib.itoa_nonneg]
    exact textN_ch m h (by omega)
  · obtain ⟨m, rfl⟩ : ∃ m : Nat, n = -(m : Int) := ⟨(-n).toNat, by omega⟩
    rw [Lib.itoa_neg m (by omega)]
    exact textM_ch m h (by omega) (by omega)
/-! Rows listed, and put under keys: onionskinlaw12.JobjItems. -/
open Go.RowKit
theorem Ext.tr {a b c : Heap} (x : Ext a b) (y : Ext b c) : Ext a c := x.ext y (Nat.le_refl _)
def keyN (i : Nat) : List UInt8 := 107 :: Lib.decDigits i
def keysN (n : Nat) : List (List UInt8) := (List.range n).map keyN
def keyS (i : Nat) : List UInt8 := 107 :: (if i < 10 then [UInt8.ofNat (48 + i)] else [UInt8.ofNat (48 + i / 10), UInt8.ofNat (48 + i % 10)])
theorem key_s {i : Nat} (h : i < 100) : keyN i = keyS i := by
  unfold keyN keyS
  split
  · rename_i q; rw [Lib.decDigits_one q]
  · rename_i q; rw [Lib.decDigits_two q h]
theorem keyS_inj : ∀ i, i < 20 → ∀ j, j < 20 → keyS i = keyS j → i = j := by decide +kernel
theorem keyS_valid : ∀ i, i < 20 → validO (keyS i) = true := by decide +kernel
theorem keyS_len : ∀ i, i < 20 → (keyS i).length ≤ 3 := by decide +kernel
theorem keysN_len (n : Nat) : (keysN n).length = n := by simp [keysN]
theorem keysN_succ (n : Nat) : keysN (n + 1) = keysN n ++ [keyN n] := by simp [keysN, List.range_succ]
theorem keysN_mem {n : Nat} {s : List UInt8} (h : s ∈ keysN n) : ∃ i, i < n ∧ s = keyN i := by
  obtain ⟨i, hi, rfl⟩ := List.mem_map.1 h
  exact ⟨i, List.mem_range.1 hi, rfl⟩
theorem keysN_nodup {n : Nat} (h : n ≤ 20) : (keysN n).Nodup := by
  refine List.pairwise_iff_getElem.2 fun i j hi hj hij q => ?_
  rw [keysN_len] at hi hj
  simp only [keysN, List.getElem_map, List.getElem_range] at q
  rw [key_s (by omega), key_s (by omega)] at q
  have := keyS_inj i (by omega) j (by omega) q
  omega
theorem keysN_valid {n : Nat} (h : n ≤ 20) : ∀ s ∈ keysN n, validO s = true := fun s hs => by
  obtain ⟨i, hi, rfl⟩ := keysN_mem hs
  rw [key_s (by omega)]
  exact keyS_valid i (by omega)
theorem keysN_short {n : Nat} (h : n ≤ 20) : ∀ s ∈ keysN n, s.length ≤ 140737488355328 := fun s hs => by
  obtain ⟨i, hi, rfl⟩ := keysN_mem hs
  rw [key_s (by omega)]
  exact Nat.le_trans (keyS_len i (by omega)) (by decide)
theorem lenLs_le {L : List RowJ} (h : ∀ x ∈ L, x.2.2.length ≤ 80) : lenLs (L.map (·.2.2)) ≤ 80 * L.length := by
  unfold lenLs
  induction L with
  | nil => exact Nat.zero_le _
  | cons x L ih =>
    have h1 := h x (List.mem_cons_self ..)
    have h2 := ih fun y hy => h y (List.mem_cons_of_mem _ hy)
    simp only [List.map_cons, List.flatten_cons, List.length_append, List.length_cons]
    omega
theorem made_le (kind : Int) (keys : List (List UInt8)) (Ls : List (List JV)) : (madeO kind keys Ls).length ≤ lenLs Ls + 1 := by
  unfold madeO
  split
  · unfold wholeO
    split
    · rw [List.length_cons, body_len kind keys Ls Ls.length (Nat.le_refl _), List.take_length]; exact Nat.le_refl _
    · exact Nat.zero_le _
  · exact Nat.zero_le _
theorem made_ok {kind : Int} {keys : List (List UInt8)} {Ls : List (List JV)} (hn : Ls.length ≤ 1000) (hO : ∀ l ∈ Ls, OkJ l) (hk : ∀ s ∈ keys, s.length ≤ 140737488355328) : OkJ (madeO kind keys Ls) := by
  unfold madeO
  split
  · unfold wholeO
    split
    · intro x hx
      rcases List.mem_cons.1 hx with rfl | hx
      · exact ⟨Nat.zero_le _, Nat.zero_le _, (show (Ls.length : Int) ≤ 9223372036854775807 by omega)⟩
      · exact body_ok hO hk Ls.length (Nat.le_refl _) x hx
    · exact fun x hx => by cases hx
  · exact fun x hx => by cases hx
theorem obj_made {keys : List (List UInt8)} {Ls : List (List JV)} (h : keys.length = Ls.length) : objectO keys Ls = madeO 6 keys Ls := by
  unfold objectO
  rw [if_pos h]
set_option maxRecDepth 10000 in
set_option maxHeartbeats 8000000 in
theorem lawItems_ch (h : Heap) (L : List RowJ) (a : Option Addr) (cap : Nat) (k : Int) (hL : Jvss h a L) (hcap : L.length ≤ cap) (hl : L.length ≤ maxLen) (hz : ∀ x ∈ L, x.2.1 ≤ maxLen ∧ InJ x.2.2) (hP : Plc h) :
    CH Tryd.prog 4 #[.slice a L.length cap, I64 k] h fun v h' => v = .bool true ∧ Ext h h' := by
  refine CH.of_body Tryd.func4 rfl rfl rfl ?_
  intro f hf
  have p0 : f 0 = .slice a L.length cap := by rw [hf]; exact fr0_at rfl
  have p1 : f 1 = I64 k := by rw [hf]; exact fr0_at rfl
  -- region 0
  repeat refine HW.seq ?_
  refine HW.region ?_
  refine HL.still (Runs.assign rfl) ?_
  intro u4 e4
  refine HL.nil ?_
  -- region 1
  repeat refine HW.seq ?_
  refine HW.region ?_
  refine HL.one (HO.call Tryd.func7 bd7 nm7 (args0) rfl ((small_ch h hP).mono ?_))
  rintro _ h1 ⟨rfl, X1⟩
  intro u11 e11
  refine HL.still (Runs.assign e11) ?_
  intro u5 e5
  refine HL.nil ?_
  have g5 : u5 = .bool true := e5
  by_cases h20 : L.length > 20
  · skip
    -- region 2
    repeat refine HW.seq ?_
    refine HW.region ?_
    refine HL.still (Runs.move p0) ?_
    intro u12 e12
    refine HL.still (Runs.lenSl rfl Tryd.underlying31 e12) ?_
    intro u13 e13
    refine HL.still (Runs.gtr e13 rfl (t := true) (decide_eq_true (by omega))) ?_
    intro u14 e14
    refine HL.still (Runs.move e14) ?_
    intro u15 e15
    refine HL.skipG rfl rfl e15 ?_
    intro u16 e16
    refine HL.skipG rfl rfl e15 ?_
    intro u17 e17
    refine HL.still (Runs.pick e15 rfl) ?_
    intro u18 e18
    refine HL.still (Runs.move e18) ?_
    intro u19 e19
    refine HL.skipG rfl rfl e19 ?_
    intro u20 e20
    refine HL.skipG rfl rfl e19 ?_
    intro u21 e21
    refine HL.skipG rfl rfl e19 ?_
    intro u22 e22
    refine HL.skipG rfl rfl e19 ?_
    intro u23 e23
    refine HL.still (Runs.pick e19 rfl) ?_
    intro u24 e24
    refine HL.nil ?_
    refine HW.yes e24 ?_
    -- region 3
    repeat refine HW.seq ?_
    refine HW.region ?_
    refine HL.still (Runs.move g5) ?_
    intro u25 e25
    refine HL.still (Runs.assign e25) ?_
    intro u4 e4
    refine HL.nil ?_
    refine HW.ret ?_
    exact RT.one rfl e4 ⟨rfl, X1⟩
  by_cases hneg : k < 0
  · skip
    -- region 2
    repeat refine HW.seq ?_
    refine HW.region ?_
    refine HL.still (Runs.move p0) ?_
    intro u12 e12
    refine HL.still (Runs.lenSl rfl Tryd.underlying31 e12) ?_
    intro u13 e13
    refine HL.still (Runs.gtr e13 rfl (t := false) (decide_eq_false (by omega))) ?_
    intro u14 e14
    refine HL.still (Runs.move e14) ?_
    intro u15 e15
    refine HL.stillG rfl rfl e15 (Runs.move p1) ?_
    intro u16 e16
    refine HL.stillG rfl rfl e15 (Runs.lss e16 rfl (t := true) (decide_eq_true hneg)) ?_
    intro u17 e17
    refine HL.still (Runs.pick e15 e17) ?_
    intro u18 e18
    refine HL.still (Runs.move e18) ?_
    intro u19 e19
    refine HL.skipG rfl rfl e19 ?_
    intro u20 e20
    refine HL.skipG rfl rfl e19 ?_
    intro u21 e21
    refine HL.skipG rfl rfl e19 ?_
    intro u22 e22
    refine HL.skipG rfl rfl e19 ?_
    intro u23 e23
    refine HL.still (Runs.pick e19 rfl) ?_
    intro u24 e24
    refine HL.nil ?_
    refine HW.yes e24 ?_
    -- region 3
    repeat refine HW.seq ?_
    refine HW.region ?_
    refine HL.still (Runs.move g5) ?_
    intro u25 e25
    refine HL.still (Runs.assign e25) ?_
    intro u4 e4
    refine HL.nil ?_
    refine HW.ret ?_
    exact RT.one rfl e4 ⟨rfl, X1⟩
  by_cases hge : k ≥ L.length
  · skip
    -- region 2
    repeat refine HW.seq ?_
    refine HW.region ?_
    refine HL.still (Runs.move p0) ?_
    intro u12 e12
    refine HL.still (Runs.lenSl rfl Tryd.underlying31 e12) ?_
    intro u13 e13
    refine HL.still (Runs.gtr e13 rfl (t := false) (decide_eq_false (by omega))) ?_
    intro u14 e14
    refine HL.still (Runs.move e14) ?_
    intro u15 e15
    refine HL.stillG rfl rfl e15 (Runs.move p1) ?_
    intro u16 e16
    refine HL.stillG rfl rfl e15 (Runs.lss e16 rfl (t := false) (decide_eq_false hneg)) ?_
    intro u17 e17
    refine HL.still (Runs.pick e15 e17) ?_
    intro u18 e18
    refine HL.still (Runs.move e18) ?_
    intro u19 e19
    refine HL.stillG rfl rfl e19 (Runs.move p1) ?_
    intro u20 e20
    refine HL.stillG rfl rfl e19 (Runs.move p0) ?_
    intro u21 e21
    refine HL.stillG rfl rfl e19 (Runs.lenSl rfl Tryd.underlying31 e21) ?_
    intro u22 e22
    refine HL.stillG rfl rfl e19 (Runs.geq e20 e22 (t := true) (decide_eq_true hge)) ?_
    intro u23 e23
    refine HL.still (Runs.pick e19 e23) ?_
    intro u24 e24
    refine HL.nil ?_
    refine HW.yes e24 ?_
    -- region 3
    repeat refine HW.seq ?_
    refine HW.region ?_
    refine HL.still (Runs.move g5) ?_
    intro u25 e25
    refine HL.still (Runs.assign e25) ?_
    intro u4 e4
    refine HL.nil ?_
    refine HW.ret ?_
    exact RT.one rfl e4 ⟨rfl, X1⟩
  -- region 2
  repeat refine HW.seq ?_
  refine HW.region ?_
  refine HL.still (Runs.move p0) ?_
  intro u12 e12
  refine HL.still (Runs.lenSl rfl Tryd.underlying31 e12) ?_
  intro u13 e13
  refine HL.still (Runs.gtr e13 rfl (t := false) (decide_eq_false (by omega))) ?_
  intro u14 e14
  refine HL.still (Runs.move e14) ?_
  intro u15 e15
  refine HL.stillG rfl rfl e15 (Runs.move p1) ?_
  intro u16 e16
  refine HL.stillG rfl rfl e15 (Runs.lss e16 rfl (t := false) (decide_eq_false hneg)) ?_
  intro u17 e17
  refine HL.still (Runs.pick e15 e17) ?_
  intro u18 e18
  refine HL.still (Runs.move e18) ?_
  intro u19 e19
  refine HL.stillG rfl rfl e19 (Runs.move p1) ?_
  intro u20 e20
  refine HL.stillG rfl rfl e19 (Runs.move p0) ?_
  intro u21 e21
  refine HL.stillG rfl rfl e19 (Runs.lenSl rfl Tryd.underlying31 e21) ?_
  intro u22 e22
  refine HL.stillG rfl rfl e19 (Runs.geq e20 e22 (t := false) (decide_eq_false hge)) ?_
  intro u23 e23
  refine HL.still (Runs.pick e19 e23) ?_
  intro u24 e24
  refine HL.nil ?_
  refine HW.no e24 ?_
  refine HW.skip ?_
  -- region 4
  repeat refine HW.seq ?_
  refine HW.region ?_
  refine HL.still (Runs.assign rfl) ?_
  intro u6 e6
  refine HL.nil ?_
  -- region 5
  repeat refine HW.seq ?_
  refine HW.region ?_
  refine HL.still (Runs.assign rfl) ?_
  intro u7 e7
  refine HL.nil ?_
  have hL1 := hL.ext X1
  have hP1 := hP.ext X1
  clear e4 e5 e24
  refine HW.mono (N := fun f v => f 0 = .slice a L.length cap ∧ f 1 = I64 k ∧ f 5 = .bool true ∧ (∃ ka kc, f 6 = .slice ka (keysN L.length).length kc ∧ Rs gS v h1.size 9 ka kc (keysN L.length)) ∧ Ext h1 v ∧ ∀ x ∈ L, fewJ x.2.2 = true ∧ rightO x.2.2 = true) ?_ ?_ (fun _ _ _ q => q) (fun _ _ q => q)
  · refine HW.block ?_
    refine HW.loop (fun m f u => ∃ (i : Nat) (ka : Option Addr) (kc : Nat), i ≤ L.length ∧ m = L.length - i ∧ f 7 = I64 i ∧ f 0 = .slice a L.length cap ∧ f 1 = I64 k ∧ f 5 = .bool true ∧ f 6 = .slice ka (keysN i).length kc ∧ Rs gS u h1.size 9 ka kc (keysN i) ∧ Ext h1 u ∧ ∀ r x, r < i → L[r]? = some x → fewJ x.2.2 = true ∧ rightO x.2.2 = true) L.length
      ⟨0, none, 0, Nat.zero_le _, rfl, e7, p0, p1, g5, e6, Rs.start _ _ _, Bel.refl _ _, fun r x hr => by cases hr⟩ ?_
    clear e6 e7 p0 p1 g5
    rintro m f u ⟨i, ka, kc, hi, hm, f7, f0, f1, f5, f6, hRs, hX, hall⟩
    have hkl := keysN_len i
    by_cases hlt : i < L.length
    · obtain ⟨y, hy⟩ : ∃ y, L[i]? = some y := ⟨_, List.getElem?_eq_getElem hlt⟩
      have hym : y ∈ L := List.mem_iff_getElem?.2 ⟨i, hy⟩
      obtain ⟨hzc, hzy⟩ := hz y hym
      obtain ⟨sb, so, rfl, hcell, hyv, hyc⟩ := (hL1.ext hX).at hy
      -- region 6
      repeat refine HW.seq ?_
      refine HW.region ?_
      refine HL.still (Runs.move f7) ?_
      intro u26 e26
      refine HL.still (Runs.move f0) ?_
      intro u27 e27
      refine HL.still (Runs.lenSl rfl Tryd.underlying31 e27) ?_
      intro u28 e28
      refine HL.still (Runs.lss e26 e28 rfl) ?_
      intro u29 e29
      refine HL.nil ?_
      repeat refine HW.seq ?_
      refine HW.yes ?_ ?_
      exact e29.trans (congrArg Value.bool (decide_eq_true (by omega)))
      refine HW.skip ?_
      repeat refine HW.seq ?_
      refine HW.block ?_
      -- region 8
      repeat refine HW.seq ?_
      refine HW.region ?_
      refine HL.still (Runs.move f0) ?_
      intro u32 e32
      refine HL.still (Runs.move f7) ?_
      intro u33 e33
      refine HL.still (Runs.ixSl (o' := so + i) Tryd.underlying31 sz22 e32 e33 (by omega) (by omega) (by omega)) ?_
      intro u34 e34
      refine HL.still (Runs.load Tryd.underlying22 rfl e34 hcell) ?_
      intro u35 e35
      refine HL.one (HO.call Tryd.func8 bd8 nm8 (args1 e35) rfl ((fewC_ch u y.2.2 y.1 y.2.1 hyv (Nat.le_trans hyc hzc) hzy).mono ?_))
      rintro _ h2 ⟨rfl, rfl⟩
      intro u36 e36
      refine HL.still (Runs.assign e36) ?_
      intro u8 e8
      refine HL.nil ?_
      have g8 : u8 = .bool (fewJ y.2.2) := e8
      cases hfw : fewJ y.2.2 with
      | false =>
        rw [hfw] at g8
        -- region 9
        repeat refine HW.seq ?_
        refine HW.region ?_
        refine HL.still (Runs.move g8) ?_
        intro u37 e37
        refine HL.still (Runs.notb e37 (u := true) rfl) ?_
        intro u38 e38
        refine HL.still (Runs.move e38) ?_
        intro u39 e39
        refine HL.skipG rfl rfl e39 ?_
        intro u40 e40
        refine HL.skipG rfl rfl e39 ?_
        intro u41 e41
        refine HL.skipG rfl rfl e39 ?_
        intro u42 e42
        refine HL.skipG rfl rfl e39 ?_
        intro u43 e43
        refine HL.skipG rfl rfl e39 ?_
        intro u44 e44
        refine HL.skipG rfl rfl e39 ?_
        intro u45 e45
        refine HL.still (Runs.pick e39 rfl) ?_
        intro u46 e46
        refine HL.nil ?_
        refine HW.yes e46 ?_
        -- region 10
        repeat refine HW.seq ?_
        refine HW.region ?_
        refine HL.still (Runs.move f5) ?_
        intro u47 e47
        refine HL.still (Runs.assign e47) ?_
        intro u4 e4
        refine HL.nil ?_
        refine HW.ret ?_
        exact RT.one rfl e4 ⟨rfl, X1.tr hX⟩
      | true =>
        rw [hfw] at g8
        have hl80 := (fewJ_of hfw).1
        have hR := right_ch u y.2.2 y.1 y.2.2.length y.2.1 rfl hyv (hP1.ext hX) (by omega) hzy.ok
        cases hrt : rightO y.2.2 with
        | false =>
          rw [hrt] at hR
          -- region 9
          repeat refine HW.seq ?_
          refine HW.region ?_
          refine HL.still (Runs.move g8) ?_
          intro u37 e37
          refine HL.still (Runs.notb e37 (u := false) rfl) ?_
          intro u38 e38
          refine HL.still (Runs.move e38) ?_
          intro u39 e39
          refine HL.stillG rfl rfl e39 (Runs.move f0) ?_
          intro u40 e40
          refine HL.stillG rfl rfl e39 (Runs.move f7) ?_
          intro u41 e41
          refine HL.stillG rfl rfl e39 (Runs.ixSl (o' := so + i) Tryd.underlying31 sz22 e40 e41 (by omega) (by omega) (by omega)) ?_
          intro u42 e42
          refine HL.stillG rfl rfl e39 (Runs.load Tryd.underlying22 rfl e42 hcell) ?_
          intro u43 e43
          refine HL.oneG rfl rfl e39 (HO.call Tryd.func11 bd11 nm11 (args1 e43) rfl ((hR).mono ?_))
          rintro _ h2 ⟨rfl, X2⟩
          intro u44 e44
          refine HL.stillG rfl rfl e39 (Runs.notb e44 (u := true) rfl) ?_
          intro u45 e45
          refine HL.still (Runs.pick e39 e45) ?_
          intro u46 e46
          refine HL.nil ?_
          refine HW.yes e46 ?_
          -- region 10
          repeat refine HW.seq ?_
          refine HW.region ?_
          refine HL.still (Runs.move f5) ?_
          intro u47 e47
          refine HL.still (Runs.assign e47) ?_
          intro u4 e4
          refine HL.nil ?_
          refine HW.ret ?_
          exact RT.one rfl e4 ⟨rfl, (X1.tr hX).tr X2⟩
        | true =>
          rw [hrt] at hR
          -- region 9
          repeat refine HW.seq ?_
          refine HW.region ?_
          refine HL.still (Runs.move g8) ?_
          intro u37 e37
          refine HL.still (Runs.notb e37 (u := false) rfl) ?_
          intro u38 e38
          refine HL.still (Runs.move e38) ?_
          intro u39 e39
          refine HL.stillG rfl rfl e39 (Runs.move f0) ?_
          intro u40 e40
          refine HL.stillG rfl rfl e39 (Runs.move f7) ?_
          intro u41 e41
          refine HL.stillG rfl rfl e39 (Runs.ixSl (o' := so + i) Tryd.underlying31 sz22 e40 e41 (by omega) (by omega) (by omega)) ?_
          intro u42 e42
          refine HL.stillG rfl rfl e39 (Runs.load Tryd.underlying22 rfl e42 hcell) ?_
          intro u43 e43
          refine HL.oneG rfl rfl e39 (HO.call Tryd.func11 bd11 nm11 (args1 e43) rfl ((hR).mono ?_))
          rintro _ h2 ⟨rfl, X2⟩
          intro u44 e44
          refine HL.stillG rfl rfl e39 (Runs.notb e44 (u := false) rfl) ?_
          intro u45 e45
          refine HL.still (Runs.pick e39 e45) ?_
          intro u46 e46
          refine HL.nil ?_
          refine HW.no e46 ?_
          refine HW.skip ?_
          have hX2 := hX.tr X2
          have hs2 := hX2.size
          have hdl := dec_len (m := i) (by omega)
          -- region 11
          repeat refine HW.seq ?_
          refine HW.region ?_
          refine HL.still (Runs.move f6) ?_
          intro u48 e48
          refine HL.still (Runs.move f7) ?_
          intro u49 e49
          refine HL.one (HO.call Tryd.func15 bd15 nm15 (args1 e49) rfl ((textN_ch i h2 (by omega)).mono ?_))
          rintro _ h3 ⟨rfl, rfl⟩
          intro u50 e50
          refine HL.still (Runs.addS rfl e50 (xs := [107]) (by simp only [List.length_cons, List.length_nil]; omega)) ?_
          intro u51 e51
          refine HL.one (HO.str1 _ e51 ?_)
          intro h5 w5
          intro u52 e52
          refine HL.one (HO.rapp1 Tryd.underlying32 in9 rfl one9 e48 e52 rfl rfl ((hRs.ext X2).ext w5.ext) (row_block (z0 := []) w5.new) (by simp; omega) (by simp; unfold maxLen; omega) (by rw [w5.size]; omega) ?_)
          intro a6 c6 h6 R6 G6
          intro u53 e53
          refine HL.still (Runs.assign e53) ?_
          intro u6 e6
          refine HL.nil ?_
          have X6 : Ext h1 h6 := G6.belR (hX2.ext w5.ext (Nat.le_refl _)) ((hRs.ext X2).ext w5.ext) (Nat.le_refl _) (Nat.le_refl _)
          have g6 := e6
          -- region 7
          repeat refine HW.seq ?_
          refine HW.region ?_
          refine HL.still (Runs.move f7) ?_
          intro u30 e30
          refine HL.still (Runs.add e30 rfl (i64w (by omega))) ?_
          intro u31 e31
          refine HL.still (Runs.assign e31) ?_
          intro u7 e7
          refine HL.nil ?_
          exact ⟨L.length - (i + 1), by omega, i + 1, a6, c6, by omega, rfl, e7, f0, f1, f5, by rw [keysN_succ]; exact g6, by rw [keysN_succ]; exact R6, X6, fun r x hr hx => by
            by_cases hri : r < i
            · exact hall r x hri hx
            · obtain rfl : r = i := by omega
              rw [hy] at hx
              obtain rfl := Option.some.inj hx
              exact ⟨hfw, hrt⟩⟩
    · have hil : i = L.length := by omega
      subst hil
      -- region 6
      repeat refine HW.seq ?_
      refine HW.region ?_
      refine HL.still (Runs.move f7) ?_
      intro u26 e26
      refine HL.still (Runs.move f0) ?_
      intro u27 e27
      refine HL.still (Runs.lenSl rfl Tryd.underlying31 e27) ?_
      intro u28 e28
      refine HL.still (Runs.lss e26 e28 rfl) ?_
      intro u29 e29
      refine HL.nil ?_
      repeat refine HW.seq ?_
      refine HW.no ?_ ?_
      exact e29.trans (congrArg Value.bool (decide_eq_false (by omega)))
      refine HW.exitHere ?_
      exact ⟨f0, f1, f5, ⟨ka, kc, f6, hRs⟩, hX, fun x hx => by
        obtain ⟨r, hr⟩ := List.mem_iff_getElem?.1 hx
        exact hall r x (List.getElem?_eq_some_iff.1 hr).1 hr⟩
  clear e6 e7 p0 p1 g5
  rintro f v ⟨p0, p1, g5, ⟨ka, kc, g6, hK⟩, X2, hall⟩
  obtain ⟨n, rfl⟩ : ∃ n : Nat, k = n := ⟨k.toNat, by omega⟩
  have hn : n < L.length := by omega
  have hO : ∀ x ∈ L, OkJ x.2.2 := fun x hx => (hz x hx).2.ok
  have hlen := lenLs_le fun x hx => (fewJ_of (hall x hx).1).1
  have hkl := keysN_len L.length
  have hks := keysN_short (n := L.length) (by omega)
  have hLv := hL1.ext X2
  have hPv := hP1.ext X2
  have hrs : ∀ l ∈ L.map (·.2.2), rightO l = true := fun l hl => by
    obtain ⟨x, hx, rfl⟩ := List.mem_map.1 hl
    exact (hall x hx).2
  have hlaw := items_law hrs (by rw [hkl, List.length_map]) (keysN_nodup (by omega)) (keysN_valid (by omega))
  -- region 12
  repeat refine HW.seq ?_
  refine HW.region ?_
  refine HL.still (Runs.move p0) ?_
  intro u54 e54
  refine HL.one (HO.call Tryd.func16 bd16 nm16 (args1 e54) rfl ((list_ch v L a L.length cap rfl hLv hPv (by omega) (by omega) hO).mono ?_))
  rintro _ h3 ⟨la, lc, rfl, J3, X3⟩
  intro u55 e55
  refine HL.still (Runs.assign e55) ?_
  intro u9 e9
  refine HL.nil ?_
  have g9 := e9
  -- region 13
  repeat refine HW.seq ?_
  refine HW.region ?_
  refine HL.still (Runs.move g6) ?_
  intro u56 e56
  refine HL.still (Runs.move p0) ?_
  intro u57 e57
  refine HL.one (HO.call Tryd.func17 bd17 nm17 (args2 e56 e57) rfl ((obj_ch h3 (keysN L.length) L ka a _ kc _ cap rfl rfl (hK.byt.ext X3) (hLv.ext X3) (hPv.ext X3) (by omega) (by omega) (by omega) hO hks).mono ?_))
  rintro _ h4 ⟨oa, oc, rfl, J4, X4⟩
  intro u58 e58
  refine HL.still (Runs.assign e58) ?_
  intro u10 e10
  refine HL.nil ?_
  have g10 := e10
  have X34 := X3.tr X4
  have X04 : Ext h h4 := (X1.tr X2).tr X34
  have hK4 := hK.byt (z0 := []) |>.ext X34
  have hL4 := hLv.ext X34
  have hP4 := hPv.ext X34
  have Jl := J3.ext X4
  have hOs : ∀ l ∈ L.map (·.2.2), OkJ l := fun l hl => by
    obtain ⟨x, hx, rfl⟩ := List.mem_map.1 hl
    exact hO x hx
  have hml : (L.map (·.2.2)).length = L.length := List.length_map _
  have hk0 : (keysN L.length).length = (L.map (·.2.2)).length := by rw [hkl, hml]
  have hl4 : (listO (L.map (·.2.2))).length ≤ 2000 := Nat.le_trans (made_le 5 [] _) (by omega)
  have ho4 : (objectO (keysN L.length) (L.map (·.2.2))).length ≤ 2000 := by rw [obj_made hk0]; exact Nat.le_trans (made_le 6 _ _) (by omega)
  have hOl : OkJ (listO (L.map (·.2.2))) := made_ok (by omega) hOs fun s hs => by cases hs
  have hOo : OkJ (objectO (keysN L.length) (L.map (·.2.2))) := by rw [obj_made hk0]; exact made_ok (by omega) hOs hks
  obtain ⟨y, hy⟩ : ∃ y, L[n]? = some y := ⟨_, List.getElem?_eq_getElem hn⟩
  have hyn : ∀ q : n < (L.map (·.2.2)).length, (L.map (·.2.2))[n] = y.2.2 := fun q => by
    rw [List.getElem?_eq_getElem hn] at hy
    rw [List.getElem_map, Option.some.inj hy]
  have hlc := J3.2
  have hoc := J4.2
  have hs34 := X3.size
  clear hlen hks hOs hO hrs hk0 e9 e10
  obtain ⟨key, hkey⟩ : ∃ key, (keysN L.length).getD n [] = key := ⟨_, rfl⟩
  obtain ⟨ks, ko, rfl, hkc⟩ := hK4.at (show n < (keysN L.length).length by omega)
  rw [hkey] at hkc
  generalize hlE : listO (L.map (·.2.2)) = l at *
  generalize hoE : objectO (keysN L.length) (L.map (·.2.2)) = o at *
  rcases hlaw with ⟨q1, q2⟩ | ⟨q1, q2, q3, q4, q5⟩
  · have hl0 : l.length = 0 := by rw [q1]; rfl
    have ho0 : o.length = 0 := by rw [q2]; rfl
    -- region 14
    repeat refine HW.seq ?_
    refine HW.region ?_
    refine HL.still (Runs.move g9) ?_
    intro u59 e59
    refine HL.still (Runs.lenSl rfl Tryd.underlying22 e59) ?_
    intro u60 e60
    refine HL.still (Runs.eql e60 rfl (t := true) (decide_eq_true (by omega))) ?_
    intro u61 e61
    refine HL.nil ?_
    refine HW.yes e61 ?_
    -- region 15
    repeat refine HW.seq ?_
    refine HW.region ?_
    refine HL.still (Runs.move g5) ?_
    intro u62 e62
    refine HL.still (Runs.move e62) ?_
    intro u63 e63
    refine HL.stillG rfl rfl e63 (Runs.move g10) ?_
    intro u64 e64
    refine HL.stillG rfl rfl e63 (Runs.lenSl rfl Tryd.underlying22 e64) ?_
    intro u65 e65
    refine HL.stillG rfl rfl e63 (Runs.eql e65 rfl (t := true) (decide_eq_true (by omega))) ?_
    intro u66 e66
    refine HL.still (Runs.pick e63 e66) ?_
    intro u67 e67
    refine HL.still (Runs.assign e67) ?_
    intro u4 e4
    refine HL.nil ?_
    refine HW.ret ?_
    exact RT.one rfl e4 ⟨rfl, X04⟩
  have hlp : 0 < l.length := List.length_pos_iff.2 (right_ne q1)
  rw [hml] at q3 q4
  obtain ⟨q6, q7, q8⟩ := q5 n (by omega)
  rw [hyn, hkey] at q7
  rw [hyn] at q6
  rw [hkey] at q8
  obtain ⟨rs, ro, rfl, hcell, hyv, hyc⟩ := hL4.at hy
  obtain ⟨ls, lo, rfl, hcl⟩ := Jl.jvs.at hlp
  rw [q3] at hcl
  have hy80 := (fewJ_of (hall y (List.mem_iff_getElem?.2 ⟨n, hy⟩)).1).1
  have kcl : ∀ u, Ext h4 u → ∀ i v, (encJ (5, [], [], (L.length : Int)))[i]? = some v → cellH u ls (lo + 0 * 4 + i) = some v := fun u X i v q => (cellH_keep (X.old ls (lt_of_cellH (hcl i v q)))).trans (hcl i v q)
  have krow : ∀ u, Ext h4 u → cellH u rs (ro + n) = some (.slice y.1 y.2.2.length y.2.1) := fun u X => (cellH_keep (X.old rs (lt_of_cellH hcell))).trans hcell
  have kkey : ∀ u, Ext h4 u → cellH u ks (ko + n) = some (gS key) := fun u X => (cellH_keep (X.old ks (lt_of_cellH hkc))).trans hkc
  have cR1 : ∀ u, Ext h4 u → CH Tryd.prog 11 #[.slice (some ⟨ls, lo, none⟩) l.length lc] u fun v h' => v = .bool true ∧ Ext u h' := fun u X => by
    have := right_ch u l _ l.length lc rfl (Jl.jvs.ext X) (hP4.ext X) (by omega) hOl
    rwa [q1] at this
  have cR2 : ∀ u, Ext h4 u → CH Tryd.prog 11 #[.slice oa o.length oc] u fun v h' => v = .bool true ∧ Ext u h' := fun u X => by
    have := right_ch u o oa o.length oc rfl (J4.jvs.ext X) (hP4.ext X) (by omega) hOo
    rwa [q2] at this
  have cI1 : ∀ u (j : Int), Ext h4 u → CH Tryd.prog 18 #[.slice (some ⟨ls, lo, none⟩) l.length lc, I64 0, I64 j] u fun v h' => v = I64 (itemO l 0 j) ∧ Ext u h' := fun u j X => item_ch u l _ l.length lc 0 j rfl (Jl.jvs.ext X) (hP4.ext X) (by omega) hOl
  have cI2 : ∀ u (j : Int), Ext h4 u → CH Tryd.prog 18 #[.slice oa o.length oc, I64 0, I64 j] u fun v h' => v = I64 (itemO o 0 j) ∧ Ext u h' := fun u j X => item_ch u o _ o.length oc 0 j rfl (J4.jvs.ext X) (hP4.ext X) (by omega) hOo
  have cC1 : ∀ u (j : Int), Ext h4 u → CH Tryd.prog 13 #[.slice (some ⟨ls, lo, none⟩) l.length lc, I64 j] u fun v h' => ∃ a' c', v = .slice a' (cutO l j).length c' ∧ Js h' u.size a' c' (cutO l j) ∧ Ext u h' := fun u j X => cut_ch u l _ l.length lc j rfl hlc (Jl.jvs.ext X) (hP4.ext X) (by omega) hOl
  have cC2 : ∀ u (j : Int), Ext h4 u → CH Tryd.prog 13 #[.slice oa o.length oc, I64 j] u fun v h' => ∃ a' c', v = .slice a' (cutO o j).length c' ∧ Js h' u.size a' c' (cutO o j) ∧ Ext u h' := fun u j X => cut_ch u o _ o.length oc j rfl hoc (J4.jvs.ext X) (hP4.ext X) (by omega) hOo
  have cG2 : ∀ u, Ext h4 u → CH Tryd.prog 14 #[.slice oa o.length oc, I64 0, .string (strOf key)] u fun v h' => v = I64 (getO o 0 key) ∧ Ext u h' := fun u X => get_ch u o _ o.length oc 0 key rfl (J4.jvs.ext X) (hP4.ext X) (by omega) hOo
  have cS : ∀ u (A : List JV) (b : Option Addr) (c : Nat), Ext h4 u → Jvs u b A → A = y.2.2 → CH Tryd.prog 12 #[.slice b A.length c, .slice y.1 y.2.2.length y.2.1] u fun v h' => v = .bool true ∧ Ext u h' := fun u A b c X J q => (sameC_ch u A y.2.2 b y.1 c y.2.1 J (hyv.ext X) (by rw [q]; omega) (by omega) q).mono fun v h' ⟨q1, q2⟩ => ⟨q1, q2 ▸ Bel.refl _ _⟩
  clear hcl hcell hkc hlE hoE hcap hz hP hl hge hneg hL hL1 hP1 hLv hPv hK hK4 hL4 hP4 hall hOl hOo q1 q2 q3 q5 hyn J3 X34 X3 X4
  -- region 14
  repeat refine HW.seq ?_
  refine HW.region ?_
  refine HL.still (Runs.move g9) ?_
  intro u59 e59
  refine HL.still (Runs.lenSl rfl Tryd.underlying22 e59) ?_
  intro u60 e60
  refine HL.still (Runs.eql e60 rfl (t := false) (decide_eq_false (by omega))) ?_
  intro u61 e61
  refine HL.nil ?_
  refine HW.no e61 ?_
  refine HW.skip ?_
  -- region 16
  repeat refine HW.seq ?_
  refine HW.grow #[0, 1, 3, 7, 15, 31, 63, 127, 255, 511, 1023, 2047, 4095, 8191, 1023, 17407, 65535, 131071, 262143, 524287, 524287, 524287, 3670015, 8388607, 524287, 524287, 50855935, 117964799, 268435455, 536870911, 1073741823, 2147483647, 2147483647, 2147483647, 2147483647, 27917287423, 62277025791, 135291469823, 274877906943, 2147483647, 2147483647, 1651414925311, 3850438180863, 8796093022207, 17592186044415, 35184372088831, 70368744177663, 70368744177663, 281474976710655, 70368744177663, 70368744177663, 70368744177663, 3448068464705535, 7951668092076031, 18014398509481983, 36028797018963967, 72057594037927935, 144115188075855871, 288230376151711743, 288230376151711743, 864691128455135231, 2305843009213693951, 4611686018427387903, 9223372036854775807, 18446744073709551615] (fun a b => Ext a b) mixed (by kernel_rfl) (fun _ => Bel.refl _ _) (fun _ _ _ x y => Bel.ext x y (Nat.le_refl _)) ?_
  refine HM.still (fun _ => Bel.refl _ _) (fun f h K => Runs.move ((K.keep (by kernel_rfl)).trans g5)) ?_
  refine HM.still (fun _ => Bel.refl _ _) (fun f h K => Runs.move (K.at 0 68 rfl rfl)) ?_
  refine HM.stillG (fun _ => Bel.refl _ _) rfl rfl rfl (fun f h K => K.at 1 69 rfl rfl) (fun f h K => Runs.move ((K.keep (by kernel_rfl)).trans g9)) ?_
  refine HM.oneG (fun x _ => x = _) (fun _ _ _ _ e => e) rfl rfl rfl (fun f h K => K.at 1 69 rfl rfl) (fun f h K => HO.call Tryd.func11 bd11 nm11 (args1 (K.at 2 70 rfl rfl)) rfl ((cR1 h K.grown).mono fun _ _ q => ⟨q.2, q.1⟩)) ?_
  refine HM.still (fun _ => Bel.refl _ _) (fun f h K => Runs.pick (K.at 1 69 rfl rfl) (K.at 3 71 rfl rfl)) ?_
  refine HM.still (fun _ => Bel.refl _ _) (fun f h K => Runs.move (K.at 4 72 rfl rfl)) ?_
  refine HM.stillG (fun _ => Bel.refl _ _) rfl rfl rfl (fun f h K => K.at 5 73 rfl rfl) (fun f h K => Runs.move ((K.keep (by kernel_rfl)).trans g10)) ?_
  refine HM.oneG (fun x _ => x = _) (fun _ _ _ _ e => e) rfl rfl rfl (fun f h K => K.at 5 73 rfl rfl) (fun f h K => HO.call Tryd.func11 bd11 nm11 (args1 (K.at 6 74 rfl rfl)) rfl ((cR2 h K.grown).mono fun _ _ q => ⟨q.2, q.1⟩)) ?_
  refine HM.still (fun _ => Bel.refl _ _) (fun f h K => Runs.pick (K.at 5 73 rfl rfl) (K.at 7 75 rfl rfl)) ?_
  refine HM.still (fun _ => Bel.refl _ _) (fun f h K => Runs.move (K.at 8 76 rfl rfl)) ?_
  refine HM.stillG (fun _ => Bel.refl _ _) rfl rfl rfl (fun f h K => K.at 9 77 rfl rfl) (fun f h K => Runs.move ((K.keep (by kernel_rfl)).trans g9)) ?_
  refine HM.stillG (fun _ => Bel.refl _ _) rfl rfl rfl (fun f h K => K.at 9 77 rfl rfl) (fun f h K => Runs.ixSl (o' := lo + 0 * 4) Tryd.underlying22 sz37 (K.at 10 78 rfl rfl) rfl (by omega) (by omega) (by omega)) ?_
  refine HM.stillG (fun _ => Bel.refl _ _) rfl rfl rfl (fun f h K => K.at 9 77 rfl rfl) (fun f h K => Runs.fld (o' := lo + 0 * 4 + 3) Tryd.underlying37 rfl sz3 (by decide) (K.at 11 79 rfl rfl) (by first | rfl | omega)) ?_
  refine HM.stillG (fun _ => Bel.refl _ _) rfl rfl rfl (fun f h K => K.at 9 77 rfl rfl) (fun f h K => Runs.load Tryd.underlying3 rfl (K.at 12 80 rfl rfl) (kcl h K.grown 3 _ rfl)) ?_
  refine HM.stillG (fun _ => Bel.refl _ _) rfl rfl rfl (fun f h K => K.at 9 77 rfl rfl) (fun f h K => Runs.move ((K.keep (by kernel_rfl)).trans p0)) ?_
  refine HM.stillG (fun _ => Bel.refl _ _) rfl rfl rfl (fun f h K => K.at 9 77 rfl rfl) (fun f h K => Runs.lenSl rfl Tryd.underlying31 (K.at 14 82 rfl rfl)) ?_
  refine HM.stillG (fun _ => Bel.refl _ _) rfl rfl rfl (fun f h K => K.at 9 77 rfl rfl) (fun f h K => Runs.eql (K.at 13 81 rfl rfl) (K.at 15 83 rfl rfl) (t := true) (decide_eq_true rfl)) ?_
  refine HM.still (fun _ => Bel.refl _ _) (fun f h K => Runs.pick (K.at 9 77 rfl rfl) (K.at 16 84 rfl rfl)) ?_
  refine HM.still (fun _ => Bel.refl _ _) (fun f h K => Runs.move (K.at 17 85 rfl rfl)) ?_
  refine HM.stillG (fun _ => Bel.refl _ _) rfl rfl rfl (fun f h K => K.at 18 86 rfl rfl) (fun f h K => Runs.move ((K.keep (by kernel_rfl)).trans g9)) ?_
  refine HM.stillG (fun _ => Bel.refl _ _) rfl rfl rfl (fun f h K => K.at 18 86 rfl rfl) (fun f h K => Runs.move ((K.keep (by kernel_rfl)).trans g9)) ?_
  refine HM.stillG (fun _ => Bel.refl _ _) rfl rfl rfl (fun f h K => K.at 18 86 rfl rfl) (fun f h K => Runs.move ((K.keep (by kernel_rfl)).trans p1)) ?_
  refine HM.oneG (fun x _ => x = _) (fun _ _ _ _ e => e) rfl rfl rfl (fun f h K => K.at 18 86 rfl rfl) (fun f h K => HO.call Tryd.func18 bd18 nm18 (args3 (K.at 20 88 rfl rfl) rfl (K.at 21 89 rfl rfl)) rfl ((cI1 h n K.grown).mono fun _ _ q => ⟨q.2, q.1⟩)) ?_
  refine HM.oneG (fun v hh => ∃ a c, v = .slice a (cutO l (itemO l 0 (n : Nat))).length c ∧ Jvs hh a (cutO l (itemO l 0 (n : Nat)))) (fun v u u' X ⟨a, c, q1, q2⟩ => ⟨a, c, q1, q2.ext X⟩) rfl rfl rfl (fun f h K => K.at 18 86 rfl rfl) (fun f h K => HO.call Tryd.func13 bd13 nm13 (args2 (K.at 19 87 rfl rfl) (K.at 22 90 rfl rfl)) rfl ((cC1 h _ K.grown).mono fun v h' ⟨a, c, q1, q2, q3⟩ => ⟨q3, a, c, q1, q2.jvs⟩)) ?_
  refine HM.stillG (fun _ => Bel.refl _ _) rfl rfl rfl (fun f h K => K.at 18 86 rfl rfl) (fun f h K => Runs.move ((K.keep (by kernel_rfl)).trans p0)) ?_
  refine HM.stillG (fun _ => Bel.refl _ _) rfl rfl rfl (fun f h K => K.at 18 86 rfl rfl) (fun f h K => Runs.move ((K.keep (by kernel_rfl)).trans p1)) ?_
  refine HM.stillG (fun _ => Bel.refl _ _) rfl rfl rfl (fun f h K => K.at 18 86 rfl rfl) (fun f h K => Runs.ixSl (o' := ro + n) Tryd.underlying31 sz22 (K.at 24 92 rfl rfl) (K.at 25 93 rfl rfl) (by omega) (by omega) (by omega)) ?_
  refine HM.stillG (fun _ => Bel.refl _ _) rfl rfl rfl (fun f h K => K.at 18 86 rfl rfl) (fun f h K => Runs.load Tryd.underlying22 rfl (K.at 26 94 rfl rfl) (krow h K.grown)) ?_
  refine HM.oneG (fun x _ => x = .bool true) (fun _ _ _ _ e => e) rfl rfl rfl (fun f h K => K.at 18 86 rfl rfl) (fun f h K => by obtain ⟨a, c, q1, q2⟩ := (K.at 23 91 rfl rfl); exact HO.call Tryd.func12 bd12 nm12 (args2 q1 (K.at 27 95 rfl rfl)) rfl ((cS h _ a c K.grown q2 q6).mono fun _ _ q => ⟨q.2, q.1⟩)) ?_
  refine HM.still (fun _ => Bel.refl _ _) (fun f h K => Runs.pick (K.at 18 86 rfl rfl) (K.at 28 96 rfl rfl)) ?_
  refine HM.still (fun _ => Bel.refl _ _) (fun f h K => Runs.move (K.at 29 97 rfl rfl)) ?_
  refine HM.stillG (fun _ => Bel.refl _ _) rfl rfl rfl (fun f h K => K.at 30 98 rfl rfl) (fun f h K => Runs.move ((K.keep (by kernel_rfl)).trans g10)) ?_
  refine HM.stillG (fun _ => Bel.refl _ _) rfl rfl rfl (fun f h K => K.at 30 98 rfl rfl) (fun f h K => Runs.move ((K.keep (by kernel_rfl)).trans g10)) ?_
  refine HM.stillG (fun _ => Bel.refl _ _) rfl rfl rfl (fun f h K => K.at 30 98 rfl rfl) (fun f h K => Runs.move ((K.keep (by kernel_rfl)).trans g6)) ?_
  refine HM.stillG (fun _ => Bel.refl _ _) rfl rfl rfl (fun f h K => K.at 30 98 rfl rfl) (fun f h K => Runs.move ((K.keep (by kernel_rfl)).trans p1)) ?_
  refine HM.stillG (fun _ => Bel.refl _ _) rfl rfl rfl (fun f h K => K.at 30 98 rfl rfl) (fun f h K => Runs.ixSl (o' := ko + n) Tryd.underlying32 sz9 (K.at 33 101 rfl rfl) (K.at 34 102 rfl rfl) (by omega) (by omega) (by omega)) ?_
  refine HM.stillG (fun _ => Bel.refl _ _) rfl rfl rfl (fun f h K => K.at 30 98 rfl rfl) (fun f h K => Runs.load Tryd.underlying9 rfl (K.at 35 103 rfl rfl) (kkey h K.grown)) ?_
  refine HM.oneG (fun x _ => x = _) (fun _ _ _ _ e => e) rfl rfl rfl (fun f h K => K.at 30 98 rfl rfl) (fun f h K => HO.call Tryd.func14 bd14 nm14 (args3 (K.at 32 100 rfl rfl) rfl (K.at 36 104 rfl rfl)) rfl ((cG2 h K.grown).mono fun _ _ q => ⟨q.2, q.1⟩)) ?_
  refine HM.oneG (fun v hh => ∃ a c, v = .slice a (cutO o (getO o 0 key)).length c ∧ Jvs hh a (cutO o (getO o 0 key))) (fun v u u' X ⟨a, c, q1, q2⟩ => ⟨a, c, q1, q2.ext X⟩) rfl rfl rfl (fun f h K => K.at 30 98 rfl rfl) (fun f h K => HO.call Tryd.func13 bd13 nm13 (args2 (K.at 31 99 rfl rfl) (K.at 37 105 rfl rfl)) rfl ((cC2 h _ K.grown).mono fun v h' ⟨a, c, q1, q2, q3⟩ => ⟨q3, a, c, q1, q2.jvs⟩)) ?_
  refine HM.stillG (fun _ => Bel.refl _ _) rfl rfl rfl (fun f h K => K.at 30 98 rfl rfl) (fun f h K => Runs.move ((K.keep (by kernel_rfl)).trans p0)) ?_
  refine HM.stillG (fun _ => Bel.refl _ _) rfl rfl rfl (fun f h K => K.at 30 98 rfl rfl) (fun f h K => Runs.move ((K.keep (by kernel_rfl)).trans p1)) ?_
  refine HM.stillG (fun _ => Bel.refl _ _) rfl rfl rfl (fun f h K => K.at 30 98 rfl rfl) (fun f h K => Runs.ixSl (o' := ro + n) Tryd.underlying31 sz22 (K.at 39 107 rfl rfl) (K.at 40 108 rfl rfl) (by omega) (by omega) (by omega)) ?_
  refine HM.stillG (fun _ => Bel.refl _ _) rfl rfl rfl (fun f h K => K.at 30 98 rfl rfl) (fun f h K => Runs.load Tryd.underlying22 rfl (K.at 41 109 rfl rfl) (krow h K.grown)) ?_
  refine HM.oneG (fun x _ => x = .bool true) (fun _ _ _ _ e => e) rfl rfl rfl (fun f h K => K.at 30 98 rfl rfl) (fun f h K => by obtain ⟨a, c, q1, q2⟩ := (K.at 38 106 rfl rfl); exact HO.call Tryd.func12 bd12 nm12 (args2 q1 (K.at 42 110 rfl rfl)) rfl ((cS h _ a c K.grown q2 q7).mono fun _ _ q => ⟨q.2, q.1⟩)) ?_
  refine HM.still (fun _ => Bel.refl _ _) (fun f h K => Runs.pick (K.at 30 98 rfl rfl) (K.at 43 111 rfl rfl)) ?_
  refine HM.still (fun _ => Bel.refl _ _) (fun f h K => Runs.move (K.at 44 112 rfl rfl)) ?_
  refine HM.stillG (fun _ => Bel.refl _ _) rfl rfl rfl (fun f h K => K.at 45 113 rfl rfl) (fun f h K => Runs.move ((K.keep (by kernel_rfl)).trans g10)) ?_
  refine HM.stillG (fun _ => Bel.refl _ _) rfl rfl rfl (fun f h K => K.at 45 113 rfl rfl) (fun f h K => Runs.move ((K.keep (by kernel_rfl)).trans p1)) ?_
  refine HM.oneG (fun x _ => x = _) (fun _ _ _ _ e => e) rfl rfl rfl (fun f h K => K.at 45 113 rfl rfl) (fun f h K => HO.call Tryd.func18 bd18 nm18 (args3 (K.at 46 114 rfl rfl) rfl (K.at 47 115 rfl rfl)) rfl ((cI2 h n K.grown).mono fun _ _ q => ⟨q.2, q.1⟩)) ?_
  refine HM.stillG (fun _ => Bel.refl _ _) rfl rfl rfl (fun f h K => K.at 45 113 rfl rfl) (fun f h K => Runs.move ((K.keep (by kernel_rfl)).trans g10)) ?_
  refine HM.stillG (fun _ => Bel.refl _ _) rfl rfl rfl (fun f h K => K.at 45 113 rfl rfl) (fun f h K => Runs.move ((K.keep (by kernel_rfl)).trans g6)) ?_
  refine HM.stillG (fun _ => Bel.refl _ _) rfl rfl rfl (fun f h K => K.at 45 113 rfl rfl) (fun f h K => Runs.move ((K.keep (by kernel_rfl)).trans p1)) ?_
  refine HM.stillG (fun _ => Bel.refl _ _) rfl rfl rfl (fun f h K => K.at 45 113 rfl rfl) (fun f h K => Runs.ixSl (o' := ko + n) Tryd.underlying32 sz9 (K.at 50 118 rfl rfl) (K.at 51 119 rfl rfl) (by omega) (by omega) (by omega)) ?_
  refine HM.stillG (fun _ => Bel.refl _ _) rfl rfl rfl (fun f h K => K.at 45 113 rfl rfl) (fun f h K => Runs.load Tryd.underlying9 rfl (K.at 52 120 rfl rfl) (kkey h K.grown)) ?_
  refine HM.oneG (fun x _ => x = _) (fun _ _ _ _ e => e) rfl rfl rfl (fun f h K => K.at 45 113 rfl rfl) (fun f h K => HO.call Tryd.func14 bd14 nm14 (args3 (K.at 49 117 rfl rfl) rfl (K.at 53 121 rfl rfl)) rfl ((cG2 h K.grown).mono fun _ _ q => ⟨q.2, q.1⟩)) ?_
  refine HM.stillG (fun _ => Bel.refl _ _) rfl rfl rfl (fun f h K => K.at 45 113 rfl rfl) (fun f h K => Runs.eql (K.at 48 116 rfl rfl) (K.at 54 122 rfl rfl) (t := true) (decide_eq_true q8)) ?_
  refine HM.still (fun _ => Bel.refl _ _) (fun f h K => Runs.pick (K.at 45 113 rfl rfl) (K.at 55 123 rfl rfl)) ?_
  refine HM.still (fun _ => Bel.refl _ _) (fun f h K => Runs.move (K.at 56 124 rfl rfl)) ?_
  refine HM.stillG (fun _ => Bel.refl _ _) rfl rfl rfl (fun f h K => K.at 57 125 rfl rfl) (fun f h K => Runs.move ((K.keep (by kernel_rfl)).trans g9)) ?_
  refine HM.stillG (fun _ => Bel.refl _ _) rfl rfl rfl (fun f h K => K.at 57 125 rfl rfl) (fun f h K => Runs.move ((K.keep (by kernel_rfl)).trans p0)) ?_
  refine HM.stillG (fun _ => Bel.refl _ _) rfl rfl rfl (fun f h K => K.at 57 125 rfl rfl) (fun f h K => Runs.lenSl rfl Tryd.underlying31 (K.at 59 127 rfl rfl)) ?_
  refine HM.oneG (fun x _ => x = _) (fun _ _ _ _ e => e) rfl rfl rfl (fun f h K => K.at 57 125 rfl rfl) (fun f h K => HO.call Tryd.func18 bd18 nm18 (args3 (K.at 58 126 rfl rfl) rfl (K.at 60 128 rfl rfl)) rfl ((cI1 h L.length K.grown).mono fun _ _ q => ⟨q.2, q.1⟩)) ?_
  refine HM.stillG (fun _ => Bel.refl _ _) rfl rfl rfl (fun f h K => K.at 57 125 rfl rfl) (fun f h K => Runs.eql (K.at 61 129 rfl rfl) rfl (t := true) (decide_eq_true q4)) ?_
  refine HM.still (fun _ => Bel.refl _ _) (fun f h K => Runs.pick (K.at 57 125 rfl rfl) (K.at 62 130 rfl rfl)) ?_
  refine HM.still (fun _ => Bel.refl _ _) (fun f h K => Runs.assign (K.at 63 131 rfl rfl)) ?_
  intro f' h5 hR V O
  have g4 : f' 4 = .bool true := last_at V 64 4 rfl
  refine HW.ret ?_
  exact RT.one rfl g4 ⟨rfl, X04.tr hR⟩
end Go.Proofs.YtjopikfkgjbcgaaDoor
