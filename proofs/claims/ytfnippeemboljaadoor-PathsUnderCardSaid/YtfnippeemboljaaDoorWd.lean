/- onionskinref15.Cut, join; paths.is, onionskinref15.Is; Clean, both. -/
import Derived.Test.YtfnippeemboljaaDoorWc
namespace Go.Proofs.YtfnippeemboljaaDoor
set_option linter.unnecessarySimpa false
set_option linter.unusedSimpArgs false
set_option linter.unusedVariables false
open Go.RowKit
theorem maxLen_eq : maxLen = 9223372036854775807 := rfl
theorem set_last {α : Type} (l : List α) (x : α) (h : l ≠ []) : l.set (l.length - 1) x = l.take (l.length - 1) ++ [x] := by
  have h0 := List.length_pos_iff.2 h
  have h1 := List.take_append_drop (l.length - 1 + 1) (l.set (l.length - 1) x)
  rw [List.drop_of_length_le (by rw [List.length_set]; omega), List.append_nil, List.take_succ_eq_append_getElem (by rw [List.length_set]; omega), List.take_set_of_le (Nat.le_refl _)] at h1
  rw [← h1]
  simp
theorem parts_le (s : Str) : (parts s).length ≤ s.length + 1 := by
  have : s.count 47 ≤ s.length := List.count_le_length
  rw [parts_len]
  omega
theorem mem_len (l : List Str) (p : Str) (h : p ∈ l) : p.length ≤ (joinS l).length := by
  induction l with
  | nil => cases h
  | cons q l ih =>
    cases l with
    | nil =>
      have : p = q := by simpa using h
      subst this
      rw [joinS_one]
      exact Nat.le_refl _
    | cons r l =>
      rw [joinS_cons, List.length_append, List.length_cons]
      rcases List.mem_cons.1 h with e | e
      · subst e; omega
      · have := ih e; omega
theorem last_len (s : Str) : (lastS (parts s)).length ≤ s.length := by
  have h1 := split_last (parts s) (parts_ne s)
  have h2 : lastS (parts s) ∈ parts s := by
    have : lastS (parts s) ∈ (parts s).take ((parts s).length - 1) ++ [lastS (parts s)] := by simp
    rw [← h1] at this
    exact this
  have := mem_len (parts s) _ h2
  rw [join_parts] at this
  exact this
set_option maxRecDepth 10000 in
theorem rcut_ch (h : Heap) (s : Str) (hs : s.length ≤ 10000) : CH Tryd.prog 26 #[S8 s] h fun v h' => ∃ a c, v = .slice a (parts s).length c ∧ Rs S8 h' h.size 9 a c (parts s) ∧ Ext h h' := by
  refine CH.of_body Tryd.func26 rfl rfl rfl ?_
  intro f hf
  have p0 : f 0 = S8 s := by rw [hf]; exact fr0_at rfl
  have hml := maxLen_eq
  -- region 0
  repeat refine HW.seq ?_
  refine HW.region ?_
  refine HL.still (Runs.assign rfl) ?_
  intro u2 e2
  refine HL.nil ?_
  -- region 1
  repeat refine HW.seq ?_
  refine HW.region ?_
  refine HL.one (HO.str1 [] rfl ?_)
  intro h1 w1
  intro u5 e5
  refine HL.still (Runs.assign e5) ?_
  intro u3 e3
  refine HL.nil ?_
  -- region 2
  repeat refine HW.seq ?_
  refine HW.region ?_
  refine HL.still (Runs.assign rfl) ?_
  intro u4 e4
  refine HL.nil ?_
  have B1 : Rs S8 h1 h.size 9 (some ⟨h.size, 0, none⟩) 1 [[]] := Rs.lit (xs := [[]]) w1 (Nat.le_refl _) (by rw [hml]; decide)
  repeat refine HW.seq ?_
  refine HW.block ?_
  refine HW.loop (fun m f u => ∃ k : Nat, k ≤ s.length ∧ m = s.length - k ∧ f 4 = I64 k ∧ f 0 = S8 s ∧ Ext h u ∧ h.size < u.size ∧ ∃ a' c', f 3 = .slice a' (parts (s.take k)).length c' ∧ Rs S8 u h.size 9 a' c' (parts (s.take k))) s.length
    ⟨0, Nat.zero_le _, rfl, e4, p0, w1.ext, by rw [w1.size]; omega, _, 1, e3, B1⟩ ?_
  clear e2 e3 e4
  rintro m f u ⟨k, hk, hm, f4, f0, hX, hu, a', c', f3, hB⟩
  have hpk := parts_le (s.take k)
  rw [List.length_take, Nat.min_eq_left hk] at hpk
  have hpos := List.length_pos_iff.2 (parts_ne (s.take k))
  by_cases hlt : k < s.length
  · have hstep : s.take (k + 1) = s.take k ++ [s.getD k 0] := by
      rw [List.take_add_one, get_of_lt hlt]
      rfl
    -- region 3
    repeat refine HW.seq ?_
    refine HW.region ?_
    refine HL.still (Runs.move f4) ?_
    intro u6 e6
    refine HL.still (Runs.move f0) ?_
    intro u7 e7
    refine HL.still (Runs.lenS rfl Tryd.underlying9 e7) ?_
    intro u8 e8
    refine HL.still (Runs.lss e6 e8 rfl) ?_
    intro u9 e9
    refine HL.nil ?_
    repeat refine HW.seq ?_
    refine HW.yes ?_ ?_
    exact e9.trans (congrArg Value.bool (decide_eq_true (by omega)))
    refine HW.skip ?_
    repeat refine HW.seq ?_
    refine HW.block ?_
    by_cases hc : s.getD k 0 = 47
    · skip
      -- region 5
      repeat refine HW.seq ?_
      refine HW.region ?_
      refine HL.still (Runs.move f0) ?_
      intro u12 e12
      refine HL.still (Runs.move f4) ?_
      intro u13 e13
      refine HL.still (Runs.ixS Tryd.underlying9 e12 e13 (j := k) rfl (get_of_lt hlt)) ?_
      intro u14 e14
      refine HL.still (Runs.eql e14 rfl (t := true) (by rw [hc]; rfl)) ?_
      intro u15 e15
      refine HL.nil ?_
      repeat refine HW.seq ?_
      refine HW.yes e15 ?_
      -- region 6
      repeat refine HW.seq ?_
      refine HW.region ?_
      refine HL.still (Runs.move f3) ?_
      intro u16 e16
      refine HL.one (HO.str1 [] rfl ?_)
      intro h3 w3
      intro u17 e17
      refine HL.one (HO.rapp1 Tryd.underlying33 in9 rfl one9 e16 e17 rfl rfl (hB.ext w3.ext) (row_block (gv := S8) (z0 := []) w3.new) (by simp; omega) (by simp; omega) (by rw [w3.size]; omega) ?_)
      intro a5 c5 h5 B5 G5
      intro u18 e18
      refine HL.still (Runs.assign e18) ?_
      intro u3 e3
      refine HL.nil ?_
      have X5 : Ext h h5 := G5.belR (hX.nw w3 (Nat.le_refl _)) (hB.ext w3.ext) (Nat.le_refl _) (Nat.le_refl _)
      have hnew : parts (s.take (k + 1)) = parts (s.take k) ++ [[]] := by rw [hstep, hc, parts_cat]; rfl
      rw [← hnew] at B5 e3
      -- region 4
      repeat refine HW.seq ?_
      refine HW.region ?_
      refine HL.still (Runs.move f4) ?_
      intro u10 e10
      refine HL.still (Runs.add e10 rfl (i64w (by omega))) ?_
      intro u11 e11
      refine HL.still (Runs.assign e11) ?_
      intro u4 e4
      refine HL.nil ?_
      exact ⟨s.length - (k + 1), by omega, k + 1, by omega, rfl, e4, f0, X5, by have := G5.size; rw [w3.size] at this; omega, a5, c5, e3, B5⟩
    · have hcn : ((s.getD k 0).toNat : Int) ≠ 47 := fun e => hc (UInt8.toNat_inj.1 (by show _ = 47; omega))
      obtain ⟨L, hL⟩ : ∃ L, L = parts (s.take k) := ⟨_, rfl⟩
      have hlast := last_len (s.take k)
      rw [List.length_take, Nat.min_eq_left hk] at hlast
      rw [← hL] at f3 hB hpk hpos hlast
      rcases hB.blk with rfl | ⟨g, rfl, hg1, hg2⟩
      · exfalso
        rcases (hB.byt : Sts u none L) with q | ⟨sb, so, q, _⟩
        · rw [q] at hpos; cases hpos
        · cases q
      obtain ⟨cur, hcb, hcl, hct⟩ := hB.blkAt
      have hLc := hB.2
      have hcell : cellH u g (L.length - 1) = some (S8 (lastS L)) := by
        rw [cellH_of hcb]
        have h1 := congrArg (·[L.length - 1]?) hct
        simp only [List.getElem?_take, List.getElem?_map] at h1
        rw [if_pos (by omega)] at h1
        have hlt2 : L.length - 1 < L.length := by omega
        have h2 := getD_of hlt2
        rw [h2] at h1
        rw [List.getElem?_toArray]
        exact h1
      -- region 5
      repeat refine HW.seq ?_
      refine HW.region ?_
      refine HL.still (Runs.move f0) ?_
      intro u12 e12
      refine HL.still (Runs.move f4) ?_
      intro u13 e13
      refine HL.still (Runs.ixS Tryd.underlying9 e12 e13 (j := k) rfl (get_of_lt hlt)) ?_
      intro u14 e14
      refine HL.still (Runs.eql e14 rfl (t := false) (by simpa using hcn)) ?_
      intro u15 e15
      refine HL.nil ?_
      repeat refine HW.seq ?_
      refine HW.no e15 ?_
      -- region 7
      repeat refine HW.seq ?_
      refine HW.drawTail 17 mixed (by kernel_rfl) ?_
      refine HS.still (Runs.move f3) ?_
      intro u19 e19
      refine HS.still (Runs.move f3) ?_
      intro u20 e20
      refine HS.still (Runs.lenSl rfl Tryd.underlying33 e20) ?_
      intro u21 e21
      refine HS.still (Runs.sub e21 rfl (c := ((L.length - 1 : Nat) : Int)) (by rw [i64w (by omega)]; omega)) ?_
      intro u22 e22
      refine HS.still (Runs.move f3) ?_
      intro u23 e23
      refine HS.still (Runs.move f3) ?_
      intro u24 e24
      refine HS.still (Runs.lenSl rfl Tryd.underlying33 e24) ?_
      intro u25 e25
      refine HS.still (Runs.sub e25 rfl (c := ((L.length - 1 : Nat) : Int)) (by rw [i64w (by omega)]; omega)) ?_
      intro u26 e26
      refine HS.still (Runs.ixSl (o' := L.length - 1) Tryd.underlying33 sz9 e23 e26 (by omega) (by omega) (by omega)) ?_
      intro u27 e27
      refine HS.still (Runs.load Tryd.underlying9 rfl e27 hcell) ?_
      intro u28 e28
      refine HS.still (Runs.move f0) ?_
      intro u29 e29
      refine HS.still (Runs.move f4) ?_
      intro u30 e30
      refine HS.still (Runs.move f4) ?_
      intro u31 e31
      refine HS.still (Runs.add e31 rfl (i64w (by omega))) ?_
      intro u32 e32
      refine HS.still (Runs.sliceS Tryd.underlying9 e29 (lo := k) (hi := k + 1) ⟨_, e30⟩ ⟨_, e32⟩ (by omega) (by omega)) ?_
      intro u33 e33
      refine HS.still (Runs.addS e28 e33 (by simp; omega)) ?_
      intro u34 e34
      refine HS.still (Runs.ixSl (o' := L.length - 1) Tryd.underlying33 sz9 e19 e22 (by omega) (by omega) (by omega)) ?_
      intro u35 e35
      refine HS.nil ?_
      refine HL.zero (HO.store (s := 1) sz9 e35 e34 rfl hcb (by omega) rfl ?_)
      intro h3 w3
      refine HL.nil ?_
      have hs1 : List.drop k (List.take (k + 1) s) = [s.getD k 0] := by
        rw [hstep, List.drop_append, List.drop_of_length_le (by rw [List.length_take]; omega), List.nil_append, List.length_take, Nat.min_eq_left hk, Nat.sub_self]
        rfl
      have hb3 := w3.new
      rw [hs1] at hb3
      have hnew : parts (s.take (k + 1)) = L.take (L.length - 1) ++ [lastS L ++ [s.getD k 0]] := by rw [hstep, parts_snoc _ _ hc, ← hL]
      have hnl : (parts (s.take (k + 1))).length = L.length := by rw [hnew, List.length_append, List.length_take, List.length_singleton]; omega
      -- region 4
      repeat refine HW.seq ?_
      refine HW.region ?_
      refine HL.still (Runs.move f4) ?_
      intro u10 e10
      refine HL.still (Runs.add e10 rfl (i64w (by omega))) ?_
      intro u11 e11
      refine HL.still (Runs.assign e11) ?_
      intro u4 e4
      refine HL.nil ?_
      refine ⟨s.length - (k + 1), by omega, k + 1, by omega, rfl, e4, f0, hX.wr w3 hg1, by rw [w3.size]; exact hu, _, c', by rw [hnl]; exact f3, ?_⟩
      refine Rs.of_blk hb3 (by rw [List.length_set]; exact hcl) ?_ hg1 (by rw [hnl]; exact hLc) hB.capLe
      rw [hnl, List.take_set, hct, hnew, ← List.map_set, set_last L _ (by intro e; rw [e] at hpos; cases hpos)]
  · have hkl : k = s.length := by omega
    subst hkl
    rw [List.take_of_length_le (Nat.le_refl _)] at f3 hB
    -- region 3
    repeat refine HW.seq ?_
    refine HW.region ?_
    refine HL.still (Runs.move f4) ?_
    intro u6 e6
    refine HL.still (Runs.move f0) ?_
    intro u7 e7
    refine HL.still (Runs.lenS rfl Tryd.underlying9 e7) ?_
    intro u8 e8
    refine HL.still (Runs.lss e6 e8 rfl) ?_
    intro u9 e9
    refine HL.nil ?_
    repeat refine HW.seq ?_
    refine HW.no ?_ ?_
    exact e9.trans (congrArg Value.bool (decide_eq_false (by omega)))
    refine HW.exitHere ?_
    -- region 8
    repeat refine HW.seq ?_
    refine HW.region ?_
    refine HL.still (Runs.move f3) ?_
    intro u36 e36
    refine HL.still (Runs.assign e36) ?_
    intro u2 e2
    refine HL.nil ?_
    refine HW.ret ?_
    exact RT.one rfl e2 ⟨a', c', rfl, hB, hX⟩
theorem joinS_take (l : List Str) {k : Nat} (h : k < l.length) : joinS (l.take (k + 1)) = (if k = 0 then [] else joinS (l.take k) ++ [47]) ++ l.getD k [] := by
  rw [take_getD l h]
  by_cases h0 : k = 0
  · subst h0
    rw [if_pos rfl, List.take_zero, List.nil_append, joinS_one]
    rfl
  · have hne : l.take k ≠ [] := by
      intro e
      have h2 := congrArg List.length e
      rw [List.length_take, List.length_nil, Nat.min_eq_left (Nat.le_of_lt h)] at h2
      exact h0 h2
    rw [if_neg h0, joinS_app _ _ hne (by simp), joinS_one, List.append_assoc]
    rfl
theorem joinS_take_le (l : List Str) (k : Nat) : (joinS (l.take k)).length ≤ (joinS l).length := by
  by_cases h1 : l.take k = []
  · rw [h1]; exact Nat.zero_le _
  · by_cases h2 : l.drop k = []
    · have := List.take_append_drop k l
      rw [h2, List.append_nil] at this
      rw [this]
      exact Nat.le_refl _
    · conv => rhs; rw [← List.take_append_drop k l, joinS_app _ _ h1 h2]
      rw [List.length_append]
      omega
theorem rjoin_ch (h : Heap) (l : List Str) (n : Nat) (a : Option Addr) (cap : Nat) (hn : n = l.length) (hsrc : Sts h a l) (hl : l.length ≤ 1000000) (hj : (joinS l).length ≤ 1000000) : CH Tryd.prog 27 #[.slice a n cap] h fun v h' => v = S8 (joinS l) ∧ h' = h := by
  subst hn
  refine CH.of_body Tryd.func27 rfl rfl rfl ?_
  intro f hf
  have p0 : f 0 = .slice a l.length cap := by rw [hf]; exact fr0_at rfl
  -- region 0
  repeat refine HW.seq ?_
  refine HW.region ?_
  refine HL.still (Runs.assign rfl) ?_
  intro u2 e2
  refine HL.nil ?_
  -- region 1
  repeat refine HW.seq ?_
  refine HW.region ?_
  refine HL.still (Runs.assign rfl) ?_
  intro u3 e3
  refine HL.nil ?_
  -- region 2
  repeat refine HW.seq ?_
  refine HW.region ?_
  refine HL.still (Runs.assign rfl) ?_
  intro u4 e4
  refine HL.nil ?_
  repeat refine HW.seq ?_
  refine HW.block ?_
  refine HW.loop (fun m f u => ∃ k : Nat, k ≤ l.length ∧ m = l.length - k ∧ f 4 = I64 k ∧ f 0 = .slice a l.length cap ∧ f 3 = S8 (joinS (l.take k)) ∧ u = h) l.length
    ⟨0, Nat.zero_le _, rfl, e4, p0, e3, rfl⟩ ?_
  clear e2 e3 e4
  rintro m f u ⟨k, hk, hm, f4, f0, f3, hu⟩
  have hle := joinS_take_le l k
  by_cases hlt : k < l.length
  · obtain ⟨sb, so, ha, hc⟩ := hsrc.at hlt
    rw [← hu] at hc
    have f0' := f0
    rw [ha] at f0'
    have hst := joinS_take l hlt
    have hle2 := joinS_take_le l (k + 1)
    rw [hst, List.length_append] at hle2
    -- region 3
    repeat refine HW.seq ?_
    refine HW.region ?_
    refine HL.still (Runs.move f4) ?_
    intro u5 e5
    refine HL.still (Runs.move f0') ?_
    intro u6 e6
    refine HL.still (Runs.lenSl rfl Tryd.underlying33 e6) ?_
    intro u7 e7
    refine HL.still (Runs.lss e5 e7 rfl) ?_
    intro u8 e8
    refine HL.nil ?_
    repeat refine HW.seq ?_
    refine HW.yes ?_ ?_
    exact e8.trans (congrArg Value.bool (decide_eq_true (by omega)))
    refine HW.skip ?_
    repeat refine HW.seq ?_
    refine HW.block ?_
    by_cases h0 : k = 0
    · rw [if_pos h0] at hst hle2
      have f3' : f 3 = S8 [] := by rw [f3, h0]; rfl
      -- region 5
      repeat refine HW.seq ?_
      refine HW.region ?_
      refine HL.still (Runs.move f4) ?_
      intro u11 e11
      refine HL.still (Runs.gtr e11 rfl (t := false) (decide_eq_false (by omega))) ?_
      intro u12 e12
      refine HL.nil ?_
      repeat refine HW.seq ?_
      refine HW.no ?_ ?_
      exact e12
      refine HW.skip ?_
      -- region 7
      repeat refine HW.seq ?_
      refine HW.region ?_
      refine HL.still (Runs.move f3') ?_
      intro u15 e15
      refine HL.still (Runs.move f0') ?_
      intro u16 e16
      refine HL.still (Runs.move f4) ?_
      intro u17 e17
      refine HL.still (Runs.ixSl (o' := so + k) Tryd.underlying33 sz9 e16 e17 (by omega) (by omega) (by omega)) ?_
      intro u18 e18
      refine HL.still (Runs.load Tryd.underlying9 rfl e18 hc) ?_
      intro u19 e19
      refine HL.still (Runs.addS e15 e19 (by simp at hle2 ⊢; omega)) ?_
      intro u20 e20
      refine HL.still (Runs.assign e20) ?_
      intro u3 e3
      refine HL.nil ?_
      -- region 4
      repeat refine HW.seq ?_
      refine HW.region ?_
      refine HL.still (Runs.move f4) ?_
      intro u9 e9
      refine HL.still (Runs.add e9 rfl (i64w (by omega))) ?_
      intro u10 e10
      refine HL.still (Runs.assign e10) ?_
      intro u4 e4
      refine HL.nil ?_
      exact ⟨l.length - (k + 1), by omega, k + 1, by omega, rfl, e4, f0, by rw [hst]; exact e3, hu⟩
    · rw [if_neg h0] at hst hle2
      rw [List.length_append] at hle2
      -- region 5
      repeat refine HW.seq ?_
      refine HW.region ?_
      refine HL.still (Runs.move f4) ?_
      intro u11 e11
      refine HL.still (Runs.gtr e11 rfl (t := true) (decide_eq_true (by omega))) ?_
      intro u12 e12
      refine HL.nil ?_
      repeat refine HW.seq ?_
      refine HW.yes ?_ ?_
      exact e12
      -- region 6
      repeat refine HW.seq ?_
      refine HW.region ?_
      refine HL.still (Runs.move f3) ?_
      intro u13 e13
      refine HL.still (Runs.addS e13 rfl (ys := [47]) (by simp; omega)) ?_
      intro u14 e14
      refine HL.still (Runs.assign e14) ?_
      intro u3 e3
      refine HL.nil ?_
      -- region 7
      repeat refine HW.seq ?_
      refine HW.region ?_
      refine HL.still (Runs.move e3) ?_
      intro u15 e15
      refine HL.still (Runs.move f0') ?_
      intro u16 e16
      refine HL.still (Runs.move f4) ?_
      intro u17 e17
      refine HL.still (Runs.ixSl (o' := so + k) Tryd.underlying33 sz9 e16 e17 (by omega) (by omega) (by omega)) ?_
      intro u18 e18
      refine HL.still (Runs.load Tryd.underlying9 rfl e18 hc) ?_
      intro u19 e19
      refine HL.still (Runs.addS e15 e19 (by rw [List.length_append]; omega)) ?_
      intro u20 e20
      refine HL.still (Runs.assign e20) ?_
      intro u3 e3
      refine HL.nil ?_
      -- region 4
      repeat refine HW.seq ?_
      refine HW.region ?_
      refine HL.still (Runs.move f4) ?_
      intro u9 e9
      refine HL.still (Runs.add e9 rfl (i64w (by omega))) ?_
      intro u10 e10
      refine HL.still (Runs.assign e10) ?_
      intro u4 e4
      refine HL.nil ?_
      exact ⟨l.length - (k + 1), by omega, k + 1, by omega, rfl, e4, f0, by rw [hst]; exact e3, hu⟩
  · have hkl : k = l.length := by omega
    subst hkl
    rw [List.take_of_length_le (Nat.le_refl _)] at f3
    -- region 3
    repeat refine HW.seq ?_
    refine HW.region ?_
    refine HL.still (Runs.move f4) ?_
    intro u5 e5
    refine HL.still (Runs.move f0) ?_
    intro u6 e6
    refine HL.still (Runs.lenSl rfl Tryd.underlying33 e6) ?_
    intro u7 e7
    refine HL.still (Runs.lss e5 e7 rfl) ?_
    intro u8 e8
    refine HL.nil ?_
    repeat refine HW.seq ?_
    refine HW.no ?_ ?_
    exact e8.trans (congrArg Value.bool (decide_eq_false (by omega)))
    refine HW.exitHere ?_
    -- region 8
    repeat refine HW.seq ?_
    refine HW.region ?_
    refine HL.still (Runs.move f3) ?_
    intro u21 e21
    refine HL.still (Runs.assign e21) ?_
    intro u2 e2
    refine HL.nil ?_
    refine HW.ret ?_
    exact RT.one rfl e2 ⟨rfl, hu⟩
/-! ### Is it a path? -/
set_option maxRecDepth 10000 in
theorem is_ch (h : Heap) (s : Str) (hs : s.length ≤ 10000) : CH Tryd.prog 25 #[S8 s] h fun v h' => v = .bool (isPath s) ∧ Ext h h' := by
  refine CH.of_body Tryd.func25 rfl rfl rfl ?_
  intro f hf
  have p0 : f 0 = S8 s := by rw [hf]; exact fr0_at rfl
  have hpos := List.length_pos_iff.2 (parts_ne s)
  have hpl := parts_le s
  -- region 0
  repeat refine HW.seq ?_
  refine HW.region ?_
  refine HL.still (Runs.assign rfl) ?_
  intro u2 e2
  refine HL.nil ?_
  -- region 1
  repeat refine HW.seq ?_
  refine HW.region ?_
  refine HL.still (Runs.move p0) ?_
  intro u7 e7
  refine HL.one (HO.call Tryd.func22 bd22 nm22 (args2 e7 rfl) rfl ((split_ch h s hs).mono ?_))
  rintro _ h1 ⟨rfl, hb1, z1, X1⟩
  intro u8 e8
  refine HL.still (Runs.assign e8) ?_
  intro u3 e3
  refine HL.nil ?_
  have hcell := cellH_map (f := S8) [] hb1 (show (parts s).length - 1 < (parts s).length by omega)
  -- region 2
  repeat refine HW.seq ?_
  refine HW.region ?_
  refine HL.still (Runs.move e3) ?_
  intro u9 e9
  refine HL.still (Runs.move e3) ?_
  intro u10 e10
  refine HL.still (Runs.lenSl rfl Tryd.underlying33 e10) ?_
  intro u11 e11
  refine HL.still (Runs.sub e11 rfl (c := (((parts s).length - 1 : Nat) : Int)) (by rw [i64w (by omega)]; omega)) ?_
  intro u12 e12
  refine HL.still (Runs.ixSl (o' := (parts s).length - 1) Tryd.underlying33 sz9 e9 e12 (by omega) (by omega) (by omega)) ?_
  intro u13 e13
  refine HL.still (Runs.load Tryd.underlying9 rfl e13 hcell) ?_
  intro u14 e14
  refine HL.still (Runs.assign e14) ?_
  intro u4 e4
  refine HL.nil ?_
  -- region 3
  repeat refine HW.seq ?_
  refine HW.region ?_
  refine HL.still (Runs.assign rfl) ?_
  intro u5 e5
  refine HL.still (Runs.assign rfl) ?_
  intro u6 e6
  refine HL.nil ?_
  -- region 4
  repeat refine HW.seq ?_
  refine HW.region ?_
  refine HL.still (Runs.move e4) ?_
  intro u15 e15
  refine HL.one (HO.call Tryd.func35 bd35 nm35 (args2 e15 rfl) rfl ((hasPre_ch h1 (lastS (parts s)) wh).mono ?_))
  rintro _ h2 ⟨rfl, hh2⟩
  intro u16 e16
  refine HL.nil ?_
  rw [hh2]
  clear hh2
  have g4 : u4 = S8 (lastS (parts s)) := e4
  refine HW.mono (N := fun f' g => g = h1 ∧ f' 0 = S8 s ∧ f' 3 = .slice (some ⟨h.size, 0, none⟩) (parts s).length (parts s).length ∧ f' 4 = S8 (lastS (parts s)) ∧ f' 5 = I64 (nameMax s : Int) ∧ f' 6 = I64 (pathMax s : Int)) ?_ ?_ (fun _ _ _ h => h) (fun _ _ h => h)
  · have e16' : u16 = .bool (marked (lastS (parts s))) := e16
    cases hm : marked (lastS (parts s)) with
    | true =>
      rw [hm] at e16'
      refine HW.yes e16' ?_
      -- region 5
      repeat refine HW.seq ?_
      refine HW.region ?_
      refine HL.still (Runs.assign rfl) ?_
      intro u5 e5
      refine HL.still (Runs.assign rfl) ?_
      intro u6 e6
      refine HL.nil ?_
      exact ⟨rfl, p0, e3, g4, e5.trans (by unfold nameMax; rw [if_pos hm]; rfl), e6.trans (by unfold pathMax; rw [if_pos hm]; rfl)⟩
    | false =>
      rw [hm] at e16'
      refine HW.no e16' ?_
      refine HW.skip ?_
      have hm' : ¬ marked (lastS (parts s)) = true := by rw [hm]; decide
      exact ⟨rfl, p0, e3, g4, e5.trans (by unfold nameMax; rw [if_neg hm']; rfl), e6.trans (by unfold pathMax; rw [if_neg hm']; rfl)⟩
  clear e2 e3 e4 e5 e6 e16 g4
  rintro f g ⟨hg, f0, f3, f4, f5, f6⟩
  rw [hg]
  clear hg
  have hsts : Sts h1 (some ⟨h.size, 0, none⟩) (parts s) := row_block hb1
  have htl : ((parts s).take ((parts s).length - 1)).length = (parts s).length - 1 := by rw [List.length_take]; omega
  by_cases b1 : s.length ≤ pathMax s
  case neg =>
    -- region 6
    repeat refine HW.seq ?_
    refine HW.region ?_
    refine HL.still (Runs.move f0) ?_
    intro u17 e17
    refine HL.still (Runs.lenS rfl Tryd.underlying9 e17) ?_
    intro u18 e18
    refine HL.still (Runs.move f6) ?_
    intro u19 e19
    refine HL.still (Runs.leq e18 e19 (t := false) (decide_eq_false (by omega))) ?_
    intro u20 e20
    refine HL.still (Runs.move e20) ?_
    intro u21 e21
    refine HL.skipG rfl rfl e21 ?_
    intro u22 e22
    refine HL.skipG rfl rfl e21 ?_
    intro u23 e23
    refine HL.skipG rfl rfl e21 ?_
    intro u24 e24
    refine HL.skipG rfl rfl e21 ?_
    intro u25 e25
    refine HL.still (Runs.pick e21 rfl) ?_
    intro u26 e26
    refine HL.still (Runs.move e26) ?_
    intro u27 e27
    refine HL.skipG rfl rfl e27 ?_
    intro u28 e28
    refine HL.skipG rfl rfl e27 ?_
    intro u29 e29
    refine HL.skipG rfl rfl e27 ?_
    intro u30 e30
    refine HL.still (Runs.pick e27 rfl) ?_
    intro u31 e31
    refine HL.still (Runs.move e31) ?_
    intro u32 e32
    refine HL.skipG rfl rfl e32 ?_
    intro u33 e33
    refine HL.skipG rfl rfl e32 ?_
    intro u34 e34
    refine HL.skipG rfl rfl e32 ?_
    intro u35 e35
    refine HL.skipG rfl rfl e32 ?_
    intro u36 e36
    refine HL.skipG rfl rfl e32 ?_
    intro u37 e37
    refine HL.skipG rfl rfl e32 ?_
    intro u38 e38
    refine HL.skipG rfl rfl e32 ?_
    intro u39 e39
    refine HL.still (Runs.pick e32 rfl) ?_
    intro u40 e40
    refine HL.still (Runs.assign e40) ?_
    intro u2 e2
    refine HL.nil ?_
    refine HW.ret ?_
    refine RT.one rfl e2 ⟨?_, X1⟩
    unfold isPath
    rw [decide_eq_false b1]
    rfl
  by_cases b2 : (lastS (parts s)).length ≤ nameMax s
  case neg =>
    -- region 6
    repeat refine HW.seq ?_
    refine HW.region ?_
    refine HL.still (Runs.move f0) ?_
    intro u17 e17
    refine HL.still (Runs.lenS rfl Tryd.underlying9 e17) ?_
    intro u18 e18
    refine HL.still (Runs.move f6) ?_
    intro u19 e19
    refine HL.still (Runs.leq e18 e19 (t := true) (decide_eq_true (by omega))) ?_
    intro u20 e20
    refine HL.still (Runs.move e20) ?_
    intro u21 e21
    refine HL.stillG rfl rfl e21 (Runs.move f4) ?_
    intro u22 e22
    refine HL.stillG rfl rfl e21 (Runs.lenS rfl Tryd.underlying9 e22) ?_
    intro u23 e23
    refine HL.stillG rfl rfl e21 (Runs.move f5) ?_
    intro u24 e24
    refine HL.stillG rfl rfl e21 (Runs.leq e23 e24 (t := false) (decide_eq_false (by omega))) ?_
    intro u25 e25
    refine HL.still (Runs.pick e21 e25) ?_
    intro u26 e26
    refine HL.still (Runs.move e26) ?_
    intro u27 e27
    refine HL.skipG rfl rfl e27 ?_
    intro u28 e28
    refine HL.skipG rfl rfl e27 ?_
    intro u29 e29
    refine HL.skipG rfl rfl e27 ?_
    intro u30 e30
    refine HL.still (Runs.pick e27 rfl) ?_
    intro u31 e31
    refine HL.still (Runs.move e31) ?_
    intro u32 e32
    refine HL.skipG rfl rfl e32 ?_
    intro u33 e33
    refine HL.skipG rfl rfl e32 ?_
    intro u34 e34
    refine HL.skipG rfl rfl e32 ?_
    intro u35 e35
    refine HL.skipG rfl rfl e32 ?_
    intro u36 e36
    refine HL.skipG rfl rfl e32 ?_
    intro u37 e37
    refine HL.skipG rfl rfl e32 ?_
    intro u38 e38
    refine HL.skipG rfl rfl e32 ?_
    intro u39 e39
    refine HL.still (Runs.pick e32 rfl) ?_
    intro u40 e40
    refine HL.still (Runs.assign e40) ?_
    intro u2 e2
    refine HL.nil ?_
    refine HW.ret ?_
    refine RT.one rfl e2 ⟨?_, X1⟩
    unfold isPath
    rw [decide_eq_true b1, decide_eq_false b2]
    rfl
  cases b3 : (parts s).any isBad with
  | true =>
    -- region 6
    repeat refine HW.seq ?_
    refine HW.region ?_
    refine HL.still (Runs.move f0) ?_
    intro u17 e17
    refine HL.still (Runs.lenS rfl Tryd.underlying9 e17) ?_
    intro u18 e18
    refine HL.still (Runs.move f6) ?_
    intro u19 e19
    refine HL.still (Runs.leq e18 e19 (t := true) (decide_eq_true (by omega))) ?_
    intro u20 e20
    refine HL.still (Runs.move e20) ?_
    intro u21 e21
    refine HL.stillG rfl rfl e21 (Runs.move f4) ?_
    intro u22 e22
    refine HL.stillG rfl rfl e21 (Runs.lenS rfl Tryd.underlying9 e22) ?_
    intro u23 e23
    refine HL.stillG rfl rfl e21 (Runs.move f5) ?_
    intro u24 e24
    refine HL.stillG rfl rfl e21 (Runs.leq e23 e24 (t := true) (decide_eq_true (by omega))) ?_
    intro u25 e25
    refine HL.still (Runs.pick e21 e25) ?_
    intro u26 e26
    refine HL.still (Runs.move e26) ?_
    intro u27 e27
    refine HL.stillG rfl rfl e27 (Runs.move f3) ?_
    intro u28 e28
    refine HL.oneG rfl rfl e27 (HO.call Tryd.func46 bd46 nm46 (args2 e28 rfl) rfl ((contf_ch h1 (parts s) _ _ _ 37 isBad bad_pred rfl hsts (by omega)).mono ?_))
    rintro _ h3 ⟨rfl, hh3⟩
    intro u29 e29
    refine HL.stillG rfl rfl e27 (Runs.notb (t := true) (u := false) (e29.trans (congrArg Value.bool b3)) rfl) ?_
    intro u30 e30
    refine HL.still (Runs.pick e27 e30) ?_
    intro u31 e31
    refine HL.still (Runs.move e31) ?_
    intro u32 e32
    refine HL.skipG rfl rfl e32 ?_
    intro u33 e33
    refine HL.skipG rfl rfl e32 ?_
    intro u34 e34
    refine HL.skipG rfl rfl e32 ?_
    intro u35 e35
    refine HL.skipG rfl rfl e32 ?_
    intro u36 e36
    refine HL.skipG rfl rfl e32 ?_
    intro u37 e37
    refine HL.skipG rfl rfl e32 ?_
    intro u38 e38
    refine HL.skipG rfl rfl e32 ?_
    intro u39 e39
    refine HL.still (Runs.pick e32 rfl) ?_
    intro u40 e40
    refine HL.still (Runs.assign e40) ?_
    intro u2 e2
    refine HL.nil ?_
    refine HW.ret ?_
    refine RT.one rfl e2 ⟨?_, by rw [hh3]; exact X1⟩
    unfold isPath
    rw [decide_eq_true b1, decide_eq_true b2, b3]
    rfl
  | false =>
    -- region 6
    repeat refine HW.seq ?_
    refine HW.region ?_
    refine HL.still (Runs.move f0) ?_
    intro u17 e17
    refine HL.still (Runs.lenS rfl Tryd.underlying9 e17) ?_
    intro u18 e18
    refine HL.still (Runs.move f6) ?_
    intro u19 e19
    refine HL.still (Runs.leq e18 e19 (t := true) (decide_eq_true (by omega))) ?_
    intro u20 e20
    refine HL.still (Runs.move e20) ?_
    intro u21 e21
    refine HL.stillG rfl rfl e21 (Runs.move f4) ?_
    intro u22 e22
    refine HL.stillG rfl rfl e21 (Runs.lenS rfl Tryd.underlying9 e22) ?_
    intro u23 e23
    refine HL.stillG rfl rfl e21 (Runs.move f5) ?_
    intro u24 e24
    refine HL.stillG rfl rfl e21 (Runs.leq e23 e24 (t := true) (decide_eq_true (by omega))) ?_
    intro u25 e25
    refine HL.still (Runs.pick e21 e25) ?_
    intro u26 e26
    refine HL.still (Runs.move e26) ?_
    intro u27 e27
    refine HL.stillG rfl rfl e27 (Runs.move f3) ?_
    intro u28 e28
    refine HL.oneG rfl rfl e27 (HO.call Tryd.func46 bd46 nm46 (args2 e28 rfl) rfl ((contf_ch h1 (parts s) _ _ _ 37 isBad bad_pred rfl hsts (by omega)).mono ?_))
    rintro _ h3 ⟨rfl, hh3⟩
    intro u29 e29
    refine HL.stillG rfl rfl e27 (Runs.notb (t := false) (u := true) (e29.trans (congrArg Value.bool b3)) rfl) ?_
    intro u30 e30
    refine HL.still (Runs.pick e27 e30) ?_
    intro u31 e31
    refine HL.still (Runs.move e31) ?_
    intro u32 e32
    refine HL.stillG rfl rfl e32 (Runs.move f3) ?_
    intro u33 e33
    refine HL.stillG rfl rfl e32 (Runs.move f3) ?_
    intro u34 e34
    refine HL.stillG rfl rfl e32 (Runs.lenSl rfl Tryd.underlying33 e34) ?_
    intro u35 e35
    refine HL.stillG rfl rfl e32 (Runs.sub e35 rfl (c := (((parts s).length - 1 : Nat) : Int)) (by rw [i64w (by omega)]; omega)) ?_
    intro u36 e36
    refine HL.stillG rfl rfl e32 (Runs.sliceSl Tryd.underlying33 sz9 e33 (lo := 0) (hi := (parts s).length - 1) rfl ⟨_, e36⟩ (Nat.zero_le _) (by omega) (show _ = some (⟨h.size, 0, none⟩ : Addr) by rw [if_neg (by omega)]; simp [addr_add])) ?_
    intro u37 e37
    refine HL.oneG rfl rfl e32 (HO.call Tryd.func46 bd46 nm46 (args2 e37 rfl) rfl ((contf_ch h3 ((parts s).take ((parts s).length - 1)) _ _ _ 47 isLong long_pred htl.symm (by rw [hh3]; exact hsts.take _) (by omega)).mono ?_))
    rintro _ h4 ⟨rfl, hh4⟩
    intro u38 e38
    refine HL.stillG rfl rfl e32 (Runs.notb e38 (u := !((parts s).take ((parts s).length - 1)).any isLong) rfl) ?_
    intro u39 e39
    refine HL.still (Runs.pick e32 e39) ?_
    intro u40 e40
    refine HL.still (Runs.assign e40) ?_
    intro u2 e2
    refine HL.nil ?_
    refine HW.ret ?_
    refine RT.one rfl e2 ⟨?_, by rw [hh4, hh3]; exact X1⟩
    unfold isPath
    rw [decide_eq_true b1, decide_eq_true b2, b3]
    rfl
end Go.Proofs.YtfnippeemboljaaDoor
