/- onionskinref05.Write. -/
import Derived.Test.YtfogkggkjmkdiaaDoorWj
namespace Go.Proofs.YtfogkggkjmkdiaaDoor
set_option linter.unnecessarySimpa false
set_option linter.unusedSimpArgs false
set_option linter.unusedVariables false
open Go.RowKit
theorem take_step {α : Type} (f : Nat → α) (m i : Nat) (h : i < m) : ((List.range m).map f).take (i + 1) = ((List.range m).map f).take i ++ [f i] := by
  rw [List.take_add_one, List.getElem?_eq_getElem (by simpa using h)]
  simp
/-- A row of ints that is owned, and has some. -/
theorem own_ints {h : Heap} {base m : Nat} {w : Value} {l : List Nat} (o : Own h base 3 1 w m (l.map In)) (hm : 0 < m) (hl : l.length = m) : ∃ g cap, w = .slice (some ⟨g, 0, none⟩) m cap ∧ base ≤ g ∧ g < h.size ∧ m ≤ cap ∧ ∀ j, j < m → cellH h g (0 + j) = some (In (l.getD j 0)) := by
  rcases o.cases with ⟨_, h2, _⟩ | ⟨g, cap, h1, h2, h3, _, h5⟩
  · omega
  · subst h1
    refine ⟨g, cap, rfl, h2, (o.lt g rfl).2, h3, fun j hj => ?_⟩
    rw [Nat.zero_add]
    exact h5 j _ (getD_map In l j 0 (by omega))
theorem rwrite_ch (h : Heap) (n size : Int) : CH Tryd.prog 17 #[.int .i64 n, .int .i64 size] h (Gives h (writeO n size)) := by
  refine CH.of_body Tryd.func17 rfl rfl rfl ?_
  intro f hf
  have p0 : f 0 = .int .i64 n := by rw [hf]; exact fr0_at rfl
  have p1 : f 1 = .int .i64 size := by rw [hf]; exact fr0_at rfl
  have hbad : ∀ v h', ¬(0 ≤ n ∧ n ≤ 4611686018427387904 ∧ 2 ≤ size ∧ size ≤ 12) → v = .tuple #[.slice none 0 0, .bool false] → Ext h h' → Gives h (writeO n size) v h' := fun v h' hno hv hX => by
    unfold writeO
    rw [if_neg hno]
    exact ⟨none, 0, hv, .inl rfl, Nat.le_refl _, hX⟩
  -- region 0
  repeat refine HW.seq ?_
  refine HW.region ?_
  refine HL.still (Runs.assign rfl) ?_
  intro u4 e4
  refine HL.still (Runs.assign rfl) ?_
  intro u5 e5
  refine HL.nil ?_
  by_cases h1 : n < 0
  · skip
    -- region 1
    repeat refine HW.seq ?_
    refine HW.region ?_
    refine HL.still (Runs.move p0) ?_
    intro u12 e12
    refine HL.still (Runs.lss e12 rfl (t := true) (decide_eq_true h1)) ?_
    intro u13 e13
    refine HL.still (Runs.move e13) ?_
    intro u14 e14
    refine HL.skipG rfl rfl e14 ?_
    intro u15 e15
    refine HL.skipG rfl rfl e14 ?_
    intro u16 e16
    refine HL.still (Runs.pick e14 rfl) ?_
    intro u17 e17
    refine HL.still (Runs.move e17) ?_
    intro u18 e18
    refine HL.skipG rfl rfl e18 ?_
    intro u19 e19
    refine HL.skipG rfl rfl e18 ?_
    intro u20 e20
    refine HL.still (Runs.pick e18 rfl) ?_
    intro u21 e21
    refine HL.still (Runs.move e21) ?_
    intro u22 e22
    refine HL.skipG rfl rfl e22 ?_
    intro u23 e23
    refine HL.skipG rfl rfl e22 ?_
    intro u24 e24
    refine HL.still (Runs.pick e22 rfl) ?_
    intro u25 e25
    refine HL.nil ?_
    repeat refine HW.seq ?_
    refine HW.yes ?_ ?_
    exact e25
    -- region 2
    repeat refine HW.seq ?_
    refine HW.region ?_
    refine HL.still (Runs.assign rfl) ?_
    intro u4 e4
    refine HL.still (Runs.assign rfl) ?_
    intro u5 e5
    refine HL.nil ?_
    refine HW.ret ?_
    exact RT.two rfl e4 e5 (hbad _ _ (by omega) rfl (Bel.refl _ _))
  by_cases h2 : n > 4611686018427387904
  · skip
    -- region 1
    repeat refine HW.seq ?_
    refine HW.region ?_
    refine HL.still (Runs.move p0) ?_
    intro u12 e12
    refine HL.still (Runs.lss e12 rfl (t := false) (decide_eq_false h1)) ?_
    intro u13 e13
    refine HL.still (Runs.move e13) ?_
    intro u14 e14
    refine HL.stillG rfl rfl e14 (Runs.move p0) ?_
    intro u15 e15
    refine HL.stillG rfl rfl e14 (Runs.gtr e15 rfl (t := true) (decide_eq_true h2)) ?_
    intro u16 e16
    refine HL.still (Runs.pick e14 e16) ?_
    intro u17 e17
    refine HL.still (Runs.move e17) ?_
    intro u18 e18
    refine HL.skipG rfl rfl e18 ?_
    intro u19 e19
    refine HL.skipG rfl rfl e18 ?_
    intro u20 e20
    refine HL.still (Runs.pick e18 rfl) ?_
    intro u21 e21
    refine HL.still (Runs.move e21) ?_
    intro u22 e22
    refine HL.skipG rfl rfl e22 ?_
    intro u23 e23
    refine HL.skipG rfl rfl e22 ?_
    intro u24 e24
    refine HL.still (Runs.pick e22 rfl) ?_
    intro u25 e25
    refine HL.nil ?_
    repeat refine HW.seq ?_
    refine HW.yes ?_ ?_
    exact e25
    -- region 2
    repeat refine HW.seq ?_
    refine HW.region ?_
    refine HL.still (Runs.assign rfl) ?_
    intro u4 e4
    refine HL.still (Runs.assign rfl) ?_
    intro u5 e5
    refine HL.nil ?_
    refine HW.ret ?_
    exact RT.two rfl e4 e5 (hbad _ _ (by omega) rfl (Bel.refl _ _))
  by_cases h3 : size < 2
  · skip
    -- region 1
    repeat refine HW.seq ?_
    refine HW.region ?_
    refine HL.still (Runs.move p0) ?_
    intro u12 e12
    refine HL.still (Runs.lss e12 rfl (t := false) (decide_eq_false h1)) ?_
    intro u13 e13
    refine HL.still (Runs.move e13) ?_
    intro u14 e14
    refine HL.stillG rfl rfl e14 (Runs.move p0) ?_
    intro u15 e15
    refine HL.stillG rfl rfl e14 (Runs.gtr e15 rfl (t := false) (decide_eq_false h2)) ?_
    intro u16 e16
    refine HL.still (Runs.pick e14 e16) ?_
    intro u17 e17
    refine HL.still (Runs.move e17) ?_
    intro u18 e18
    refine HL.stillG rfl rfl e18 (Runs.move p1) ?_
    intro u19 e19
    refine HL.stillG rfl rfl e18 (Runs.lss e19 rfl (t := true) (decide_eq_true h3)) ?_
    intro u20 e20
    refine HL.still (Runs.pick e18 e20) ?_
    intro u21 e21
    refine HL.still (Runs.move e21) ?_
    intro u22 e22
    refine HL.skipG rfl rfl e22 ?_
    intro u23 e23
    refine HL.skipG rfl rfl e22 ?_
    intro u24 e24
    refine HL.still (Runs.pick e22 rfl) ?_
    intro u25 e25
    refine HL.nil ?_
    repeat refine HW.seq ?_
    refine HW.yes ?_ ?_
    exact e25
    -- region 2
    repeat refine HW.seq ?_
    refine HW.region ?_
    refine HL.still (Runs.assign rfl) ?_
    intro u4 e4
    refine HL.still (Runs.assign rfl) ?_
    intro u5 e5
    refine HL.nil ?_
    refine HW.ret ?_
    exact RT.two rfl e4 e5 (hbad _ _ (by omega) rfl (Bel.refl _ _))
  by_cases h4 : size > 12
  · skip
    -- region 1
    repeat refine HW.seq ?_
    refine HW.region ?_
    refine HL.still (Runs.move p0) ?_
    intro u12 e12
    refine HL.still (Runs.lss e12 rfl (t := false) (decide_eq_false h1)) ?_
    intro u13 e13
    refine HL.still (Runs.move e13) ?_
    intro u14 e14
    refine HL.stillG rfl rfl e14 (Runs.move p0) ?_
    intro u15 e15
    refine HL.stillG rfl rfl e14 (Runs.gtr e15 rfl (t := false) (decide_eq_false h2)) ?_
    intro u16 e16
    refine HL.still (Runs.pick e14 e16) ?_
    intro u17 e17
    refine HL.still (Runs.move e17) ?_
    intro u18 e18
    refine HL.stillG rfl rfl e18 (Runs.move p1) ?_
    intro u19 e19
    refine HL.stillG rfl rfl e18 (Runs.lss e19 rfl (t := false) (decide_eq_false h3)) ?_
    intro u20 e20
    refine HL.still (Runs.pick e18 e20) ?_
    intro u21 e21
    refine HL.still (Runs.move e21) ?_
    intro u22 e22
    refine HL.stillG rfl rfl e22 (Runs.move p1) ?_
    intro u23 e23
    refine HL.stillG rfl rfl e22 (Runs.gtr e23 rfl (t := true) (decide_eq_true h4)) ?_
    intro u24 e24
    refine HL.still (Runs.pick e22 e24) ?_
    intro u25 e25
    refine HL.nil ?_
    repeat refine HW.seq ?_
    refine HW.yes ?_ ?_
    exact e25
    -- region 2
    repeat refine HW.seq ?_
    refine HW.region ?_
    refine HL.still (Runs.assign rfl) ?_
    intro u4 e4
    refine HL.still (Runs.assign rfl) ?_
    intro u5 e5
    refine HL.nil ?_
    refine HW.ret ?_
    exact RT.two rfl e4 e5 (hbad _ _ (by omega) rfl (Bel.refl _ _))
  obtain ⟨N, rfl⟩ : ∃ N : Nat, n = (N : Int) := ⟨n.toNat, by omega⟩
  obtain ⟨m, rfl⟩ : ∃ m : Nat, size = (m : Int) + 1 := ⟨(size - 1).toNat, by omega⟩
  have hW : writeO (N : Int) ((m : Int) + 1) = writeN N m := by
    unfold writeO
    rw [if_pos (by omega), show ((m : Int) + 1 - 1).toNat = m by omega, Int.toNat_natCast]
  rw [hW]
  clear hbad
  have hp8 : N / 8 ^ m = N / 2 ^ (3 * m) := by rw [Nat.pow_mul]
  have hp256 : N / 256 ^ m = N / 2 ^ (8 * m) := by rw [Nat.pow_mul]
  -- region 1
  repeat refine HW.seq ?_
  refine HW.region ?_
  refine HL.still (Runs.move p0) ?_
  intro u12 e12
  refine HL.still (Runs.lss e12 rfl (t := false) (decide_eq_false h1)) ?_
  intro u13 e13
  refine HL.still (Runs.move e13) ?_
  intro u14 e14
  refine HL.stillG rfl rfl e14 (Runs.move p0) ?_
  intro u15 e15
  refine HL.stillG rfl rfl e14 (Runs.gtr e15 rfl (t := false) (decide_eq_false h2)) ?_
  intro u16 e16
  refine HL.still (Runs.pick e14 e16) ?_
  intro u17 e17
  refine HL.still (Runs.move e17) ?_
  intro u18 e18
  refine HL.stillG rfl rfl e18 (Runs.move p1) ?_
  intro u19 e19
  refine HL.stillG rfl rfl e18 (Runs.lss e19 rfl (t := false) (decide_eq_false h3)) ?_
  intro u20 e20
  refine HL.still (Runs.pick e18 e20) ?_
  intro u21 e21
  refine HL.still (Runs.move e21) ?_
  intro u22 e22
  refine HL.stillG rfl rfl e22 (Runs.move p1) ?_
  intro u23 e23
  refine HL.stillG rfl rfl e22 (Runs.gtr e23 rfl (t := false) (decide_eq_false h4)) ?_
  intro u24 e24
  refine HL.still (Runs.pick e22 e24) ?_
  intro u25 e25
  refine HL.nil ?_
  repeat refine HW.seq ?_
  refine HW.no ?_ ?_
  exact e25
  refine HW.skip ?_
  -- region 3
  repeat refine HW.seq ?_
  refine HW.region ?_
  refine HL.still (Runs.move p0) ?_
  intro u27 e27
  refine HL.still (Runs.move p1) ?_
  intro u28 e28
  refine HL.still (Runs.sub e28 rfl (c := (m : Int)) (by rw [i64w (by omega)]; omega)) ?_
  intro u29 e29
  refine HL.one (HO.call Tryd.func33 bd33 nm33 (args3 e27 rfl e29) rfl ((digits_ch 8 (by decide) (by decide) m h N (by omega) (by omega)).mono ?_))
  rintro _ h2 ⟨w, rfl, O2, E2⟩
  intro u30 e30
  refine HL.still (Runs.move e30) ?_
  intro u26 e26
  refine HL.still (Runs.extr e26 rfl) ?_
  intro u31 e31
  refine HL.still (Runs.extr e26 rfl) ?_
  intro u32 e32
  refine HL.still (Runs.assign e31) ?_
  intro u6 e6
  refine HL.still (Runs.assign e32) ?_
  intro u7 e7
  refine HL.nil ?_
  have z2 := E2.size
  have hd3 : dgR 8 N m = dgts 3 N m := dgR_dgts 3 N m
  rw [hd3] at O2
  by_cases ho : N / 2 ^ (3 * m) = 0
  · have hWo : writeN N m = (oct N m, true) := by unfold writeN; rw [if_pos ho]
    rw [hWo]
    obtain ⟨g, cg, hw, hg1, hg2, hgc, hcells⟩ := own_ints O2 (by omega) (dgts_len _ _ _)
    have e6' := e6.trans hw
    have e7' : u7 = I64 0 := e7.trans (show I64 ((N / 8 ^ m : Nat) : Int) = _ by rw [hp8, ho]; rfl)
    -- region 4
    repeat refine HW.seq ?_
    refine HW.region ?_
    refine HL.still (Runs.move e7') ?_
    intro u33 e33
    refine HL.still (Runs.eql e33 rfl (t := true) rfl) ?_
    intro u34 e34
    refine HL.nil ?_
    repeat refine HW.seq ?_
    refine HW.yes ?_ ?_
    exact e34
    -- region 5
    repeat refine HW.seq ?_
    refine HW.region ?_
    refine HL.still (Runs.assign rfl) ?_
    intro u8 e8
    refine HL.nil ?_
    -- region 6
    repeat refine HW.seq ?_
    refine HW.region ?_
    refine HL.still (Runs.assign rfl) ?_
    intro u9 e9
    refine HL.nil ?_
    repeat refine HW.seq ?_
    refine HW.block ?_
    refine HW.loop (fun c f u => ∃ i : Nat, i ≤ m ∧ c = m - i ∧ f 9 = I64 i ∧ f 6 = .slice (some ⟨g, 0, none⟩) m cg ∧ (∀ j, j < m → cellH u g (0 + j) = some (In ((dgts 3 N m).getD j 0))) ∧ Ext h u ∧ h2.size ≤ u.size ∧ ∃ a' c', f 8 = .slice a' (((List.range m).map (fun j => UInt8.ofNat (dgt 3 N m j + 48))).take i).length c' ∧ Bs u h2.size 5 a' c' (((List.range m).map (fun j => UInt8.ofNat (dgt 3 N m j + 48))).take i)) m
      ⟨0, Nat.zero_le _, rfl, e9, e6', hcells, E2, Nat.le_refl _, none, 0, e8, Bs.start _ _ _⟩ ?_
    clear e6 e6' e7 e7' e8 e9 hcells
    rintro c f u ⟨i, hi, hc, f9, f6, hcells, hX, hu, a', c', f8, hB⟩
    have hpl : (((List.range m).map (fun j => UInt8.ofNat (dgt 3 N m j + 48))).take i).length = i := by simp; omega
    by_cases hlt : i < m
    · have hd := dgt_lt 3 N m i
      have hci := hcells i hlt
      rw [show (dgts 3 N m).getD i 0 = dgt 3 N m i by simp [dgts, hlt], Nat.zero_add] at hci
      -- region 7
      repeat refine HW.seq ?_
      refine HW.region ?_
      refine HL.still (Runs.move f9) ?_
      intro u35 e35
      refine HL.still (Runs.move f6) ?_
      intro u36 e36
      refine HL.still (Runs.lenSl rfl Tryd.underlying48 e36) ?_
      intro u37 e37
      refine HL.still (Runs.lss e35 e37 rfl) ?_
      intro u38 e38
      refine HL.nil ?_
      repeat refine HW.seq ?_
      refine HW.yes ?_ ?_
      exact e38.trans (congrArg Value.bool (decide_eq_true (by omega)))
      refine HW.skip ?_
      repeat refine HW.seq ?_
      refine HW.block ?_
      -- region 9
      repeat refine HW.seq ?_
      refine HW.region ?_
      refine HL.still (Runs.move f8) ?_
      intro u41 e41
      refine HL.still (Runs.move f6) ?_
      intro u42 e42
      refine HL.still (Runs.move f9) ?_
      intro u43 e43
      refine HL.still (Runs.ixSl (o' := i) Tryd.underlying48 sz3 e42 e43 (by omega) (by omega) (by omega)) ?_
      intro u44 e44
      refine HL.still (Runs.load Tryd.underlying3 rfl e44 hci) ?_
      intro u45 e45
      refine HL.still (Runs.add rfl e45 (i64w (by omega))) ?_
      intro u46 e46
      refine HL.still (Runs.conv Tryd.underlying3 Tryd.underlying5 e46 (c := ((UInt8.ofNat (dgt 3 N m i + 48)).toNat : Int)) (by rw [← u8_of_nat]; congr 1; omega)) ?_
      intro u47 e47
      refine HL.one (HO.bytes1 _ e47 ?_)
      intro h3 w3
      intro u48 e48
      refine HL.one (HO.app Tryd.underlying22 in5 rfl e41 e48 rfl rfl (hB.ext w3.ext) (byt_block w3.new) (by rw [hpl]; simp; omega) (by rw [w3.size]; omega) ?_)
      intro a5 c5 h5 B5 G5
      intro u49 e49
      refine HL.still (Runs.assign e49) ?_
      intro u8 e8
      refine HL.nil ?_
      have z3 := w3.size
      have X5 : Ext h h5 := G5.bel (hX.nw w3 (Nat.le_refl _)) (hB.ext w3.ext) (by omega) (Nat.le_refl _)
      rw [← take_step _ m i hlt] at B5 e8
      -- region 8
      repeat refine HW.seq ?_
      refine HW.region ?_
      refine HL.still (Runs.move f9) ?_
      intro u39 e39
      refine HL.still (Runs.add e39 rfl (i64w (by omega))) ?_
      intro u40 e40
      refine HL.still (Runs.assign e40) ?_
      intro u9 e9
      refine HL.nil ?_
      refine ⟨m - (i + 1), by omega, i + 1, by omega, rfl, e9, f6, fun j hj => ?_, X5, by have := G5.size; omega, a5, c5, e8, B5⟩
      rw [cellH_keep (G5.old (hB.ext w3.ext) hg2 (by omega)), cellH_keep (w3.old g (by omega))]
      exact hcells j hj
    · have him : i = m := by omega
      subst him
      rw [List.take_of_length_le (by simp)] at f8 hB hpl
      -- region 7
      repeat refine HW.seq ?_
      refine HW.region ?_
      refine HL.still (Runs.move f9) ?_
      intro u35 e35
      refine HL.still (Runs.move f6) ?_
      intro u36 e36
      refine HL.still (Runs.lenSl rfl Tryd.underlying48 e36) ?_
      intro u37 e37
      refine HL.still (Runs.lss e35 e37 rfl) ?_
      intro u38 e38
      refine HL.nil ?_
      repeat refine HW.seq ?_
      refine HW.no ?_ ?_
      exact e38.trans (congrArg Value.bool (decide_eq_false (by omega)))
      refine HW.exitHere ?_
      -- region 10
      repeat refine HW.seq ?_
      refine HW.region ?_
      refine HL.still (Runs.move f8) ?_
      intro u50 e50
      refine HL.one (HO.bytes1 0 rfl ?_)
      intro h3 w3
      intro u51 e51
      refine HL.one (HO.app Tryd.underlying22 in5 rfl e50 e51 rfl rfl (hB.ext w3.ext) (byt_block w3.new) (by rw [hpl]; simp; omega) (by rw [w3.size]; omega) ?_)
      intro a5 c5 h5 B5 G5
      intro u52 e52
      refine HL.still (Runs.assign e52) ?_
      intro u4 e4
      refine HL.still (Runs.assign rfl) ?_
      intro u5 e5
      refine HL.nil ?_
      have X5 : Ext h h5 := G5.bel (hX.nw w3 (Nat.le_refl _)) (hB.ext w3.ext) (by omega) (Nat.le_refl _)
      have hoct : (List.range i).map (fun j => UInt8.ofNat (dgt 3 N i j + 48)) ++ [0] = oct N i := by simp [oct, dgts]
      rw [hoct] at B5 e4
      refine HW.ret ?_
      exact RT.two rfl e4 e5 ⟨a5, c5, rfl, B5.byt, B5.2, X5⟩
  · have e7' : u7 = I64 ((N / 8 ^ m : Nat) : Int) := e7
    -- region 4
    repeat refine HW.seq ?_
    refine HW.region ?_
    refine HL.still (Runs.move e7') ?_
    intro u33 e33
    refine HL.still (Runs.eql e33 rfl (t := false) (by rw [hp8, beq_eq_false_iff_ne]; omega)) ?_
    intro u34 e34
    refine HL.nil ?_
    repeat refine HW.seq ?_
    refine HW.no ?_ ?_
    exact e34
    refine HW.skip ?_
    -- region 11
    repeat refine HW.seq ?_
    refine HW.region ?_
    refine HL.still (Runs.move p0) ?_
    intro u54 e54
    refine HL.still (Runs.move p1) ?_
    intro u55 e55
    refine HL.still (Runs.sub e55 rfl (c := (m : Int)) (by rw [i64w (by omega)]; omega)) ?_
    intro u56 e56
    refine HL.one (HO.call Tryd.func33 bd33 nm33 (args3 e54 rfl e56) rfl ((digits_ch 256 (by decide) (by decide) m h2 N (by omega) (by omega)).mono ?_))
    rintro _ h3 ⟨w, rfl, O3, E3⟩
    intro u57 e57
    refine HL.still (Runs.move e57) ?_
    intro u53 e53
    refine HL.still (Runs.extr e53 rfl) ?_
    intro u58 e58
    refine HL.still (Runs.extr e53 rfl) ?_
    intro u59 e59
    refine HL.still (Runs.assign e58) ?_
    intro u6 e6
    refine HL.still (Runs.assign e59) ?_
    intro u7 e7
    refine HL.nil ?_
    have z3 := E3.size
    have hd8 : dgR 256 N m = dgts 8 N m := dgR_dgts 8 N m
    rw [hd8] at O3
    have X3 : Ext h h3 := E2.ext E3 (Nat.le_refl _)
    have e7'' : u7 = I64 ((N / 256 ^ m : Nat) : Int) := e7
    by_cases hb8 : N / 2 ^ (8 * m) = 0
    · have hWb : writeN N m = (bin N m, true) := by unfold writeN; rw [if_neg ho, if_pos hb8]
      rw [hWb]
      obtain ⟨g, cg, hw, hg1, hg2, hgc, hcells⟩ := own_ints O3 (by omega) (dgts_len _ _ _)
      have e6' := e6.trans hw
      have e7t : u7 = I64 0 := e7''.trans (by rw [hp256, hb8]; rfl)
      -- region 12
      repeat refine HW.seq ?_
      refine HW.region ?_
      refine HL.still (Runs.move e7t) ?_
      intro u60 e60
      refine HL.still (Runs.neq e60 rfl (t := false) rfl) ?_
      intro u61 e61
      refine HL.nil ?_
      repeat refine HW.seq ?_
      refine HW.no ?_ ?_
      exact e61
      refine HW.skip ?_
      -- region 14
      repeat refine HW.seq ?_
      refine HW.region ?_
      refine HL.one (HO.bytes1 128 rfl ?_)
      intro h4 w4
      intro u62 e62
      refine HL.still (Runs.assign e62) ?_
      intro u10 e10
      refine HL.nil ?_
      have z4 := w4.size
      -- region 15
      repeat refine HW.seq ?_
      refine HW.region ?_
      refine HL.still (Runs.assign rfl) ?_
      intro u11 e11
      refine HL.nil ?_
      repeat refine HW.seq ?_
      refine HW.block ?_
      refine HW.loop (fun c f u => ∃ i : Nat, i ≤ m ∧ c = m - i ∧ f 11 = I64 i ∧ f 6 = .slice (some ⟨g, 0, none⟩) m cg ∧ (∀ j, j < m → cellH u g (0 + j) = some (In ((dgts 8 N m).getD j 0))) ∧ Ext h u ∧ h4.size ≤ u.size ∧ ∃ a' c', f 10 = .slice a' ([128] ++ ((List.range m).map (fun j => UInt8.ofNat (dgt 8 N m j))).take i).length c' ∧ Bs u h3.size 5 a' c' ([128] ++ ((List.range m).map (fun j => UInt8.ofNat (dgt 8 N m j))).take i)) m
        ⟨0, Nat.zero_le _, rfl, e11, e6', fun j hj => by rw [cellH_keep (w4.old g hg2)]; exact hcells j hj, X3.nw w4 (Nat.le_refl _), Nat.le_refl _, some ⟨h3.size, 0, none⟩, 1, e10.trans (by simp), by
          have := Bs.lit (xs := [128]) w4 (Nat.le_refl h3.size) (by decide)
          simpa using this⟩ ?_
      clear e6 e6' e7 e7' e7'' e7t e10 e11 hcells
      rintro c f u ⟨i, hi, hc, f11, f6, hcells, hX, hu, a', c', f10, hB⟩
      have hpl : ([128] ++ ((List.range m).map (fun j => UInt8.ofNat (dgt 8 N m j))).take i).length = i + 1 := by simp; omega
      by_cases hlt : i < m
      · have hd := dgt_lt 8 N m i
        have hci := hcells i hlt
        rw [show (dgts 8 N m).getD i 0 = dgt 8 N m i by simp [dgts, hlt], Nat.zero_add] at hci
        -- region 16
        repeat refine HW.seq ?_
        refine HW.region ?_
        refine HL.still (Runs.move f11) ?_
        intro u63 e63
        refine HL.still (Runs.move f6) ?_
        intro u64 e64
        refine HL.still (Runs.lenSl rfl Tryd.underlying48 e64) ?_
        intro u65 e65
        refine HL.still (Runs.lss e63 e65 rfl) ?_
        intro u66 e66
        refine HL.nil ?_
        repeat refine HW.seq ?_
        refine HW.yes ?_ ?_
        exact e66.trans (congrArg Value.bool (decide_eq_true (by omega)))
        refine HW.skip ?_
        repeat refine HW.seq ?_
        refine HW.block ?_
        -- region 18
        repeat refine HW.seq ?_
        refine HW.region ?_
        refine HL.still (Runs.move f10) ?_
        intro u69 e69
        refine HL.still (Runs.move f6) ?_
        intro u70 e70
        refine HL.still (Runs.move f11) ?_
        intro u71 e71
        refine HL.still (Runs.ixSl (o' := i) Tryd.underlying48 sz3 e70 e71 (by omega) (by omega) (by omega)) ?_
        intro u72 e72
        refine HL.still (Runs.load Tryd.underlying3 rfl e72 hci) ?_
        intro u73 e73
        refine HL.still (Runs.conv Tryd.underlying3 Tryd.underlying5 e73 (u8_of_nat _)) ?_
        intro u74 e74
        refine HL.one (HO.bytes1 _ e74 ?_)
        intro h5 w5
        intro u75 e75
        refine HL.one (HO.app Tryd.underlying22 in5 rfl e69 e75 rfl rfl (hB.ext w5.ext) (byt_block w5.new) (by rw [hpl]; simp; omega) (by rw [w5.size]; omega) ?_)
        intro a6 c6 h6 B6 G6
        intro u76 e76
        refine HL.still (Runs.assign e76) ?_
        intro u10 e10
        refine HL.nil ?_
        have z5 := w5.size
        have X6 : Ext h h6 := G6.bel (hX.nw w5 (Nat.le_refl _)) (hB.ext w5.ext) (by omega) (Nat.le_refl _)
        rw [List.append_assoc, ← take_step _ m i hlt] at B6 e10
        -- region 17
        repeat refine HW.seq ?_
        refine HW.region ?_
        refine HL.still (Runs.move f11) ?_
        intro u67 e67
        refine HL.still (Runs.add e67 rfl (i64w (by omega))) ?_
        intro u68 e68
        refine HL.still (Runs.assign e68) ?_
        intro u11 e11
        refine HL.nil ?_
        refine ⟨m - (i + 1), by omega, i + 1, by omega, rfl, e11, f6, fun j hj => ?_, X6, by have := G6.size; omega, a6, c6, e10, B6⟩
        rw [cellH_keep (G6.old (hB.ext w5.ext) hg2 (by omega)), cellH_keep (w5.old g (by omega))]
        exact hcells j hj
      · have him : i = m := by omega
        subst him
        rw [List.take_of_length_le (by simp)] at f10 hB
        -- region 16
        repeat refine HW.seq ?_
        refine HW.region ?_
        refine HL.still (Runs.move f11) ?_
        intro u63 e63
        refine HL.still (Runs.move f6) ?_
        intro u64 e64
        refine HL.still (Runs.lenSl rfl Tryd.underlying48 e64) ?_
        intro u65 e65
        refine HL.still (Runs.lss e63 e65 rfl) ?_
        intro u66 e66
        refine HL.nil ?_
        repeat refine HW.seq ?_
        refine HW.no ?_ ?_
        exact e66.trans (congrArg Value.bool (decide_eq_false (by omega)))
        refine HW.exitHere ?_
        -- region 19
        repeat refine HW.seq ?_
        refine HW.region ?_
        refine HL.still (Runs.move f10) ?_
        intro u77 e77
        refine HL.still (Runs.assign e77) ?_
        intro u4 e4
        refine HL.still (Runs.assign rfl) ?_
        intro u5 e5
        refine HL.nil ?_
        have hbin : [128] ++ (List.range i).map (fun j => UInt8.ofNat (dgt 8 N i j)) = bin N i := by simp [bin, dgts]
        rw [hbin] at hB e4
        refine HW.ret ?_
        exact RT.two rfl e4 e5 ⟨a', c', rfl, hB.byt, hB.2, hX⟩
    · have hWn : writeN N m = ([], false) := by unfold writeN; rw [if_neg ho, if_neg hb8]
      rw [hWn]
      -- region 12
      repeat refine HW.seq ?_
      refine HW.region ?_
      refine HL.still (Runs.move e7'') ?_
      intro u60 e60
      refine HL.still (Runs.neq e60 rfl (t := true) (by rw [hp256, bne_iff_ne]; omega)) ?_
      intro u61 e61
      refine HL.nil ?_
      repeat refine HW.seq ?_
      refine HW.yes ?_ ?_
      exact e61
      -- region 13
      repeat refine HW.seq ?_
      refine HW.region ?_
      refine HL.still (Runs.assign rfl) ?_
      intro u4 e4
      refine HL.still (Runs.assign rfl) ?_
      intro u5 e5
      refine HL.nil ?_
      refine HW.ret ?_
      exact RT.two rfl e4 e5 ⟨none, 0, rfl, .inl rfl, Nat.le_refl _, X3⟩
end Go.Proofs.YtfogkggkjmkdiaaDoor
