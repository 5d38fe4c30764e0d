/- octal.Write. -/
import Derived.Test.YtfogkggkjmkdiaaDoorWh
namespace Go.Proofs.YtfogkggkjmkdiaaDoor
set_option linter.unnecessarySimpa false
set_option linter.unusedSimpArgs false
set_option linter.unusedVariables false
open Go.RowKit
/-- What a number is written as; no bytes, and false: it is not written. -/
def oct (n m : Nat) : List UInt8 := (dgts 3 n m).map (fun d => UInt8.ofNat (d + 48)) ++ [0]
def bin (n m : Nat) : List UInt8 := 128 :: (dgts 8 n m).map UInt8.ofNat
def writeN (n m : Nat) : List UInt8 × Bool := if n / 2 ^ (3 * m) = 0 then (oct n m, true) else if n / 2 ^ (8 * m) = 0 then (bin n m, true) else ([], false)
def writeO (n size : Int) : List UInt8 × Bool := if 0 ≤ n ∧ n ≤ 4611686018427387904 ∧ 2 ≤ size ∧ size ≤ 12 then writeN n.toNat (size - 1).toNat else ([], false)
theorem dgts_len (b n m : Nat) : (dgts b n m).length = m := by simp [dgts]
theorem dgt_lt (b n m j : Nat) : dgt b n m j < 2 ^ b := Nat.mod_lt _ (Nat.pow_pos (by decide))
/-- k digits have become letters. -/
def litK (n m k : Nat) : List UInt8 := ((dgts 3 n m).map (fun d => UInt8.ofNat (d + 48))).take k ++ ((dgts 3 n m).map UInt8.ofNat).drop k
theorem litK_len (n m k : Nat) : (litK n m k).length = m := by
  rw [litK, List.length_append, List.length_take, List.length_drop, List.length_map, List.length_map, dgts_len]
  omega
theorem litK_get (n m k : Nat) (hk : k < m) : (litK n m k).getD k 0 = UInt8.ofNat (dgt 3 n m k) := by
  unfold litK
  rw [List.getD_eq_getElem?_getD, List.getElem?_append_right (by rw [List.length_take]; exact Nat.min_le_left _ _), List.length_take, List.length_map, dgts_len, Nat.min_eq_left (by omega), Nat.sub_self, List.getElem?_drop]
  simp [dgts, hk]
theorem litK_step (n m k : Nat) (hk : k < m) : (litK n m k).set k (UInt8.ofNat (dgt 3 n m k + 48)) = litK n m (k + 1) := by
  have hl : ((dgts 3 n m).map (fun d => UInt8.ofNat (d + 48))).length = m := by rw [List.length_map, dgts_len]
  have hl2 : k < ((dgts 3 n m).map UInt8.ofNat).length := by rw [List.length_map, dgts_len]; exact hk
  unfold litK
  rw [List.set_append_right _ _ (by rw [List.length_take]; omega), List.length_take, hl, Nat.min_eq_left (by omega), Nat.sub_self, List.drop_eq_getElem_cons hl2, List.set_cons_zero, List.take_add_one, List.getElem?_eq_getElem (by rw [hl]; exact hk)]
  simp [dgts]
theorem litK_all (n m : Nat) : litK n m m = (dgts 3 n m).map (fun d => UInt8.ofNat (d + 48)) := by
  unfold litK
  rw [List.take_of_length_le (by rw [List.length_map, dgts_len]; exact Nat.le_refl _), List.drop_of_length_le (by rw [List.length_map, dgts_len]; exact Nat.le_refl _), List.append_nil]
theorem add48 (d : Nat) (h : d < 8) : IntKind.u8.wrap (((UInt8.ofNat d).toNat : Int) + 48) = ((UInt8.ofNat (d + 48)).toNat : Int) := by
  rw [UInt8.toNat_ofNat', UInt8.toNat_ofNat', IntKind.wrap_u8]
  omega
/-- What a writer gives back. -/
def Gives (h : Heap) (r : List UInt8 × Bool) (v : Value) (h' : Heap) : Prop := ∃ a c, v = .tuple #[.slice a r.1.length c, .bool r.2] ∧ Byt h' a r.1 ∧ r.1.length ≤ c ∧ Ext h h'
theorem Bs.at_blk {h : Heap} {base e b : Nat} {xs : List UInt8} (hb : h[b]? = some (.cells (xs.map B8).toArray e (0, 0))) (hg : base ≤ b) (hm : xs.length ≤ maxLen) : Bs h base e (some ⟨b, 0, none⟩) xs.length xs :=
  Bs.of_blk hb (by rw [List.length_map]) (by rw [List.take_of_length_le (by rw [List.length_map]; exact Nat.le_refl _)]) hg (Nat.le_refl _) hm
theorem Bs.low {h : Heap} {base base' e : Nat} {a : Option Addr} {cap : Nat} {xs : List UInt8} (x : Bs h base e a cap xs) (hb : base' ≤ base) : Bs h base' e a cap xs := by
  rcases x.blk with rfl | ⟨g, rfl, hg, _⟩
  · refine ⟨?_, x.2⟩
    rcases x.1.cases with ⟨h1, h2, h3⟩ | ⟨g, c, h1, h2, _⟩
    · rw [h1, h2, h3]; exact Own.nil h base' e 1
    · have := (slice_inj h1).1
      cases this
  · obtain ⟨cur, h1, h2, h3⟩ := x.blkAt
    exact Bs.of_blk h1 h2 h3 (by omega) x.2 x.capLe
/-- What a writer gives back, as its own. -/
def GivesO (h : Heap) (r : List UInt8 × Bool) (v : Value) (h' : Heap) : Prop := ∃ a c, v = .tuple #[.slice a r.1.length c, .bool r.2] ∧ Bs h' h.size 5 a c r.1 ∧ Ext h h'
theorem writeB_ch (h : Heap) (n size : Int) : CH Tryd.prog 16 #[.int .i64 n, .int .i64 size] h (GivesO h (writeO n size)) := by
  refine CH.of_body Tryd.func16 rfl rfl rfl ?_
  intro f hf
  have p0 : f 0 = .int .i64 n := by rw [hf]; exact fr0_at rfl
  have p1 : f 1 = .int .i64 size := by rw [hf]; exact fr0_at rfl
  have hbad : ∀ v h', ¬(0 ≤ n ∧ n ≤ 4611686018427387904 ∧ 2 ≤ size ∧ size ≤ 12) → v = .tuple #[.slice none 0 0, .bool false] → Ext h h' → GivesO h (writeO n size) v h' := fun v h' hno hv hX => by
    unfold writeO
    rw [if_neg hno]
    exact ⟨none, 0, hv, Bs.start _ _ _, hX⟩
  -- region 0
  repeat refine HW.seq ?_
  refine HW.region ?_
  refine HL.still (Runs.assign rfl) ?_
  intro u4 e4
  refine HL.still (Runs.assign rfl) ?_
  intro u5 e5
  refine HL.nil ?_
  by_cases h1 : n < 0
  · skip
    -- region 1
    repeat refine HW.seq ?_
    refine HW.region ?_
    refine HL.still (Runs.move p0) ?_
    intro u11 e11
    refine HL.still (Runs.lss e11 rfl (t := true) (decide_eq_true h1)) ?_
    intro u12 e12
    refine HL.still (Runs.move e12) ?_
    intro u13 e13
    refine HL.skipG rfl rfl e13 ?_
    intro u14 e14
    refine HL.skipG rfl rfl e13 ?_
    intro u15 e15
    refine HL.still (Runs.pick e13 rfl) ?_
    intro u16 e16
    refine HL.still (Runs.move e16) ?_
    intro u17 e17
    refine HL.skipG rfl rfl e17 ?_
    intro u18 e18
    refine HL.skipG rfl rfl e17 ?_
    intro u19 e19
    refine HL.still (Runs.pick e17 rfl) ?_
    intro u20 e20
    refine HL.still (Runs.move e20) ?_
    intro u21 e21
    refine HL.skipG rfl rfl e21 ?_
    intro u22 e22
    refine HL.skipG rfl rfl e21 ?_
    intro u23 e23
    refine HL.still (Runs.pick e21 rfl) ?_
    intro u24 e24
    refine HL.nil ?_
    repeat refine HW.seq ?_
    refine HW.yes ?_ ?_
    exact e24
    -- region 2
    repeat refine HW.seq ?_
    refine HW.region ?_
    refine HL.still (Runs.assign rfl) ?_
    intro u4 e4
    refine HL.still (Runs.assign rfl) ?_
    intro u5 e5
    refine HL.nil ?_
    refine HW.ret ?_
    exact RT.two rfl e4 e5 (hbad _ _ (by omega) rfl (Bel.refl _ _))
  by_cases h2 : n > 4611686018427387904
  · skip
    -- region 1
    repeat refine HW.seq ?_
    refine HW.region ?_
    refine HL.still (Runs.move p0) ?_
    intro u11 e11
    refine HL.still (Runs.lss e11 rfl (t := false) (decide_eq_false h1)) ?_
    intro u12 e12
    refine HL.still (Runs.move e12) ?_
    intro u13 e13
    refine HL.stillG rfl rfl e13 (Runs.move p0) ?_
    intro u14 e14
    refine HL.stillG rfl rfl e13 (Runs.gtr e14 rfl (t := true) (decide_eq_true h2)) ?_
    intro u15 e15
    refine HL.still (Runs.pick e13 e15) ?_
    intro u16 e16
    refine HL.still (Runs.move e16) ?_
    intro u17 e17
    refine HL.skipG rfl rfl e17 ?_
    intro u18 e18
    refine HL.skipG rfl rfl e17 ?_
    intro u19 e19
    refine HL.still (Runs.pick e17 rfl) ?_
    intro u20 e20
    refine HL.still (Runs.move e20) ?_
    intro u21 e21
    refine HL.skipG rfl rfl e21 ?_
    intro u22 e22
    refine HL.skipG rfl rfl e21 ?_
    intro u23 e23
    refine HL.still (Runs.pick e21 rfl) ?_
    intro u24 e24
    refine HL.nil ?_
    repeat refine HW.seq ?_
    refine HW.yes ?_ ?_
    exact e24
    -- region 2
    repeat refine HW.seq ?_
    refine HW.region ?_
    refine HL.still (Runs.assign rfl) ?_
    intro u4 e4
    refine HL.still (Runs.assign rfl) ?_
    intro u5 e5
    refine HL.nil ?_
    refine HW.ret ?_
    exact RT.two rfl e4 e5 (hbad _ _ (by omega) rfl (Bel.refl _ _))
  by_cases h3 : size < 2
  · skip
    -- region 1
    repeat refine HW.seq ?_
    refine HW.region ?_
    refine HL.still (Runs.move p0) ?_
    intro u11 e11
    refine HL.still (Runs.lss e11 rfl (t := false) (decide_eq_false h1)) ?_
    intro u12 e12
    refine HL.still (Runs.move e12) ?_
    intro u13 e13
    refine HL.stillG rfl rfl e13 (Runs.move p0) ?_
    intro u14 e14
    refine HL.stillG rfl rfl e13 (Runs.gtr e14 rfl (t := false) (decide_eq_false h2)) ?_
    intro u15 e15
    refine HL.still (Runs.pick e13 e15) ?_
    intro u16 e16
    refine HL.still (Runs.move e16) ?_
    intro u17 e17
    refine HL.stillG rfl rfl e17 (Runs.move p1) ?_
    intro u18 e18
    refine HL.stillG rfl rfl e17 (Runs.lss e18 rfl (t := true) (decide_eq_true h3)) ?_
    intro u19 e19
    refine HL.still (Runs.pick e17 e19) ?_
    intro u20 e20
    refine HL.still (Runs.move e20) ?_
    intro u21 e21
    refine HL.skipG rfl rfl e21 ?_
    intro u22 e22
    refine HL.skipG rfl rfl e21 ?_
    intro u23 e23
    refine HL.still (Runs.pick e21 rfl) ?_
    intro u24 e24
    refine HL.nil ?_
    repeat refine HW.seq ?_
    refine HW.yes ?_ ?_
    exact e24
    -- region 2
    repeat refine HW.seq ?_
    refine HW.region ?_
    refine HL.still (Runs.assign rfl) ?_
    intro u4 e4
    refine HL.still (Runs.assign rfl) ?_
    intro u5 e5
    refine HL.nil ?_
    refine HW.ret ?_
    exact RT.two rfl e4 e5 (hbad _ _ (by omega) rfl (Bel.refl _ _))
  by_cases h4 : size > 12
  · skip
    -- region 1
    repeat refine HW.seq ?_
    refine HW.region ?_
    refine HL.still (Runs.move p0) ?_
    intro u11 e11
    refine HL.still (Runs.lss e11 rfl (t := false) (decide_eq_false h1)) ?_
    intro u12 e12
    refine HL.still (Runs.move e12) ?_
    intro u13 e13
    refine HL.stillG rfl rfl e13 (Runs.move p0) ?_
    intro u14 e14
    refine HL.stillG rfl rfl e13 (Runs.gtr e14 rfl (t := false) (decide_eq_false h2)) ?_
    intro u15 e15
    refine HL.still (Runs.pick e13 e15) ?_
    intro u16 e16
    refine HL.still (Runs.move e16) ?_
    intro u17 e17
    refine HL.stillG rfl rfl e17 (Runs.move p1) ?_
    intro u18 e18
    refine HL.stillG rfl rfl e17 (Runs.lss e18 rfl (t := false) (decide_eq_false h3)) ?_
    intro u19 e19
    refine HL.still (Runs.pick e17 e19) ?_
    intro u20 e20
    refine HL.still (Runs.move e20) ?_
    intro u21 e21
    refine HL.stillG rfl rfl e21 (Runs.move p1) ?_
    intro u22 e22
    refine HL.stillG rfl rfl e21 (Runs.gtr e22 rfl (t := true) (decide_eq_true h4)) ?_
    intro u23 e23
    refine HL.still (Runs.pick e21 e23) ?_
    intro u24 e24
    refine HL.nil ?_
    repeat refine HW.seq ?_
    refine HW.yes ?_ ?_
    exact e24
    -- region 2
    repeat refine HW.seq ?_
    refine HW.region ?_
    refine HL.still (Runs.assign rfl) ?_
    intro u4 e4
    refine HL.still (Runs.assign rfl) ?_
    intro u5 e5
    refine HL.nil ?_
    refine HW.ret ?_
    exact RT.two rfl e4 e5 (hbad _ _ (by omega) rfl (Bel.refl _ _))
  obtain ⟨N, rfl⟩ : ∃ N : Nat, n = (N : Int) := ⟨n.toNat, by omega⟩
  obtain ⟨m, rfl⟩ : ∃ m : Nat, size = (m : Int) + 1 := ⟨(size - 1).toNat, by omega⟩
  have hW : writeO (N : Int) ((m : Int) + 1) = writeN N m := by
    unfold writeO
    rw [if_pos (by omega), show ((m : Int) + 1 - 1).toNat = m by omega, Int.toNat_natCast]
  rw [hW]
  clear hbad
  -- region 1
  repeat refine HW.seq ?_
  refine HW.region ?_
  refine HL.still (Runs.move p0) ?_
  intro u11 e11
  refine HL.still (Runs.lss e11 rfl (t := false) (decide_eq_false h1)) ?_
  intro u12 e12
  refine HL.still (Runs.move e12) ?_
  intro u13 e13
  refine HL.stillG rfl rfl e13 (Runs.move p0) ?_
  intro u14 e14
  refine HL.stillG rfl rfl e13 (Runs.gtr e14 rfl (t := false) (decide_eq_false h2)) ?_
  intro u15 e15
  refine HL.still (Runs.pick e13 e15) ?_
  intro u16 e16
  refine HL.still (Runs.move e16) ?_
  intro u17 e17
  refine HL.stillG rfl rfl e17 (Runs.move p1) ?_
  intro u18 e18
  refine HL.stillG rfl rfl e17 (Runs.lss e18 rfl (t := false) (decide_eq_false h3)) ?_
  intro u19 e19
  refine HL.still (Runs.pick e17 e19) ?_
  intro u20 e20
  refine HL.still (Runs.move e20) ?_
  intro u21 e21
  refine HL.stillG rfl rfl e21 (Runs.move p1) ?_
  intro u22 e22
  refine HL.stillG rfl rfl e21 (Runs.gtr e22 rfl (t := false) (decide_eq_false h4)) ?_
  intro u23 e23
  refine HL.still (Runs.pick e21 e23) ?_
  intro u24 e24
  refine HL.nil ?_
  repeat refine HW.seq ?_
  refine HW.no ?_ ?_
  exact e24
  refine HW.skip ?_
  -- region 3
  repeat refine HW.seq ?_
  refine HW.region ?_
  refine HL.still (Runs.move p0) ?_
  intro u26 e26
  refine HL.still (Runs.move p1) ?_
  intro u27 e27
  refine HL.still (Runs.sub e27 rfl (c := (m : Int)) (by rw [i64w (by omega)]; omega)) ?_
  intro u28 e28
  refine HL.one (HO.call Tryd.func32 bd32 nm32 (args3 e26 rfl e28) rfl ((lay_ch h 3 N m (by decide) (by omega) (by omega)).mono ?_))
  rintro _ h2 ⟨rfl, hb2, E2⟩
  intro u29 e29
  refine HL.still (Runs.move e29) ?_
  intro u25 e25
  refine HL.still (Runs.extr e25 rfl) ?_
  intro u30 e30
  refine HL.still (Runs.extr e25 rfl) ?_
  intro u31 e31
  refine HL.still (Runs.assign e30) ?_
  intro u6 e6
  refine HL.still (Runs.assign e31) ?_
  intro u7 e7
  refine HL.nil ?_
  have z2 := E2.size
  have lb2 := lt_of_some hb2
  by_cases ho : N / 2 ^ (3 * m) = 0
  · rw [decide_eq_true ho] at e7
    have hWo : writeN N m = (oct N m, true) := by unfold writeN; rw [if_pos ho]
    rw [hWo]
    -- region 4
    repeat refine HW.seq ?_
    refine HW.region ?_
    refine HL.still (Runs.move e7) ?_
    intro u32 e32
    refine HL.nil ?_
    repeat refine HW.seq ?_
    refine HW.yes ?_ ?_
    exact e32
    -- region 5
    repeat refine HW.seq ?_
    refine HW.region ?_
    refine HL.still (Runs.move e6) ?_
    intro u33 e33
    refine HL.still (Runs.lenSl rfl Tryd.underlying22 e33) ?_
    intro u34 e34
    refine HL.still (Runs.move rfl) ?_
    intro u35 e35
    refine HL.nil ?_
    repeat refine HW.seq ?_
    refine HW.block ?_
    refine HW.loop (fun c f g => ∃ k : Nat, k ≤ m ∧ c = m - k ∧ f 35 = I64 k ∧ f 34 = I64 m ∧ f 6 = .slice (some ⟨h.size, 0, none⟩) m m ∧ g[h.size]? = some (.cells ((litK N m k).map B8).toArray 5 (0, 0)) ∧ Ext h g) m
      ⟨0, Nat.zero_le _, rfl, e35, e34, e6, by simpa [litK] using hb2, E2⟩ ?_
    clear e6 e34 e35 hb2
    rintro c f g ⟨k, hk, hc, f35, f34, f6, hbk, hX⟩
    have hll := litK_len N m k
    by_cases hlt : k < m
    · have hd := dgt_lt 3 N m k
      have hcell := cellH_map (j := k) 0 hbk (by omega)
      rw [litK_get N m k hlt] at hcell
      -- region 6
      repeat refine HW.seq ?_
      refine HW.region ?_
      refine HL.still (Runs.lss f35 f34 rfl) ?_
      intro u36 e36
      refine HL.nil ?_
      repeat refine HW.seq ?_
      refine HW.yes ?_ ?_
      exact e36.trans (congrArg Value.bool (decide_eq_true (by omega)))
      refine HW.skip ?_
      repeat refine HW.seq ?_
      refine HW.block ?_
      -- region 7
      repeat refine HW.seq ?_
      refine HW.region ?_
      refine HL.still (Runs.move f35) ?_
      intro u37 e37
      refine HL.still (Runs.assign e37) ?_
      intro u8 e8
      refine HL.nil ?_
      -- region 8
      repeat refine HW.seq ?_
      refine HW.region ?_
      refine HL.still (Runs.move f6) ?_
      intro u38 e38
      refine HL.still (Runs.move e8) ?_
      intro u39 e39
      refine HL.still (Runs.ixSl (o' := k) Tryd.underlying22 sz5 e38 e39 (by omega) (by omega) (by omega)) ?_
      intro u40 e40
      refine HL.still (Runs.load Tryd.underlying5 rfl e40 hcell) ?_
      intro u41 e41
      refine HL.still (Runs.add e41 rfl (add48 _ (by omega))) ?_
      intro u42 e42
      refine HL.still (Runs.ixSl (o' := k) Tryd.underlying22 sz5 e38 e39 (by omega) (by omega) (by omega)) ?_
      intro u43 e43
      refine HL.zero (HO.store (s := 1) sz5 e43 e42 rfl hbk (by rw [List.length_map, hll]; omega) rfl ?_)
      intro h3 w3
      refine HL.nil ?_
      have hb3 := w3.new
      rw [← List.map_set, litK_step N m k hlt] at hb3
      -- region 9
      repeat refine HW.seq ?_
      refine HW.region ?_
      refine HL.still (Runs.add f35 rfl (i64w (by omega))) ?_
      intro u44 e44
      refine HL.still (Runs.move e44) ?_
      intro u35 e35
      refine HL.nil ?_
      exact ⟨m - (k + 1), by omega, k + 1, by omega, rfl, e35, f34, f6, hb3, hX.wr w3 (Nat.le_refl _)⟩
    · have hkm : k = m := by omega
      subst hkm
      rw [litK_all] at hbk
      -- region 6
      repeat refine HW.seq ?_
      refine HW.region ?_
      refine HL.still (Runs.lss f35 f34 rfl) ?_
      intro u36 e36
      refine HL.nil ?_
      repeat refine HW.seq ?_
      refine HW.no ?_ ?_
      exact e36.trans (congrArg Value.bool (decide_eq_false (by omega)))
      refine HW.exitHere ?_
      have hL : ((dgts 3 N k).map (fun d => UInt8.ofNat (d + 48))).length = k := by rw [List.length_map, dgts_len]
      have hBs := Bs.at_blk (base := h.size) hbk (Nat.le_refl _) (by rw [hL]; exact Nat.le_trans (show k ≤ 12 by omega) (by decide))
      rw [hL] at hBs
      -- region 10
      repeat refine HW.seq ?_
      refine HW.region ?_
      refine HL.still (Runs.move f6) ?_
      intro u45 e45
      refine HL.one (HO.bytes1 0 rfl ?_)
      intro h3 w3
      intro u46 e46
      refine HL.one (HO.app Tryd.underlying22 in5 rfl e45 e46 hL.symm rfl (hBs.ext w3.ext) (byt_block w3.new) (by rw [hL]; simp; omega) (by rw [w3.size]; have := hX.size; omega) ?_)
      intro a4 c4 h4 B4 G4
      intro u47 e47
      refine HL.still (Runs.assign e47) ?_
      intro u4 e4
      refine HL.still (Runs.assign rfl) ?_
      intro u5 e5
      refine HL.nil ?_
      have X4 : Ext h h4 := G4.bel (hX.nw w3 (Nat.le_refl _)) (hBs.ext w3.ext) (Nat.le_refl _) (Nat.le_refl _)
      refine HW.ret ?_
      exact RT.two rfl e4 e5 ⟨a4, c4, rfl, B4, X4⟩
  · rw [decide_eq_false ho] at e7
    -- region 4
    repeat refine HW.seq ?_
    refine HW.region ?_
    refine HL.still (Runs.move e7) ?_
    intro u32 e32
    refine HL.nil ?_
    repeat refine HW.seq ?_
    refine HW.no ?_ ?_
    exact e32
    refine HW.skip ?_
    -- region 11
    repeat refine HW.seq ?_
    refine HW.region ?_
    refine HL.still (Runs.move p0) ?_
    intro u49 e49
    refine HL.still (Runs.move p1) ?_
    intro u50 e50
    refine HL.still (Runs.sub e50 rfl (c := (m : Int)) (by rw [i64w (by omega)]; omega)) ?_
    intro u51 e51
    refine HL.one (HO.call Tryd.func32 bd32 nm32 (args3 e49 rfl e51) rfl ((lay_ch h2 8 N m (by decide) (by omega) (by omega)).mono ?_))
    rintro _ h3 ⟨rfl, hb3, E3⟩
    intro u52 e52
    refine HL.still (Runs.move e52) ?_
    intro u48 e48
    refine HL.still (Runs.extr e48 rfl) ?_
    intro u53 e53
    refine HL.still (Runs.extr e48 rfl) ?_
    intro u54 e54
    refine HL.still (Runs.assign e53) ?_
    intro u9 e9
    refine HL.still (Runs.assign e54) ?_
    intro u10 e10
    refine HL.nil ?_
    have z3 := E3.size
    have X3 : Ext h h3 := E2.ext E3 (Nat.le_refl _)
    by_cases hb8 : N / 2 ^ (8 * m) = 0
    · rw [decide_eq_true hb8] at e10
      have hWb : writeN N m = (bin N m, true) := by unfold writeN; rw [if_neg ho, if_pos hb8]
      rw [hWb]
      have hL : ((dgts 8 N m).map UInt8.ofNat).length = m := by rw [List.length_map, dgts_len]
      -- region 12
      repeat refine HW.seq ?_
      refine HW.region ?_
      refine HL.still (Runs.move e10) ?_
      intro u55 e55
      refine HL.still (Runs.notb e55 (t := true) (u := false) rfl) ?_
      intro u56 e56
      refine HL.nil ?_
      repeat refine HW.seq ?_
      refine HW.no ?_ ?_
      exact e56
      refine HW.skip ?_
      -- region 14
      repeat refine HW.seq ?_
      refine HW.region ?_
      refine HL.one (HO.bytes1 128 rfl ?_)
      intro h4 w4
      intro u57 e57
      refine HL.still (Runs.move e9) ?_
      intro u58 e58
      refine HL.one (HO.app Tryd.underlying22 in5 rfl e57 e58 rfl hL.symm (Bs.lit (xs := [128]) w4 (Nat.le_refl _) (by decide)) ((byt_block hb3).ext w4.ext) (by rw [hL]; simp; omega) (by rw [w4.size]; omega) ?_)
      intro a5 c5 h5 B5 G5
      intro u59 e59
      refine HL.still (Runs.assign e59) ?_
      intro u4 e4
      refine HL.still (Runs.assign rfl) ?_
      intro u5 e5
      refine HL.nil ?_
      have X5 : Ext h h5 := G5.bel (X3.nw w4 (Nat.le_refl _)) (Bs.lit (xs := [128]) w4 (Nat.le_refl _) (by decide)) (by have := X3.size; omega) (Nat.le_refl _)
      refine HW.ret ?_
      exact RT.two rfl e4 e5 ⟨a5, c5, rfl, B5.low X3.size, X5⟩
    · rw [decide_eq_false hb8] at e10
      have hWn : writeN N m = ([], false) := by unfold writeN; rw [if_neg ho, if_neg hb8]
      rw [hWn]
      -- region 12
      repeat refine HW.seq ?_
      refine HW.region ?_
      refine HL.still (Runs.move e10) ?_
      intro u55 e55
      refine HL.still (Runs.notb e55 (t := false) (u := true) rfl) ?_
      intro u56 e56
      refine HL.nil ?_
      repeat refine HW.seq ?_
      refine HW.yes ?_ ?_
      exact e56
      -- region 13
      repeat refine HW.seq ?_
      refine HW.region ?_
      refine HL.still (Runs.assign rfl) ?_
      intro u4 e4
      refine HL.still (Runs.assign rfl) ?_
      intro u5 e5
      refine HL.nil ?_
      refine HW.ret ?_
      exact RT.two rfl e4 e5 ⟨none, 0, rfl, Bs.start _ _ _, X3⟩
theorem write_ch (h : Heap) (n size : Int) : CH Tryd.prog 16 #[.int .i64 n, .int .i64 size] h (Gives h (writeO n size)) :=
  (writeB_ch h n size).mono fun _ _ ⟨a, c, q1, q2, q3⟩ => ⟨a, c, q1, q2.byt, q2.2, q3⟩
end Go.Proofs.YtfogkggkjmkdiaaDoor
