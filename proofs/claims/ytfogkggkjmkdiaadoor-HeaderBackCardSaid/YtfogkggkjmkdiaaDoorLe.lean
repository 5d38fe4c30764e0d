/- onionskinlaw05.OctalBlanks returns true. -/
import Derived.Test.YtfogkggkjmkdiaaDoorLd
namespace Go.Proofs.YtfogkggkjmkdiaaDoor
set_option linter.unnecessarySimpa false
set_option linter.unusedSimpArgs false
set_option linter.unusedVariables false
open Go.RowKit
/-- A digit's letter. -/
def ltr (c : UInt8) : UInt8 := UInt8.ofNat (c.toNat % 8 + 48)
theorem ltr_isO (c : UInt8) : isO (ltr c) = true := let_isO _ (Nat.mod_lt _ (by decide))
theorem ltr_val (c : UInt8) : IntKind.u8.wrap (48 + ((c.toNat % 8 : Nat) : Int)) = ((ltr c).toNat : Int) := by
  have := Nat.mod_lt c.toNat (show 0 < 8 by decide)
  rw [ltr, let_toNat _ this, u8w (by omega)]
  omega
theorem rem8 (c : UInt8) : ((c.toNat : Int)).tmod 8 = ((c.toNat % 8 : Nat) : Int) := by
  rw [Int.tmod_eq_emod_of_nonneg (by omega)]
  omega
theorem ltrs_step (xs : List UInt8) (i : Nat) (h : i < xs.length) : (xs.map ltr).take (i + 1) = (xs.map ltr).take i ++ [ltr (xs.getD i 0)] := by
  rw [List.take_add_one, List.getElem?_eq_getElem (by simpa using h)]
  simp [List.getElem?_eq_getElem h]
theorem rep_step (j : Nat) (c : UInt8) : List.replicate (j + 1) c = List.replicate j c ++ [c] := List.replicate_succ'
/-- Both fields are read as the digits. -/
theorem blanks_read (xs : List UInt8) (n m : Nat) (c : UInt8) (hc : isPad c = true) (h1 : xs ≠ []) (h2 : xs.length ≤ 20) :
    (readO (xs.map ltr)).2 = true ∧ readO ((List.replicate n 32 ++ xs.map ltr) ++ List.replicate m c) = readO (xs.map ltr) := by
  have hne : xs.map ltr ≠ [] := fun e => h1 (List.map_eq_nil_iff.1 e)
  have hds : ∀ x ∈ xs.map ltr, isO x = true := by
    intro x hx
    obtain ⟨y, _, rfl⟩ := List.mem_map.1 hx
    exact ltr_isO y
  have hok : (goO 0 (xs.map ltr)).2 = true := goO_fits _ 0 1 hds (by decide) (by
    rw [List.length_map]
    have := Nat.pow_le_pow_right (show 0 < 8 by decide) h2
    exact Nat.le_trans (Nat.mul_le_mul_left 1 this) (by decide))
  have e1 := readO_digits 0 (xs.map ltr) [] hne hds rfl hok
  rw [List.replicate_zero, List.nil_append, List.append_nil] at e1
  have e2 := readO_digits n (xs.map ltr) (List.replicate m c) hne hds (by
    rw [List.all_eq_true]
    intro x hx
    rw [(List.mem_replicate.1 hx).2]
    exact hc) hok
  rw [List.append_assoc, e1, e2]
  exact ⟨rfl, rfl⟩
set_option maxRecDepth 10000 in
theorem lawBlanks_ch (h : Heap) (xs : List UInt8) (a : Option Addr) (cap : Nat) (n m : Int) (zero : Bool) (hsrc : Byt h a xs) (hcap : xs.length ≤ cap) :
    CH Tryd.prog 6 #[.slice a xs.length cap, .int .i64 n, .int .i64 m, .bool zero] h fun v h' => v = .bool true ∧ Ext h h' := by
  refine CH.of_body Tryd.func6 rfl rfl rfl ?_
  intro f hf
  have p0 : f 0 = .slice a xs.length cap := by rw [hf]; exact fr0_at rfl
  have p1 : f 1 = .int .i64 n := by rw [hf]; exact fr0_at rfl
  have p2 : f 2 = .int .i64 m := by rw [hf]; exact fr0_at rfl
  have p3 : f 3 = .bool zero := by rw [hf]; exact fr0_at rfl
  -- region 0
  repeat refine HW.seq ?_
  refine HW.region ?_
  refine HL.still (Runs.assign rfl) ?_
  intro u8 e8
  refine HL.nil ?_
  -- region 1
  repeat refine HW.seq ?_
  refine HW.region ?_
  refine HL.one (HO.call Tryd.func13 bd13 nm13 (args0) rfl ((small5_ch _).mono ?_))
  rintro _ h1 ⟨rfl, E1⟩
  intro u19 e19
  refine HL.still (Runs.assign e19) ?_
  intro u9 e9
  refine HL.nil ?_
  -- region 2
  repeat refine HW.seq ?_
  refine HW.region ?_
  refine HL.still (Runs.move p0) ?_
  intro u20 e20
  refine HL.still (Runs.lenSl rfl Tryd.underlying22 e20) ?_
  intro u21 e21
  refine HL.still (Runs.gtr e21 rfl rfl) ?_
  intro u22 e22
  refine HL.still (Runs.move e22) ?_
  intro u23 e23
  refine HL.anyG rfl rfl e23 (fun hg => Runs.move p0) ?_
  intro u24 e24
  refine HL.anyG rfl rfl e23 (fun hg => Runs.lenSl rfl Tryd.underlying22 (e24.trans (if_pos hg))) ?_
  intro u25 e25
  refine HL.anyG rfl rfl e23 (fun hg => Runs.eql (e25.trans (if_pos hg)) rfl rfl) ?_
  intro u26 e26
  refine HL.still (Runs.pick e23 (or_pick e26)) ?_
  intro u27 e27
  refine HL.still (Runs.move e27) ?_
  intro u28 e28
  refine HL.anyG rfl rfl e28 (fun hg => Runs.move p1) ?_
  intro u29 e29
  refine HL.anyG rfl rfl e28 (fun hg => Runs.lss (e29.trans (if_pos hg)) rfl rfl) ?_
  intro u30 e30
  refine HL.still (Runs.pick e28 (or_pick e30)) ?_
  intro u31 e31
  refine HL.still (Runs.move e31) ?_
  intro u32 e32
  refine HL.anyG rfl rfl e32 (fun hg => Runs.move p1) ?_
  intro u33 e33
  refine HL.anyG rfl rfl e32 (fun hg => Runs.gtr (e33.trans (if_pos hg)) rfl rfl) ?_
  intro u34 e34
  refine HL.still (Runs.pick e32 (or_pick e34)) ?_
  intro u35 e35
  refine HL.still (Runs.move e35) ?_
  intro u36 e36
  refine HL.anyG rfl rfl e36 (fun hg => Runs.move p2) ?_
  intro u37 e37
  refine HL.anyG rfl rfl e36 (fun hg => Runs.lss (e37.trans (if_pos hg)) rfl rfl) ?_
  intro u38 e38
  refine HL.still (Runs.pick e36 (or_pick e38)) ?_
  intro u39 e39
  refine HL.still (Runs.move e39) ?_
  intro u40 e40
  refine HL.anyG rfl rfl e40 (fun hg => Runs.move p2) ?_
  intro u41 e41
  refine HL.anyG rfl rfl e40 (fun hg => Runs.gtr (e41.trans (if_pos hg)) rfl rfl) ?_
  intro u42 e42
  refine HL.still (Runs.pick e40 (or_pick e42)) ?_
  intro u43 e43
  refine HL.nil ?_
  by_cases hc : (((((decide ((xs.length : Int) > 20) || ((xs.length : Int) == 0)) || decide (n < 0)) || decide (n > 20)) || decide (m < 0)) || decide (m > 20)) = true
  · repeat refine HW.seq ?_
    refine HW.yes (e43.trans (congrArg Value.bool hc)) ?_
    -- region 3
    repeat refine HW.seq ?_
    refine HW.region ?_
    refine HL.still (Runs.move e9) ?_
    intro u44 e44
    refine HL.still (Runs.assign e44) ?_
    intro u8 e8
    refine HL.nil ?_
    refine HW.ret ?_
    exact RT.one rfl e8 ⟨rfl, E1⟩
  repeat refine HW.seq ?_
  refine HW.no (e43.trans (congrArg Value.bool (Bool.eq_false_iff.2 hc))) ?_
  refine HW.skip ?_
  simp only [Bool.or_eq_true, decide_eq_true_eq, beq_iff_eq] at hc
  obtain ⟨N, rfl⟩ : ∃ N : Nat, n = (N : Int) := ⟨n.toNat, by omega⟩
  obtain ⟨M, rfl⟩ : ∃ M : Nat, m = (M : Int) := ⟨m.toNat, by omega⟩
  have hpos : 0 < xs.length := by omega
  obtain ⟨sb, so, ha, _⟩ := hsrc.at (k := 0) hpos
  have hcl : ∀ k, k < xs.length → cellH h sb (so + k) = some (B8 (xs.getD k 0)) := fun k hk => by
    obtain ⟨sb', so', ha', hc'⟩ := hsrc.at hk
    rw [ha] at ha'
    cases ha'
    exact hc'
  rw [ha] at p0
  -- region 4
  repeat refine HW.seq ?_
  refine HW.region ?_
  refine HL.still (Runs.assign rfl) ?_
  intro u10 e10
  refine HL.nil ?_
  -- region 5
  repeat refine HW.seq ?_
  refine HW.region ?_
  refine HL.still (Runs.assign rfl) ?_
  intro u11 e11
  refine HL.nil ?_
  repeat refine HW.seq ?_
  refine HW.block ?_
  refine HW.loop (fun c f u => ∃ i : Nat, i ≤ xs.length ∧ c = xs.length - i ∧ f 11 = I64 i ∧ f 0 = .slice (some ⟨sb, so, none⟩) xs.length cap ∧ f 1 = I64 N ∧ f 2 = I64 M ∧ f 3 = .bool zero ∧ f 9 = .bool true ∧ Ext h1 u ∧ ∃ a' c', f 10 = .slice a' ((xs.map ltr).take i).length c' ∧ Bs u h1.size 5 a' c' ((xs.map ltr).take i)) xs.length
    ⟨0, Nat.zero_le _, rfl, e11, p0, p1, p2, p3, e9, Bel.refl _ _, none, 0, e10, Bs.start _ _ _⟩ ?_
  clear e8 e9 e10 e11
  rintro c f u ⟨i, hi, hc', f11, f0, f1, f2, f3, f9, hX, a', c', f10, hB⟩
  have hpl : ((xs.map ltr).take i).length = i := by simp; omega
  have hu := hX.size
  by_cases hlt : i < xs.length
  · have hci := (cellH_keep (E1.old sb (lt_of_cellH (hcl i hlt)))).trans (hcl i hlt)
    have hci := (cellH_keep (hX.old sb (lt_of_cellH hci))).trans hci
    -- region 6
    repeat refine HW.seq ?_
    refine HW.region ?_
    refine HL.still (Runs.move f11) ?_
    intro u45 e45
    refine HL.still (Runs.move f0) ?_
    intro u46 e46
    refine HL.still (Runs.lenSl rfl Tryd.underlying22 e46) ?_
    intro u47 e47
    refine HL.still (Runs.lss e45 e47 rfl) ?_
    intro u48 e48
    refine HL.nil ?_
    repeat refine HW.seq ?_
    refine HW.yes ?_ ?_
    exact e48.trans (congrArg Value.bool (decide_eq_true (by omega)))
    refine HW.skip ?_
    repeat refine HW.seq ?_
    refine HW.block ?_
    -- region 8
    repeat refine HW.seq ?_
    refine HW.region ?_
    refine HL.still (Runs.move f10) ?_
    intro u51 e51
    refine HL.still (Runs.move f0) ?_
    intro u52 e52
    refine HL.still (Runs.move f11) ?_
    intro u53 e53
    refine HL.still (Runs.ixSl (o' := so + i) Tryd.underlying22 sz5 e52 e53 (by omega) (by omega) (by omega)) ?_
    intro u54 e54
    refine HL.still (Runs.load Tryd.underlying5 rfl e54 hci) ?_
    intro u55 e55
    refine HL.still (Runs.rem e55 rfl (by decide) (rem8 _)) ?_
    intro u56 e56
    refine HL.still (Runs.add rfl e56 (ltr_val _)) ?_
    intro u57 e57
    refine HL.one (HO.bytes1 _ e57 ?_)
    intro h3 w3
    intro u58 e58
    refine HL.one (HO.app Tryd.underlying22 in5 rfl e51 e58 rfl rfl (hB.ext w3.ext) (byt_block w3.new) (by rw [hpl]; simp; omega) (by rw [w3.size]; omega) ?_)
    intro a5 c5 h5 B5 G5
    intro u59 e59
    refine HL.still (Runs.assign e59) ?_
    intro u10 e10
    refine HL.nil ?_
    have X5 : Ext h1 h5 := G5.bel (hX.nw w3 (Nat.le_refl _)) (hB.ext w3.ext) (Nat.le_refl _) (Nat.le_refl _)
    rw [← ltrs_step xs i hlt] at B5 e10
    -- region 7
    repeat refine HW.seq ?_
    refine HW.region ?_
    refine HL.still (Runs.move f11) ?_
    intro u49 e49
    refine HL.still (Runs.add e49 rfl (i64w (by omega))) ?_
    intro u50 e50
    refine HL.still (Runs.assign e50) ?_
    intro u11 e11
    refine HL.nil ?_
    exact ⟨xs.length - (i + 1), by omega, i + 1, by omega, rfl, e11, f0, f1, f2, f3, f9, X5, a5, c5, e10, B5⟩
  have hil : i = xs.length := by omega
  subst hil
  rw [List.take_of_length_le (by simp)] at f10 hB hpl
  -- region 6
  repeat refine HW.seq ?_
  refine HW.region ?_
  refine HL.still (Runs.move f11) ?_
  intro u45 e45
  refine HL.still (Runs.move f0) ?_
  intro u46 e46
  refine HL.still (Runs.lenSl rfl Tryd.underlying22 e46) ?_
  intro u47 e47
  refine HL.still (Runs.lss e45 e47 rfl) ?_
  intro u48 e48
  refine HL.nil ?_
  repeat refine HW.seq ?_
  refine HW.no ?_ ?_
  exact e48.trans (congrArg Value.bool (decide_eq_false (by omega)))
  refine HW.exitHere ?_
  have hBy := hB.byt
  have hd10 := hB.2
  -- region 9
  repeat refine HW.seq ?_
  refine HW.region ?_
  refine HL.still (Runs.assign rfl) ?_
  intro u12 e12
  refine HL.nil ?_
  -- region 10
  repeat refine HW.seq ?_
  refine HW.region ?_
  refine HL.still (Runs.assign rfl) ?_
  intro u13 e13
  refine HL.nil ?_
  repeat refine HW.seq ?_
  refine HW.block ?_
  refine HW.loop (fun c f v => ∃ j : Nat, j ≤ N ∧ c = N - j ∧ f 13 = I64 j ∧ f 1 = I64 N ∧ f 2 = I64 M ∧ f 3 = .bool zero ∧ f 9 = .bool true ∧ f 10 = .slice a' (xs.map ltr).length c' ∧ Ext u v ∧ ∃ a2 c2, f 12 = .slice a2 (List.replicate j (32 : UInt8)).length c2 ∧ Bs v u.size 5 a2 c2 (List.replicate j 32)) N
    ⟨0, Nat.zero_le _, rfl, e13, f1, f2, f3, f9, f10, Bel.refl _ _, none, 0, e12, Bs.start _ _ _⟩ ?_
  clear e12 e13 f0 f1 f2 f3 f9 f10 f11
  rintro c f v ⟨j, hj, hc', f13, f1, f2, f3, f9, f10, hY, a2, c2, f12, hB2⟩
  have hv := hY.size
  by_cases hlt2 : j < N
  · skip
    -- region 11
    repeat refine HW.seq ?_
    refine HW.region ?_
    refine HL.still (Runs.move f13) ?_
    intro u60 e60
    refine HL.still (Runs.move f1) ?_
    intro u61 e61
    refine HL.still (Runs.lss e60 e61 rfl) ?_
    intro u62 e62
    refine HL.nil ?_
    repeat refine HW.seq ?_
    refine HW.yes ?_ ?_
    exact e62.trans (congrArg Value.bool (decide_eq_true (by omega)))
    refine HW.skip ?_
    repeat refine HW.seq ?_
    refine HW.block ?_
    -- region 13
    repeat refine HW.seq ?_
    refine HW.region ?_
    refine HL.still (Runs.move f12) ?_
    intro u65 e65
    refine HL.one (HO.bytes1 32 rfl ?_)
    intro h3 w3
    intro u66 e66
    refine HL.one (HO.app Tryd.underlying22 in5 rfl e65 e66 rfl rfl (hB2.ext w3.ext) (byt_block w3.new) (by simp; omega) (by rw [w3.size]; omega) ?_)
    intro a5 c5 h5 B5 G5
    intro u67 e67
    refine HL.still (Runs.assign e67) ?_
    intro u12 e12
    refine HL.nil ?_
    have X5 : Ext u h5 := G5.bel (hY.nw w3 (Nat.le_refl _)) (hB2.ext w3.ext) (Nat.le_refl _) (Nat.le_refl _)
    rw [← rep_step] at B5 e12
    -- region 12
    repeat refine HW.seq ?_
    refine HW.region ?_
    refine HL.still (Runs.move f13) ?_
    intro u63 e63
    refine HL.still (Runs.add e63 rfl (i64w (by omega))) ?_
    intro u64 e64
    refine HL.still (Runs.assign e64) ?_
    intro u13 e13
    refine HL.nil ?_
    exact ⟨N - (j + 1), by omega, j + 1, by omega, rfl, e13, f1, f2, f3, f9, f10, X5, a5, c5, e12, B5⟩
  have hjl : j = N := by omega
  subst hjl
  -- region 11
  repeat refine HW.seq ?_
  refine HW.region ?_
  refine HL.still (Runs.move f13) ?_
  intro u60 e60
  refine HL.still (Runs.move f1) ?_
  intro u61 e61
  refine HL.still (Runs.lss e60 e61 rfl) ?_
  intro u62 e62
  refine HL.nil ?_
  repeat refine HW.seq ?_
  refine HW.no ?_ ?_
  exact e62.trans (congrArg Value.bool (decide_eq_false (by omega)))
  refine HW.exitHere ?_
  have hX1 : Ext h v := (E1.ext hX (Nat.le_refl _)).ext hY (Nat.le_refl _)
  -- region 14
  repeat refine HW.seq ?_
  refine HW.region ?_
  refine HL.still (Runs.move f12) ?_
  intro u68 e68
  refine HL.still (Runs.move f10) ?_
  intro u69 e69
  refine HL.one (HO.app Tryd.underlying22 in5 rfl e68 e69 rfl rfl hB2 (hBy.ext hY) (by simp; omega) hv ?_)
  intro a6 c6 h6 B6 G6
  intro u70 e70
  refine HL.still (Runs.assign e70) ?_
  intro u12 e12
  refine HL.nil ?_
  have Y6 : Ext u h6 := G6.bel hY hB2 (Nat.le_refl _) (Nat.le_refl _)
  obtain ⟨pd, hpd⟩ : ∃ pd : UInt8, pd = if zero = true then 0 else 32 := ⟨_, rfl⟩
  have hpp : isPad pd = true := by rw [hpd]; cases zero <;> rfl
  -- region 15
  repeat refine HW.seq ?_
  refine HW.region ?_
  refine HL.still (Runs.assign rfl) ?_
  intro u14 e14
  refine HL.nil ?_
  repeat refine HW.seq ?_
  refine HW.block ?_
  refine HW.loop (fun c f v => ∃ k : Nat, k ≤ M ∧ c = M - k ∧ f 14 = I64 k ∧ f 2 = I64 M ∧ f 3 = .bool zero ∧ f 9 = .bool true ∧ f 10 = .slice a' (xs.map ltr).length c' ∧ Ext u v ∧ ∃ a2 c2, f 12 = .slice a2 (List.replicate j (32 : UInt8) ++ xs.map ltr ++ List.replicate k pd).length c2 ∧ Bs v u.size 5 a2 c2 (List.replicate j 32 ++ xs.map ltr ++ List.replicate k pd)) M
    ⟨0, Nat.zero_le _, rfl, e14, f2, f3, f9, f10, Y6, a6, c6, by rw [List.replicate_zero, List.append_nil]; exact e12, by rw [List.replicate_zero, List.append_nil]; exact B6⟩ ?_
  clear e12 e14 f1 f2 f3 f9 f10 f12 f13 hY hB2 hX1
  rintro c f v ⟨k, hk, hc', f14, f2, f3, f9, f10, hY, a2, c2, f12, hB2⟩
  have hv := hY.size
  have hfl : (List.replicate j (32 : UInt8) ++ xs.map ltr ++ List.replicate k pd).length = j + xs.length + k := by rw [List.length_append, List.length_append, List.length_replicate, List.length_replicate, List.length_map]
  by_cases hlt3 : k < M
  · skip
    -- region 16
    repeat refine HW.seq ?_
    refine HW.region ?_
    refine HL.still (Runs.move f14) ?_
    intro u71 e71
    refine HL.still (Runs.move f2) ?_
    intro u72 e72
    refine HL.still (Runs.lss e71 e72 rfl) ?_
    intro u73 e73
    refine HL.nil ?_
    repeat refine HW.seq ?_
    refine HW.yes ?_ ?_
    exact e73.trans (congrArg Value.bool (decide_eq_true (by omega)))
    refine HW.skip ?_
    repeat refine HW.seq ?_
    refine HW.block ?_
    -- region 18
    repeat refine HW.seq ?_
    refine HW.region ?_
    refine HL.still (Runs.move f3) ?_
    intro u76 e76
    refine HL.nil ?_
    repeat refine HW.seq ?_
    cases zero with
    | true =>
      refine HW.yes e76 ?_
      obtain rfl : pd = 0 := hpd
      -- region 19
      repeat refine HW.seq ?_
      refine HW.region ?_
      refine HL.still (Runs.move f12) ?_
      intro u77 e77
      refine HL.one (HO.bytes1 0 rfl ?_)
      intro h3 w3
      intro u78 e78
      refine HL.one (HO.app Tryd.underlying22 in5 rfl e77 e78 rfl rfl (hB2.ext w3.ext) (byt_block w3.new) (by rw [hfl]; simp; omega) (by rw [w3.size]; omega) ?_)
      intro a5 c5 h5 B5 G5
      intro u79 e79
      refine HL.still (Runs.assign e79) ?_
      intro u12 e12
      refine HL.nil ?_
      have X5 : Ext u h5 := G5.bel (hY.nw w3 (Nat.le_refl _)) (hB2.ext w3.ext) (Nat.le_refl _) (Nat.le_refl _)
      rw [List.append_assoc, ← rep_step] at B5 e12
      -- region 17
      repeat refine HW.seq ?_
      refine HW.region ?_
      refine HL.still (Runs.move f14) ?_
      intro u74 e74
      refine HL.still (Runs.add e74 rfl (i64w (by omega))) ?_
      intro u75 e75
      refine HL.still (Runs.assign e75) ?_
      intro u14 e14
      refine HL.nil ?_
      exact ⟨M - (k + 1), by omega, k + 1, by omega, rfl, e14, f2, f3, f9, f10, X5, a5, c5, e12, B5⟩
    | false =>
      refine HW.no e76 ?_
      obtain rfl : pd = 32 := hpd
      -- region 20
      repeat refine HW.seq ?_
      refine HW.region ?_
      refine HL.still (Runs.move f12) ?_
      intro u80 e80
      refine HL.one (HO.bytes1 32 rfl ?_)
      intro h3 w3
      intro u81 e81
      refine HL.one (HO.app Tryd.underlying22 in5 rfl e80 e81 rfl rfl (hB2.ext w3.ext) (byt_block w3.new) (by rw [hfl]; simp; omega) (by rw [w3.size]; omega) ?_)
      intro a5 c5 h5 B5 G5
      intro u82 e82
      refine HL.still (Runs.assign e82) ?_
      intro u12 e12
      refine HL.nil ?_
      have X5 : Ext u h5 := G5.bel (hY.nw w3 (Nat.le_refl _)) (hB2.ext w3.ext) (Nat.le_refl _) (Nat.le_refl _)
      rw [List.append_assoc, ← rep_step] at B5 e12
      -- region 17
      repeat refine HW.seq ?_
      refine HW.region ?_
      refine HL.still (Runs.move f14) ?_
      intro u74 e74
      refine HL.still (Runs.add e74 rfl (i64w (by omega))) ?_
      intro u75 e75
      refine HL.still (Runs.assign e75) ?_
      intro u14 e14
      refine HL.nil ?_
      exact ⟨M - (k + 1), by omega, k + 1, by omega, rfl, e14, f2, f3, f9, f10, X5, a5, c5, e12, B5⟩
  have hkl : k = M := by omega
  subst hkl
  -- region 16
  repeat refine HW.seq ?_
  refine HW.region ?_
  refine HL.still (Runs.move f14) ?_
  intro u71 e71
  refine HL.still (Runs.move f2) ?_
  intro u72 e72
  refine HL.still (Runs.lss e71 e72 rfl) ?_
  intro u73 e73
  refine HL.nil ?_
  repeat refine HW.seq ?_
  refine HW.no ?_ ?_
  exact e73.trans (congrArg Value.bool (decide_eq_false (by omega)))
  refine HW.exitHere ?_
  obtain ⟨r1, r2⟩ := blanks_read xs j k pd hpp (List.length_pos_iff.1 hpos) (by omega)
  have hX1 : Ext h v := (E1.ext hX (Nat.le_refl _)).ext hY (Nat.le_refl _)
  have hdl : (xs.map ltr).length = xs.length := List.length_map _
  -- region 21
  repeat refine HW.seq ?_
  refine HW.region ?_
  refine HL.still (Runs.move f10) ?_
  intro u84 e84
  refine HL.one (HO.call Tryd.func14 bd14 nm14 (args1 e84) rfl ((read_ch v (xs.map ltr) a' c' (hBy.ext hY) hd10 (by omega)).mono ?_))
  rintro _ h7 ⟨rfl, E7⟩
  intro u85 e85
  refine HL.still (Runs.move e85) ?_
  intro u83 e83
  refine HL.still (Runs.extr e83 rfl) ?_
  intro u86 e86
  refine HL.still (Runs.extr e83 rfl) ?_
  intro u87 e87
  refine HL.still (Runs.assign e86) ?_
  intro u15 e15
  refine HL.still (Runs.assign e87) ?_
  intro u16 e16
  refine HL.nil ?_
  -- region 22
  repeat refine HW.seq ?_
  refine HW.region ?_
  refine HL.still (Runs.move f12) ?_
  intro u89 e89
  refine HL.one (HO.call Tryd.func14 bd14 nm14 (args1 e89) rfl ((read_ch h7 _ a2 c2 (hB2.byt.ext E7) hB2.2 (by omega)).mono ?_))
  rintro _ h8 ⟨rfl, E8⟩
  intro u90 e90
  refine HL.still (Runs.move e90) ?_
  intro u88 e88
  refine HL.still (Runs.extr e88 rfl) ?_
  intro u91 e91
  refine HL.still (Runs.extr e88 rfl) ?_
  intro u92 e92
  refine HL.still (Runs.assign e91) ?_
  intro u17 e17
  refine HL.still (Runs.assign e92) ?_
  intro u18 e18
  refine HL.nil ?_
  have g16 := e16.trans (show Value.bool _ = .bool true from congrArg Value.bool r1)
  have g18 := e18.trans (show Value.bool _ = .bool true from congrArg Value.bool (by rw [r2]; exact r1))
  -- region 23
  repeat refine HW.seq ?_
  refine HW.region ?_
  refine HL.still (Runs.move f9) ?_
  intro u93 e93
  refine HL.still (Runs.move e93) ?_
  intro u94 e94
  refine HL.stillG rfl rfl e94 (Runs.move g16) ?_
  intro u95 e95
  refine HL.still (Runs.pick e94 e95) ?_
  intro u96 e96
  refine HL.still (Runs.move e96) ?_
  intro u97 e97
  refine HL.stillG rfl rfl e97 (Runs.move g18) ?_
  intro u98 e98
  refine HL.still (Runs.pick e97 e98) ?_
  intro u99 e99
  refine HL.still (Runs.move e99) ?_
  intro u100 e100
  refine HL.stillG rfl rfl e100 (Runs.move e15) ?_
  intro u101 e101
  refine HL.stillG rfl rfl e100 (Runs.move e17) ?_
  intro u102 e102
  refine HL.stillG rfl rfl e100 (Runs.eql e101 e102 (t := true) (by rw [r2]; exact beq_self_eq_true _)) ?_
  intro u103 e103
  refine HL.still (Runs.pick e100 e103) ?_
  intro u104 e104
  refine HL.still (Runs.assign e104) ?_
  intro u8 e8
  refine HL.nil ?_
  refine HW.ret ?_
  exact RT.one rfl e8 ⟨rfl, (hX1.ext E7 (Nat.le_refl _)).ext E8 (Nat.le_refl _)⟩
end Go.Proofs.YtfogkggkjmkdiaaDoor
