/- onionskinlaw01.ShaPieces returns true. -/
import Derived.Test.YtbfmkjfpialihaaLc
namespace Go.Proofs.Ytbfmkjfpialihaa
set_option linter.unnecessarySimpa false
set_option linter.unusedSimpArgs false
set_option linter.unusedVariables false
open Go.RowKit
/-- The bytes of the first i pieces. -/
def cat (l : List (Option Addr × Nat × List UInt8)) (i : Nat) : List UInt8 := ((l.take i).map fun x => x.2.2).flatten
theorem cat_succ {l : List (Option Addr × Nat × List UInt8)} {i : Nat} {b : Option Addr} {c : Nat} {xs : List UInt8} (h : l[i]? = some (b, c, xs)) : cat l (i + 1) = cat l i ++ xs := by
  unfold cat
  rw [List.take_add_one, h]
  simp
theorem Bs.exb {h h' : Heap} {base b : Nat} {e : TypeId} {a : Option Addr} {cap : Nat} {xs : List UInt8} (x : Bs h base e a cap xs) (k : ExB b h h') (hb : b < base) : Bs h' base e a cap xs :=
  ⟨x.1.keep fun j hj => k.old j (x.1.lt j hj).2 (by have := (x.1.lt j hj).1; omega), x.2⟩
theorem ExB.wr {b j : Nat} {h u u' : Heap} {o : Obj} (x : ExB b h u) (w : Wr u u' j o) (hj : h.size ≤ j) : ExB b h u' := ⟨by rw [w.size]; exact x.size, fun i hi hne => (w.old i (by omega)).trans (x.old i hi hne)⟩
theorem ExB.gra {b base : Nat} {h u u' : Heap} {e : TypeId} {a : Option Addr} {cap : Nat} {xs : List UInt8} (x : ExB b h u) (g : GrA u u' a) (y : Bs u base e a cap xs) (hb : h.size ≤ base) : ExB b h u' :=
  ⟨Nat.le_trans x.size g.size, fun i hi hne => (g.old y (by omega) (by have := x.size; omega)).trans (x.old i hi hne)⟩
theorem SHA_ne (xs : List UInt8) : (!(SHA xs == SHA xs)) = false := by simp
set_option maxRecDepth 10000 in
theorem lawPieces_ch (h : Heap) (l : List (Option Addr × Nat × List UInt8)) (a : Option Addr) (cap : Nat) (hL : Byts h a l) (hcap : l.length ≤ cap) :
    CH Try.prog 4 #[.slice a l.length cap] h fun v h' => v = .bool true ∧ Ext h h' := by
  refine CH.of_body Try.func4 rfl rfl rfl ?_
  intro f hf
  have p0 : f 0 = .slice a l.length cap := by rw [hf]; exact fr0_at rfl
  -- region 0
  repeat refine HW.seq ?_
  refine HW.region ?_
  refine HL.still (Runs.assign rfl) ?_
  intro u2 e2
  refine HL.nil ?_
  -- region 1
  repeat refine HW.seq ?_
  refine HW.region ?_
  refine HL.one (HO.call Try.func13 bd13 nm13 (args0) rfl ((small_ch _).mono ?_))
  rintro _ h1 ⟨rfl, E1⟩
  intro u9 e9
  refine HL.still (Runs.assign e9) ?_
  intro u3 e3
  refine HL.nil ?_
  -- region 2
  repeat refine HW.seq ?_
  refine HW.region ?_
  refine HL.one (HO.call Try.func16 bd16 nm16 (args0) rfl ((new_ch _).mono ?_))
  rintro _ h2 ⟨rfl, hX2, E2⟩
  intro u10 e10
  refine HL.still (Runs.assign e10) ?_
  intro u4 e4
  refine HL.nil ?_
  have z1 := E1.size
  have z2 := E2.size
  have l2 := hX2.lt
  have X2 : Ext h h2 := E1.ext E2 (Nat.le_refl _)
  by_cases hbig : l.length > 30
  · skip
    -- region 3
    repeat refine HW.seq ?_
    refine HW.region ?_
    refine HL.still (Runs.move e4) ?_
    intro u11 e11
    refine HL.still (Runs.eqNil Try.underlying29 e11 rfl) ?_
    intro u12 e12
    refine HL.still (Runs.move e12) ?_
    intro u13 e13
    refine HL.stillG rfl rfl e13 (Runs.move p0) ?_
    intro u14 e14
    refine HL.stillG rfl rfl e13 (Runs.lenSl rfl Try.underlying28 e14) ?_
    intro u15 e15
    refine HL.stillG rfl rfl e13 (Runs.gtr e15 rfl (t := true) (decide_eq_true (by omega))) ?_
    intro u16 e16
    refine HL.still (Runs.pick e13 e16) ?_
    intro u17 e17
    refine HL.nil ?_
    repeat refine HW.seq ?_
    refine HW.yes ?_ ?_
    exact e17
    -- region 4
    repeat refine HW.seq ?_
    refine HW.region ?_
    refine HL.still (Runs.move e3) ?_
    intro u18 e18
    refine HL.still (Runs.move e18) ?_
    intro u19 e19
    refine HL.stillG rfl rfl e19 (Runs.move e4) ?_
    intro u20 e20
    refine HL.stillG rfl rfl e19 (Runs.neqNil Try.underlying29 e20 rfl) ?_
    intro u21 e21
    refine HL.still (Runs.pick e19 e21) ?_
    intro u22 e22
    refine HL.still (Runs.assign e22) ?_
    intro u2 e2
    refine HL.nil ?_
    refine HW.ret ?_
    exact RT.one rfl e2 ⟨rfl, X2⟩
  · skip
    -- region 3
    repeat refine HW.seq ?_
    refine HW.region ?_
    refine HL.still (Runs.move e4) ?_
    intro u11 e11
    refine HL.still (Runs.eqNil Try.underlying29 e11 rfl) ?_
    intro u12 e12
    refine HL.still (Runs.move e12) ?_
    intro u13 e13
    refine HL.stillG rfl rfl e13 (Runs.move p0) ?_
    intro u14 e14
    refine HL.stillG rfl rfl e13 (Runs.lenSl rfl Try.underlying28 e14) ?_
    intro u15 e15
    refine HL.stillG rfl rfl e13 (Runs.gtr e15 rfl (t := false) (decide_eq_false (by omega))) ?_
    intro u16 e16
    refine HL.still (Runs.pick e13 e16) ?_
    intro u17 e17
    refine HL.nil ?_
    repeat refine HW.seq ?_
    refine HW.no ?_ ?_
    exact e17
    refine HW.skip ?_
    -- region 5
    repeat refine HW.seq ?_
    refine HW.region ?_
    refine HL.still (Runs.assign rfl) ?_
    intro u5 e5
    refine HL.nil ?_
    -- region 6
    repeat refine HW.seq ?_
    refine HW.region ?_
    refine HL.still (Runs.assign rfl) ?_
    intro u6 e6
    refine HL.nil ?_
    repeat refine HW.seq ?_
    refine HW.block ?_
    refine HW.loop (fun m f g => ∃ i : Nat, i ≤ l.length ∧ m = l.length - i ∧ f 6 = I64 i ∧ f 0 = .slice a l.length cap ∧ f 3 = .bool true ∧ f 4 = .pointer (some ⟨h1.size, 0, none⟩) ∧ ∃ a' c', f 5 = .slice a' (cat l i).length c' ∧ Bs g h2.size 5 a' c' (cat l i) ∧ (cat l i).length ≤ 300 * i ∧
      HashAt g h1.size (cat l i) ∧ Ext h g ∧ h2.size ≤ g.size) l.length
      ⟨0, Nat.zero_le _, rfl, e6, p0, e3, e4, none, 0, e5, Bs.start _ _ _, Nat.zero_le _, hX2, X2, Nat.le_refl _⟩ ?_
    clear e3 e4 e5 e6 p0
    rintro m f g ⟨i, hi, hm, f6, f0, f3, f4, a', c', f5, hA, hAl, hH, hX, hg2⟩
    by_cases hlt : i < l.length
    · obtain ⟨sb, so, ha, b, c, ys, hy, hcell, hbyt, hle⟩ := (hL.ext hX).at hlt
      rw [ha] at f0
      -- region 7
      repeat refine HW.seq ?_
      refine HW.region ?_
      refine HL.still (Runs.move f6) ?_
      intro u23 e23
      refine HL.still (Runs.move f0) ?_
      intro u24 e24
      refine HL.still (Runs.lenSl rfl Try.underlying28 e24) ?_
      intro u25 e25
      refine HL.still (Runs.lss e23 e25 rfl) ?_
      intro u26 e26
      refine HL.nil ?_
      repeat refine HW.seq ?_
      refine HW.yes ?_ ?_
      exact e26.trans (congrArg Value.bool (decide_eq_true (by omega)))
      refine HW.skip ?_
      repeat refine HW.seq ?_
      refine HW.block ?_
      -- region 9
      repeat refine HW.seq ?_
      refine HW.region ?_
      refine HL.still (Runs.move f0) ?_
      intro u29 e29
      refine HL.still (Runs.move f6) ?_
      intro u30 e30
      refine HL.still (Runs.ixSl (o' := so + i) Try.underlying28 sz22 e29 e30 (by omega) (by omega) (by omega)) ?_
      intro u31 e31
      refine HL.still (Runs.load Try.underlying22 rfl e31 hcell) ?_
      intro u32 e32
      refine HL.still (Runs.lenSl rfl Try.underlying22 e32) ?_
      intro u33 e33
      refine HL.still (Runs.gtr e33 rfl rfl) ?_
      intro u34 e34
      refine HL.nil ?_
      by_cases hlong : ys.length > 300
      · skip
        repeat refine HW.seq ?_
        refine HW.yes ?_ ?_
        exact e34.trans (congrArg Value.bool (decide_eq_true (by omega)))
        -- region 10
        repeat refine HW.seq ?_
        refine HW.region ?_
        refine HL.still (Runs.move f3) ?_
        intro u35 e35
        refine HL.still (Runs.assign e35) ?_
        intro u2 e2
        refine HL.nil ?_
        refine HW.ret ?_
        exact RT.one rfl e2 ⟨rfl, hX⟩
      · skip
        repeat refine HW.seq ?_
        refine HW.no ?_ ?_
        exact e34.trans (congrArg Value.bool (decide_eq_false (by omega)))
        refine HW.skip ?_
        -- region 11
        repeat refine HW.seq ?_
        refine HW.region ?_
        refine HL.one (HO.bytes0 ?_)
        intro h3 w3
        intro u36 e36
        refine HL.still (Runs.move f0) ?_
        intro u37 e37
        refine HL.still (Runs.move f6) ?_
        intro u38 e38
        refine HL.still (Runs.ixSl (o' := so + i) Try.underlying28 sz22 e37 e38 (by omega) (by omega) (by omega)) ?_
        intro u39 e39
        refine HL.still (Runs.load Try.underlying22 rfl e39 (by rw [cellH_keep (w3.ext.old sb (lt_of_cellH hcell))]; exact hcell)) ?_
        intro u40 e40
        refine HL.one (HO.app Try.underlying22 in5 rfl e36 e40 rfl rfl (Bs.lit (xs := []) w3 (Nat.le_refl _) (Nat.zero_le _)) (hbyt.ext w3.ext) (by simp; omega) (by rw [w3.size]; omega) ?_)
        intro ai ci h4 B4 G4
        intro u41 e41
        refine HL.still (Runs.assign e41) ?_
        intro u7 e7
        refine HL.nil ?_
        have z3 := w3.size
        have X4 : Ext g h4 := G4.bel w3.ext (Bs.lit (xs := []) w3 (Nat.le_refl _) (Nat.zero_le _)) (Nat.le_refl _) (Nat.le_refl _)
        rw [List.nil_append] at B4 e7
        have z4 := X4.size
        have lH := hH.lt
        have hsi : Src h4 h1.size ai ys := by
          rcases B4.byt with e | ⟨tb, to, q1, q2⟩
          · exact .inl e
          · refine .inr ⟨tb, to, q1, ?_, q2⟩
            rcases B4.blk with e | ⟨gi, q3, q4, q5⟩
            · rw [e] at q1; cases q1
            · rw [q3] at q1; cases q1; omega
        have hcl : (cat l i).length + ys.length < 100000 := by omega
        -- region 12
        repeat refine HW.seq ?_
        refine HW.region ?_
        refine HL.still (Runs.move f4) ?_
        intro u42 e42
        refine HL.still (Runs.move e7) ?_
        intro u43 e43
        refine HL.one (HO.call Try.func17 bd17 nm17 (args2 e42 e43) rfl ((write_ch _ h1.size (cat l i) ys ai ci (hH.ext X4) hsi B4.2 (by omega)).mono ?_))
        rintro _ h5 ⟨rfl, hH5, E5⟩
        intro u44 e44
        refine HL.nil ?_
        have E5' : ExB h1.size g h5 := (ExB.of_ext X4).trans E5
        have z5 := E5.size
        have B5 := B4.exb E5 (by omega)
        -- region 13
        repeat refine HW.seq ?_
        refine HW.region ?_
        refine HL.still (Runs.assign rfl) ?_
        intro u8 e8
        refine HL.nil ?_
        repeat refine HW.seq ?_
        refine HW.block ?_
        refine HW.loop (fun m f u => ∃ k : Nat, k ≤ ys.length ∧ m = ys.length - k ∧ f 8 = I64 k ∧ f 7 = .slice ai ys.length ci ∧ f 6 = I64 i ∧ f 0 = .slice (some ⟨sb, so, none⟩) l.length cap ∧ f 3 = .bool true ∧ f 4 = .pointer (some ⟨h1.size, 0, none⟩) ∧ f 5 = .slice a' (cat l i).length c' ∧
          (ys.length = 0 ∨ ∃ gi cur, ai = some ⟨gi, 0, none⟩ ∧ g.size ≤ gi ∧ gi < h5.size ∧ u[gi]? = some (.cells (cur : List Value).toArray 5 (0, 0)) ∧ ys.length ≤ cur.length) ∧ HashAt u h1.size (cat l i ++ ys) ∧ ExB h1.size g u ∧ u.size = h5.size) ys.length
          ⟨0, Nat.zero_le _, rfl, e8, e7, f6, f0, f3, f4, f5, ?_, hH5, E5', rfl⟩ ?_
        · rcases B5.blk with e | ⟨gi, q3, q4, q5⟩
          · left
            rcases B5.byt with e' | ⟨tb, to, q1, q2⟩
            · rw [e']; rfl
            · rw [e] at q1; cases q1
          · right
            have B5' := B5
            rw [q3] at B5'
            obtain ⟨cur, r1, r2, r3⟩ := B5'.blkAt
            exact ⟨gi, cur, q3, q4, q5, r1, by rw [r2]; exact B5.2⟩
        clear e7 e8 f0 f3 f4 f5 f6 hH5
        rintro m f u ⟨k, hk, hm2, f8, f7, f6, f0, f3, f4, f5, hI, hHu, hEu, hus⟩
        by_cases hlt2 : k < ys.length
        · rcases hI with e | ⟨gi, cur, ha2, hgi, hgi5, hb, hcl2⟩
          · omega
          · rw [ha2] at f7
            -- region 14
            repeat refine HW.seq ?_
            refine HW.region ?_
            refine HL.still (Runs.move f8) ?_
            intro u45 e45
            refine HL.still (Runs.move f7) ?_
            intro u46 e46
            refine HL.still (Runs.lenSl rfl Try.underlying22 e46) ?_
            intro u47 e47
            refine HL.still (Runs.lss e45 e47 rfl) ?_
            intro u48 e48
            refine HL.nil ?_
            repeat refine HW.seq ?_
            refine HW.yes ?_ ?_
            exact e48.trans (congrArg Value.bool (decide_eq_true (by omega)))
            refine HW.skip ?_
            repeat refine HW.seq ?_
            refine HW.block ?_
            -- region 16
            repeat refine HW.seq ?_
            refine HW.region ?_
            refine HL.still (Runs.move f7) ?_
            intro u51 e51
            refine HL.still (Runs.move f8) ?_
            intro u52 e52
            refine HL.still (Runs.ixSl (o' := k) Try.underlying22 sz5 e51 e52 (by omega) (by omega) (by omega)) ?_
            intro u53 e53
            refine HL.zero (HO.store (s := 1) sz5 e53 rfl rfl hb (by omega) rfl ?_)
            intro h6 w6
            refine HL.nil ?_
            have z6 := w6.size
            -- region 15
            repeat refine HW.seq ?_
            refine HW.region ?_
            refine HL.still (Runs.move f8) ?_
            intro u49 e49
            refine HL.still (Runs.add e49 rfl (i64w (by omega))) ?_
            intro u50 e50
            refine HL.still (Runs.assign e50) ?_
            intro u8 e8
            refine HL.nil ?_
            exact ⟨ys.length - (k + 1), by omega, k + 1, by omega, rfl, e8, by rw [ha2]; exact f7, f6, f0, f3, f4, f5, .inr ⟨gi, _, ha2, hgi, hgi5, w6.new, by rw [List.length_set]; exact hcl2⟩, hHu.keep (w6.old _ (by omega)), hEu.wr w6 hgi, by omega⟩
        · skip
          -- region 14
          repeat refine HW.seq ?_
          refine HW.region ?_
          refine HL.still (Runs.move f8) ?_
          intro u45 e45
          refine HL.still (Runs.move f7) ?_
          intro u46 e46
          refine HL.still (Runs.lenSl rfl Try.underlying22 e46) ?_
          intro u47 e47
          refine HL.still (Runs.lss e45 e47 rfl) ?_
          intro u48 e48
          refine HL.nil ?_
          repeat refine HW.seq ?_
          refine HW.no ?_ ?_
          exact e48.trans (congrArg Value.bool (decide_eq_false (by omega)))
          refine HW.exitHere ?_
          have hXu : Ext h u := bel_of_exb hX hEu (Nat.le_refl _) z1
          have hAu := hA.exb hEu (by omega)
          obtain ⟨sb', so', ha', b', c'', ys', hy', hcell', hbyt', hle'⟩ := (hL.ext hXu).at hlt
          rw [ha] at ha'
          cases ha'
          rw [hy] at hy'
          cases hy'
          -- region 17
          repeat refine HW.seq ?_
          refine HW.region ?_
          refine HL.still (Runs.move f5) ?_
          intro u54 e54
          refine HL.still (Runs.move f0) ?_
          intro u55 e55
          refine HL.still (Runs.move f6) ?_
          intro u56 e56
          refine HL.still (Runs.ixSl (o' := so + i) Try.underlying28 sz22 e55 e56 (by omega) (by omega) (by omega)) ?_
          intro u57 e57
          refine HL.still (Runs.load Try.underlying22 rfl e57 hcell') ?_
          intro u58 e58
          refine HL.one (HO.app Try.underlying22 in5 rfl e54 e58 rfl rfl hAu hbyt' (by omega) (by omega) ?_)
          intro a7 c7 h7 B7 G7
          intro u59 e59
          refine HL.still (Runs.assign e59) ?_
          intro u5 e5
          refine HL.nil ?_
          have z7 : u.size ≤ h7.size := G7.size
          have hH7 : HashAt h7 h1.size (cat l i ++ ys) := hHu.keep (G7.old hAu (by omega) (by omega))
          have X7 : Ext h h7 := G7.bel hXu hAu (by omega) (Nat.le_refl _)
          rw [← cat_succ hy] at B7 hH7 e5
          have hc7 : (cat l (i + 1)).length ≤ 300 * (i + 1) := by rw [cat_succ hy, List.length_append]; omega
          -- region 18
          repeat refine HW.seq ?_
          refine HW.region ?_
          refine HL.still (Runs.move f4) ?_
          intro u60 e60
          refine HL.one (HO.call Try.func18 bd18 nm18 (args1 e60) rfl ((hsum_ch _ h1.size _ hH7 (by omega)).mono ?_))
          rintro _ h8 ⟨rfl, E8⟩
          intro u61 e61
          refine HL.still (Runs.move e5) ?_
          intro u62 e62
          refine HL.one (HO.call Try.func14 bd14 nm14 (args1 e62) rfl ((sum_ch h8 _ a7 c7 (B7.byt.ext E8) B7.2 (by omega)).mono ?_))
          rintro _ h9 ⟨rfl, E9⟩
          intro u63 e63
          refine HL.still (Runs.neqBytes Try.underlying25 Try.underlying5 sz5 eg25 e61 e63 (t := false) (SHA_len _) (SHA_len _) (SHA_ne _)) ?_
          intro u64 e64
          refine HL.still (Runs.move e64) ?_
          intro u65 e65
          refine HL.stillG rfl rfl e65 (Runs.move f4) ?_
          intro u66 e66
          refine HL.oneG rfl rfl e65 (HO.call Try.func19 bd19 nm19 (args1 e66) rfl ((len_ext _ h1.size _ ((hH7.ext E8).ext E9)).mono ?_))
          rintro _ h10 ⟨rfl, E10⟩
          intro u67 e67
          refine HL.stillG rfl rfl e65 (Runs.move e5) ?_
          intro u68 e68
          refine HL.stillG rfl rfl e65 (Runs.lenSl rfl Try.underlying22 e68) ?_
          intro u69 e69
          refine HL.stillG rfl rfl e65 (Runs.neq e67 e69 (t := false) (by simp)) ?_
          intro u70 e70
          refine HL.still (Runs.pick e65 e70) ?_
          intro u71 e71
          refine HL.nil ?_
          have X9 : Ext h7 h9 := E8.ext E9 (Nat.le_refl _)
          have X10 : Ext h7 h10 := X9.ext E10 (Nat.le_refl _)
          have z10 := X10.size
          repeat refine HW.seq ?_
          refine HW.no ?_ ?_
          exact e71
          refine HW.skip ?_
          -- region 8
          repeat refine HW.seq ?_
          refine HW.region ?_
          refine HL.still (Runs.move f6) ?_
          intro u27 e27
          refine HL.still (Runs.add e27 rfl (i64w (by omega))) ?_
          intro u28 e28
          refine HL.still (Runs.assign e28) ?_
          intro u6 e6
          refine HL.nil ?_
          exact ⟨l.length - (i + 1), by omega, i + 1, by omega, rfl, e6, by rw [ha]; exact f0, f3, f4, a7, c7, e5, B7.ext X10, hc7, hH7.ext X10, X7.ext X10 (Nat.le_refl _), by omega⟩
    · have hil : i = l.length := by omega
      subst hil
      -- region 7
      repeat refine HW.seq ?_
      refine HW.region ?_
      refine HL.still (Runs.move f6) ?_
      intro u23 e23
      refine HL.still (Runs.move f0) ?_
      intro u24 e24
      refine HL.still (Runs.lenSl rfl Try.underlying28 e24) ?_
      intro u25 e25
      refine HL.still (Runs.lss e23 e25 rfl) ?_
      intro u26 e26
      refine HL.nil ?_
      repeat refine HW.seq ?_
      refine HW.no ?_ ?_
      exact e26.trans (congrArg Value.bool (decide_eq_false (by omega)))
      refine HW.exitHere ?_
      have hcl : (cat l l.length).length < 100000 := by omega
      -- region 20
      repeat refine HW.seq ?_
      refine HW.region ?_
      refine HL.still (Runs.move f3) ?_
      intro u72 e72
      refine HL.still (Runs.move e72) ?_
      intro u73 e73
      refine HL.stillG rfl rfl e73 (Runs.move f4) ?_
      intro u74 e74
      refine HL.oneG rfl rfl e73 (HO.call Try.func18 bd18 nm18 (args1 e74) rfl ((hsum_ch _ h1.size _ hH (by omega)).mono ?_))
      rintro _ h3 ⟨rfl, E3⟩
      intro u75 e75
      refine HL.stillG rfl rfl e73 (Runs.move f4) ?_
      intro u76 e76
      refine HL.oneG rfl rfl e73 (HO.call Try.func18 bd18 nm18 (args1 e76) rfl ((hsum_ch _ h1.size _ (hH.ext E3) (by omega)).mono ?_))
      rintro _ h4 ⟨rfl, E4⟩
      intro u77 e77
      refine HL.stillG rfl rfl e73 (Runs.eqBytes Try.underlying25 Try.underlying5 sz5 eg25 e75 e77 (t := true) (SHA_len _) (SHA_len _) (beq_self_eq_true _)) ?_
      intro u78 e78
      refine HL.still (Runs.pick e73 e78) ?_
      intro u79 e79
      refine HL.still (Runs.move e79) ?_
      intro u80 e80
      refine HL.stillG rfl rfl e80 (Runs.move f4) ?_
      intro u81 e81
      refine HL.oneG rfl rfl e80 (HO.call Try.func18 bd18 nm18 (args1 e81) rfl ((hsum_ch _ h1.size _ ((hH.ext E3).ext E4) (by omega)).mono ?_))
      rintro _ h5 ⟨rfl, E5⟩
      intro u82 e82
      refine HL.stillG rfl rfl e80 (Runs.move f5) ?_
      intro u83 e83
      refine HL.oneG rfl rfl e80 (HO.call Try.func14 bd14 nm14 (args1 e83) rfl ((sum_ch h5 _ a' c' (((hA.byt.ext E3).ext E4).ext E5) hA.2 (by omega)).mono ?_))
      rintro _ h6 ⟨rfl, E6⟩
      intro u84 e84
      refine HL.stillG rfl rfl e80 (Runs.eqBytes Try.underlying25 Try.underlying5 sz5 eg25 e82 e84 (t := true) (SHA_len _) (SHA_len _) (beq_self_eq_true _)) ?_
      intro u85 e85
      refine HL.still (Runs.pick e80 e85) ?_
      intro u86 e86
      refine HL.still (Runs.assign e86) ?_
      intro u2 e2
      refine HL.nil ?_
      refine HW.ret ?_
      exact RT.one rfl e2 ⟨rfl, (((hX.ext E3 (Nat.le_refl _)).ext E4 (Nat.le_refl _)).ext E5 (Nat.le_refl _)).ext E6 (Nat.le_refl _)⟩
end Go.Proofs.Ytbfmkjfpialihaa
