/- What is set, and dropped: onionskinlaw12.JobjSets. -/
import Derived.Test.YtjopikfkgjbcgaaDoorKp
namespace Go.Proofs.YtjopikfkgjbcgaaDoor
set_option linter.unnecessarySimpa false
set_option linter.unusedSimpArgs false
set_option linter.unusedVariables false
open Go.RowKit
theorem setO_le (l : List JV) (key : List UInt8) (v : List JV) : (setO l key v).length ≤ 2 * l.length + v.length := by
  unfold setO
  split
  · exact Nat.zero_le _
  · split
    · unfold wholeO
      split
      · rw [List.length_append, List.length_append, List.length_take, List.length_drop, namedO_len]; omega
      · exact Nat.zero_le _
    · unfold wholeO
      split
      · rw [plusC_len, List.length_append, namedO_len]; omega
      · exact Nat.zero_le _
theorem dropO_le (l : List JV) (key : List UInt8) : (dropO l key).length ≤ 2 * l.length := by
  unfold dropO
  split
  · exact Nat.zero_le _
  · split
    · omega
    · rw [plusC_len, List.length_append, List.length_take, List.length_drop]; omega
set_option maxRecDepth 10000 in
set_option maxHeartbeats 4000000 in
theorem lawSets_ch (h : Heap) (l v0 : List JV) (a va : Option Addr) (cap vc : Nat) (key : List UInt8) (hB : Jvs h a l) (hcap : l.length ≤ cap) (hl : l.length ≤ maxLen) (hz : InJ l) (hV : Jvs h va v0) (hvl : v0.length ≤ maxLen) (hzv : InJ v0) (hP : Plc h) :
    CH Tryd.prog 6 #[.slice a l.length cap, .string (strOf key), .slice va v0.length vc] h fun v h' => v = .bool true ∧ Ext h h' := by
  refine CH.of_body Tryd.func6 rfl rfl rfl ?_
  intro f hf
  have p0 : f 0 = .slice a l.length cap := by rw [hf]; exact fr0_at rfl
  have p1 : f 1 = .string (strOf key) := by rw [hf]; exact fr0_at rfl
  have p2 : f 2 = .slice va v0.length vc := by rw [hf]; exact fr0_at rfl
  -- region 0
  repeat refine HW.seq ?_
  refine HW.region ?_
  refine HL.still (Runs.assign rfl) ?_
  intro u6 e6
  refine HL.nil ?_
  -- region 1
  repeat refine HW.seq ?_
  refine HW.region ?_
  refine HL.one (HO.call Tryd.func7 bd7 nm7 (args0) rfl ((small_ch h hP).mono ?_))
  rintro _ h1 ⟨rfl, X1⟩
  intro u16 e16
  refine HL.still (Runs.assign e16) ?_
  intro u7 e7
  refine HL.nil ?_
  have g7 : u7 = .bool true := e7
  -- region 2
  repeat refine HW.seq ?_
  refine HW.region ?_
  refine HL.still (Runs.move p0) ?_
  intro u17 e17
  refine HL.one (HO.call Tryd.func8 bd8 nm8 (args1 e17) rfl ((fewC_ch h1 l a cap (hB.ext X1) hl hz).mono ?_))
  rintro _ h2 ⟨rfl, rfl⟩
  intro u18 e18
  refine HL.still (Runs.assign e18) ?_
  intro u8 e8
  refine HL.nil ?_
  have g8 : u8 = .bool (fewJ l) := e8
  -- region 3
  repeat refine HW.seq ?_
  refine HW.region ?_
  refine HL.still (Runs.move p2) ?_
  intro u19 e19
  refine HL.one (HO.call Tryd.func8 bd8 nm8 (args1 e19) rfl ((fewC_ch h1 v0 va vc (hV.ext X1) hvl hzv).mono ?_))
  rintro _ h2 ⟨rfl, rfl⟩
  intro u20 e20
  refine HL.still (Runs.assign e20) ?_
  intro u9 e9
  refine HL.nil ?_
  have g9 : u9 = .bool (fewJ v0) := e9
  refine HW.seq ?_
  refine HW.mono (N := fun f v => fewJ l = true ∧ fewJ v0 = true ∧ key.length ≤ 300 ∧ f 0 = .slice a l.length cap ∧ f 1 = .string (strOf key) ∧ f 2 = .slice va v0.length vc ∧ f 7 = .bool true ∧ h1 = v) ?_ ?_ (fun _ _ _ q => q) (fun _ _ q => q)
  · repeat refine HW.seq ?_
    cases hfw : fewJ l with
    | false =>
      rw [hfw] at g8
      -- region 4
      repeat refine HW.seq ?_
      refine HW.region ?_
      refine HL.still (Runs.move g8) ?_
      intro u21 e21
      refine HL.still (Runs.notb e21 (u := true) rfl) ?_
      intro u22 e22
      refine HL.still (Runs.move e22) ?_
      intro u23 e23
      refine HL.skipG rfl rfl e23 ?_
      intro u24 e24
      refine HL.skipG rfl rfl e23 ?_
      intro u25 e25
      refine HL.still (Runs.pick e23 rfl) ?_
      intro u26 e26
      refine HL.still (Runs.move e26) ?_
      intro u27 e27
      refine HL.skipG rfl rfl e27 ?_
      intro u28 e28
      refine HL.skipG rfl rfl e27 ?_
      intro u29 e29
      refine HL.skipG rfl rfl e27 ?_
      intro u30 e30
      refine HL.still (Runs.pick e27 rfl) ?_
      intro u31 e31
      refine HL.nil ?_
      refine HW.yes e31 ?_
      -- region 5
      repeat refine HW.seq ?_
      refine HW.region ?_
      refine HL.still (Runs.move g7) ?_
      intro u32 e32
      refine HL.still (Runs.assign e32) ?_
      intro u6 e6
      refine HL.nil ?_
      refine HW.ret ?_
      exact RT.one rfl e6 ⟨rfl, X1⟩
    | true =>
      rw [hfw] at g8
      cases hfv : fewJ v0 with
      | false =>
        rw [hfv] at g9
        -- region 4
        repeat refine HW.seq ?_
        refine HW.region ?_
        refine HL.still (Runs.move g8) ?_
        intro u21 e21
        refine HL.still (Runs.notb e21 (u := false) rfl) ?_
        intro u22 e22
        refine HL.still (Runs.move e22) ?_
        intro u23 e23
        refine HL.stillG rfl rfl e23 (Runs.move g9) ?_
        intro u24 e24
        refine HL.stillG rfl rfl e23 (Runs.notb e24 (u := true) rfl) ?_
        intro u25 e25
        refine HL.still (Runs.pick e23 e25) ?_
        intro u26 e26
        refine HL.still (Runs.move e26) ?_
        intro u27 e27
        refine HL.skipG rfl rfl e27 ?_
        intro u28 e28
        refine HL.skipG rfl rfl e27 ?_
        intro u29 e29
        refine HL.skipG rfl rfl e27 ?_
        intro u30 e30
        refine HL.still (Runs.pick e27 rfl) ?_
        intro u31 e31
        refine HL.nil ?_
        refine HW.yes e31 ?_
        -- region 5
        repeat refine HW.seq ?_
        refine HW.region ?_
        refine HL.still (Runs.move g7) ?_
        intro u32 e32
        refine HL.still (Runs.assign e32) ?_
        intro u6 e6
        refine HL.nil ?_
        refine HW.ret ?_
        exact RT.one rfl e6 ⟨rfl, X1⟩
      | true =>
        rw [hfv] at g9
        by_cases hk : key.length > 300
        · skip
          -- region 4
          repeat refine HW.seq ?_
          refine HW.region ?_
          refine HL.still (Runs.move g8) ?_
          intro u21 e21
          refine HL.still (Runs.notb e21 (u := false) rfl) ?_
          intro u22 e22
          refine HL.still (Runs.move e22) ?_
          intro u23 e23
          refine HL.stillG rfl rfl e23 (Runs.move g9) ?_
          intro u24 e24
          refine HL.stillG rfl rfl e23 (Runs.notb e24 (u := false) rfl) ?_
          intro u25 e25
          refine HL.still (Runs.pick e23 e25) ?_
          intro u26 e26
          refine HL.still (Runs.move e26) ?_
          intro u27 e27
          refine HL.stillG rfl rfl e27 (Runs.move p1) ?_
          intro u28 e28
          refine HL.stillG rfl rfl e27 (Runs.lenS rfl Tryd.underlying9 e28) ?_
          intro u29 e29
          refine HL.stillG rfl rfl e27 (Runs.gtr e29 rfl (t := true) (decide_eq_true (by omega))) ?_
          intro u30 e30
          refine HL.still (Runs.pick e27 e30) ?_
          intro u31 e31
          refine HL.nil ?_
          refine HW.yes e31 ?_
          -- region 5
          repeat refine HW.seq ?_
          refine HW.region ?_
          refine HL.still (Runs.move g7) ?_
          intro u32 e32
          refine HL.still (Runs.assign e32) ?_
          intro u6 e6
          refine HL.nil ?_
          refine HW.ret ?_
          exact RT.one rfl e6 ⟨rfl, X1⟩
        · skip
          -- region 4
          repeat refine HW.seq ?_
          refine HW.region ?_
          refine HL.still (Runs.move g8) ?_
          intro u21 e21
          refine HL.still (Runs.notb e21 (u := false) rfl) ?_
          intro u22 e22
          refine HL.still (Runs.move e22) ?_
          intro u23 e23
          refine HL.stillG rfl rfl e23 (Runs.move g9) ?_
          intro u24 e24
          refine HL.stillG rfl rfl e23 (Runs.notb e24 (u := false) rfl) ?_
          intro u25 e25
          refine HL.still (Runs.pick e23 e25) ?_
          intro u26 e26
          refine HL.still (Runs.move e26) ?_
          intro u27 e27
          refine HL.stillG rfl rfl e27 (Runs.move p1) ?_
          intro u28 e28
          refine HL.stillG rfl rfl e27 (Runs.lenS rfl Tryd.underlying9 e28) ?_
          intro u29 e29
          refine HL.stillG rfl rfl e27 (Runs.gtr e29 rfl (t := false) (decide_eq_false (by omega))) ?_
          intro u30 e30
          refine HL.still (Runs.pick e27 e30) ?_
          intro u31 e31
          refine HL.nil ?_
          refine HW.no e31 ?_
          refine HW.skip ?_
          exact ⟨rfl, rfl, by omega, p0, p1, p2, g7, rfl⟩
  clear p0 p1 p2 g7 g8 g9 e7 e8 e9
  rintro f v ⟨hfw, hfv, hk, p0, p1, p2, g7, rfl⟩
  obtain ⟨hl80, _⟩ := fewJ_of hfw
  obtain ⟨hv80, _⟩ := fewJ_of hfv
  have hOk := hz.ok
  have hOv := hzv.ok
  have hB1 := hB.ext X1
  have hV1 := hV.ext X1
  have hsl := setO_le l key v0
  have hdl := dropO_le l key
  have hJ0 : ∀ {u : Heap}, Nw h1 u (.cells (flJ []).toArray 37 (0, 0)) → Js u h1.size (some ⟨h1.size, 0, none⟩) 0 [] := fun w => Js.lit (l := []) w (Nat.le_refl _) (Nat.zero_le _)
  -- region 6
  repeat refine HW.seq ?_
  refine HW.region ?_
  refine HL.one (HO.jv0 ?_)
  intro h3 w3
  intro u33 e33
  refine HL.still (Runs.move p0) ?_
  intro u34 e34
  refine HL.one (HO.dapp e33 e34 rfl rfl (hJ0 w3) (hB1.ext w3.ext) (by simp; omega) (by rw [w3.size]; omega) ?_)
  intro ai ci h4 Ji G4
  intro u35 e35
  refine HL.still (Runs.assign e35) ?_
  intro u10 e10
  refine HL.nil ?_
  have X4 : Ext h1 h4 := G4.belJ w3.ext (hJ0 w3) (Nat.le_refl _) (Nat.le_refl _)
  have Ji : Js h4 h1.size ai ci l := Ji
  have g10 : u10 = .slice ai l.length ci := e10
  have X04 : Ext h h4 := X1.ext X4 (Nat.le_refl _)
  have hci := Ji.2
  -- region 7
  repeat refine HW.seq ?_
  refine HW.region ?_
  refine HL.still (Runs.move g10) ?_
  intro u36 e36
  refine HL.still (Runs.move p1) ?_
  intro u37 e37
  refine HL.still (Runs.move p2) ?_
  intro u38 e38
  refine HL.one (HO.call Tryd.func9 bd9 nm9 (args3 e36 e37 e38) rfl ((set_ch h4 l v0 ai va l.length ci v0.length vc key rfl hci rfl Ji.jvs (hV.ext X04) (hP.ext X04) (by omega) (by omega) hOk hOv (by omega)).mono ?_))
  rintro _ h5 ⟨sa, cs, rfl, Js5, X5⟩
  intro u39 e39
  refine HL.still (Runs.assign e39) ?_
  intro u11 e11
  refine HL.nil ?_
  have g11 := e11
  have X05 : Ext h h5 := X04.ext X5 (Nat.le_refl _)
  -- region 8
  repeat refine HW.seq ?_
  refine HW.region ?_
  refine HL.still (Runs.move g10) ?_
  intro u40 e40
  refine HL.still (Runs.move p1) ?_
  intro u41 e41
  refine HL.one (HO.call Tryd.func10 bd10 nm10 (args2 e40 e41) rfl ((drop_ch h5 l ai l.length ci key rfl hci (Ji.ext X5).jvs (hP.ext X05) (by omega) hOk).mono ?_))
  rintro _ h6 ⟨ad, cd, rfl, Jd6, X6⟩
  intro u42 e42
  refine HL.still (Runs.assign e42) ?_
  intro u12 e12
  refine HL.nil ?_
  have g12 := e12
  have X06 : Ext h h6 := X05.ext X6 (Nat.le_refl _)
  have R1 := setR_ch h6 l v0 a va l.length cap v0.length vc key rfl hcap rfl (hB.ext X06) (hV.ext X06) (by omega) (by omega) hOk hOv (by omega)
  have R2 : ∀ u, Ext h6 u → CH Tryd.prog 23 #[.slice a l.length cap, .string (strOf key)] u fun v h' => ∃ a' c', v = .slice a' (dropO l key).length c' ∧ Js h' u.size a' c' (dropO l key) ∧ Ext u h' := fun u X => dropR_ch u l a l.length cap key rfl hcap (hB.ext (X06.ext X (Nat.le_refl _))) (by omega) hOk
  -- region 9
  repeat refine HW.seq ?_
  refine HW.region ?_
  refine HL.still (Runs.move g11) ?_
  intro u43 e43
  refine HL.still (Runs.move p0) ?_
  intro u44 e44
  refine HL.still (Runs.move p1) ?_
  intro u45 e45
  refine HL.still (Runs.move p2) ?_
  intro u46 e46
  refine HL.one (HO.call Tryd.func22 bd22 nm22 (args3 e44 e45 e46) rfl ((R1).mono ?_))
  rintro _ h7 ⟨a7, c7, rfl, J7, X7⟩
  intro u47 e47
  refine HL.one (HO.call Tryd.func12 bd12 nm12 (args2 e43 e47) rfl ((sameC_ch h7 (setO l key v0) (setO l key v0) sa a7 cs c7 ((Js5.ext X6).ext X7).jvs J7.jvs (by omega) (by omega) rfl).mono ?_))
  rintro _ h8 ⟨rfl, rfl⟩
  intro u48 e48
  refine HL.still (Runs.move e48) ?_
  intro u49 e49
  refine HL.stillG rfl rfl e49 (Runs.move g12) ?_
  intro u50 e50
  refine HL.stillG rfl rfl e49 (Runs.move p0) ?_
  intro u51 e51
  refine HL.stillG rfl rfl e49 (Runs.move p1) ?_
  intro u52 e52
  refine HL.oneG rfl rfl e49 (HO.call Tryd.func23 bd23 nm23 (args2 e51 e52) rfl ((R2 h7 X7).mono ?_))
  rintro _ h9 ⟨a9, c9, rfl, J9, X9⟩
  intro u53 e53
  refine HL.oneG rfl rfl e49 (HO.call Tryd.func12 bd12 nm12 (args2 e50 e53) rfl ((sameC_ch h9 (dropO l key) (dropO l key) ad a9 cd c9 ((Jd6.ext X7).ext X9).jvs J9.jvs (by omega) (by omega) rfl).mono ?_))
  rintro _ h10 ⟨rfl, rfl⟩
  intro u54 e54
  refine HL.still (Runs.pick e49 e54) ?_
  intro u55 e55
  refine HL.still (Runs.assign e55) ?_
  intro u13 e13
  refine HL.nil ?_
  have g13 : u13 = .bool true := e13
  have X49 : Ext h4 h9 := ((X5.ext X6 (Nat.le_refl _)).ext X7 (Nat.le_refl _)).ext X9 (Nat.le_refl _)
  have Js9 := ((Js5.ext X6).ext X7).ext X9
  have Jd9 := (Jd6.ext X7).ext X9
  have hs5 : h4.size ≤ h5.size := X5.size
  clear e10 e11 e12 e13 R1 R2 J7 J9 X7 X9 X6 X05 X06 Js5 Jd6 G4 w3
  -- region 10
  repeat refine HW.seq ?_
  refine HW.region ?_
  refine HL.still (Runs.assign rfl) ?_
  intro u14 e14
  refine HL.nil ?_
  refine HW.mono (N := fun f v => f 0 = .slice a l.length cap ∧ f 7 = .bool true ∧ f 10 = .slice ai l.length ci ∧ f 12 = .slice ad (dropO l key).length cd ∧ f 13 = .bool true ∧ Ext h4 v ∧ ∀ g, ad = some ⟨g, 0, none⟩ → ∃ cur : List Value, v[g]? = some (.cells cur.toArray 37 (0, 0)) ∧ cur.length = cd * 4) ?_ ?_ (fun _ _ _ q => q) (fun _ _ q => q)
  · refine HW.block ?_
    have hdb : ∀ g, ad = some ⟨g, 0, none⟩ → ∃ cur : List Value, h9[g]? = some (.cells cur.toArray 37 (0, 0)) ∧ cur.length = cd * 4 := fun g hg => by
      subst hg
      obtain ⟨cur, q1, q2, _⟩ := Jd9.blkAt
      exact ⟨cur, q1, q2⟩
    have hsc := Js9.2
    refine HW.loop (fun m f u => ∃ i : Nat, i ≤ (setO l key v0).length ∧ m = (setO l key v0).length - i ∧ f 14 = I64 i ∧ f 0 = .slice a l.length cap ∧ f 7 = .bool true ∧ f 10 = .slice ai l.length ci ∧ f 11 = .slice sa (setO l key v0).length cs ∧ f 12 = .slice ad (dropO l key).length cd ∧ f 13 = .bool true ∧ Ext h4 u ∧ (∀ g, sa = some ⟨g, 0, none⟩ → ∃ cur : List Value, u[g]? = some (.cells cur.toArray 37 (0, 0)) ∧ cur.length = cs * 4) ∧ (∀ g, ad = some ⟨g, 0, none⟩ → ∃ cur : List Value, u[g]? = some (.cells cur.toArray 37 (0, 0)) ∧ cur.length = cd * 4)) (setO l key v0).length
      ⟨0, Nat.zero_le _, rfl, e14, p0, g7, g10, g11, g12, g13, X49, (fun g hg => by
        subst hg
        obtain ⟨cur, q1, q2, _⟩ := Js9.blkAt
        exact ⟨cur, q1, q2⟩), hdb⟩ ?_
    clear e14 p0 g7 g10 g11 g12 g13
    rintro m f u ⟨i, hi, hm, f14, f0, f7, f10, f11, f12, f13, hX, hblk, hdk⟩
    by_cases hlt : i < (setO l key v0).length
    · obtain ⟨g, rfl, hg⟩ : ∃ g, sa = some ⟨g, 0, none⟩ ∧ h4.size ≤ g := by
        rcases Js9.blk with ⟨_, q⟩ | ⟨g, q, q1, _⟩
        · rw [q] at hlt; cases hlt
        · exact ⟨g, q, q1⟩
      obtain ⟨cur, hb, hcur⟩ := hblk g rfl
      -- region 11
      repeat refine HW.seq ?_
      refine HW.region ?_
      refine HL.still (Runs.move f14) ?_
      intro u56 e56
      refine HL.still (Runs.move f11) ?_
      intro u57 e57
      refine HL.still (Runs.lenSl rfl Tryd.underlying22 e57) ?_
      intro u58 e58
      refine HL.still (Runs.lss e56 e58 rfl) ?_
      intro u59 e59
      refine HL.nil ?_
      repeat refine HW.seq ?_
      refine HW.yes ?_ ?_
      exact e59.trans (congrArg Value.bool (decide_eq_true (by omega)))
      refine HW.skip ?_
      repeat refine HW.seq ?_
      refine HW.block ?_
      -- region 13
      repeat refine HW.seq ?_
      refine HW.region ?_
      refine HL.still (Runs.move f11) ?_
      intro u62 e62
      refine HL.still (Runs.move f14) ?_
      intro u63 e63
      refine HL.still Runs.zeroJ ?_
      intro u64 e64
      refine HL.still (Runs.ixSl (o' := i * 4) Tryd.underlying22 sz37 e62 e63 (by omega) (by omega) (by omega)) ?_
      intro u65 e65
      refine HL.zero (HO.wipe (i := i) e65 e64 hb (by omega) ?_)
      intro h6 cur6 z6 o6 b6 l6
      refine HL.nil ?_
      -- region 12
      repeat refine HW.seq ?_
      refine HW.region ?_
      refine HL.still (Runs.move f14) ?_
      intro u60 e60
      refine HL.still (Runs.add e60 rfl (i64w (by omega))) ?_
      intro u61 e61
      refine HL.still (Runs.assign e61) ?_
      intro u14 e14
      refine HL.nil ?_
      exact ⟨(setO l key v0).length - (i + 1), by omega, i + 1, by omega, rfl, e14, f0, f7, f10, f11, f12, f13, ⟨by rw [z6]; exact hX.size, fun j hj => (o6 j (by omega)).trans (hX.old j hj)⟩, (fun g' hg' => by cases hg'; exact ⟨cur6, b6, by rw [l6]; exact hcur⟩), fun g' hg' => by
        by_cases hgg : g' = g
        · subst hgg
          obtain ⟨cur', q1, q2⟩ := hdk g' hg'
          rw [hb] at q1
          have : cur = cur' := by
            have := Option.some.inj q1
            injection this with q
            have := congrArg Array.toList q
            simpa using this
          exact ⟨cur6, b6, by rw [l6, this]; exact q2⟩
        · obtain ⟨cur', q1, q2⟩ := hdk g' hg'
          exact ⟨cur', (o6 g' hgg).trans q1, q2⟩⟩
    · skip
      -- region 11
      repeat refine HW.seq ?_
      refine HW.region ?_
      refine HL.still (Runs.move f14) ?_
      intro u56 e56
      refine HL.still (Runs.move f11) ?_
      intro u57 e57
      refine HL.still (Runs.lenSl rfl Tryd.underlying22 e57) ?_
      intro u58 e58
      refine HL.still (Runs.lss e56 e58 rfl) ?_
      intro u59 e59
      refine HL.nil ?_
      repeat refine HW.seq ?_
      refine HW.no ?_ ?_
      exact e59.trans (congrArg Value.bool (decide_eq_false (by omega)))
      refine HW.exitHere ?_
      exact ⟨f0, f7, f10, f12, f13, hX, hdk⟩
  clear e14 p0 g7 g10 g11 g12 g13 Js9 X49
  rintro f v ⟨p0, g7, g10, g12, g13, X49, hdk⟩
  -- region 14
  repeat refine HW.seq ?_
  refine HW.region ?_
  refine HL.still (Runs.assign rfl) ?_
  intro u15 e15
  refine HL.nil ?_
  have hdc := Jd9.2
  refine HW.mono (N := fun f v => f 0 = .slice a l.length cap ∧ f 7 = .bool true ∧ f 10 = .slice ai l.length ci ∧ f 13 = .bool true ∧ Ext h4 v) ?_ ?_ (fun _ _ _ q => q) (fun _ _ q => q)
  · refine HW.block ?_
    refine HW.loop (fun m f u => ∃ i : Nat, i ≤ (dropO l key).length ∧ m = (dropO l key).length - i ∧ f 15 = I64 i ∧ f 0 = .slice a l.length cap ∧ f 7 = .bool true ∧ f 10 = .slice ai l.length ci ∧ f 12 = .slice ad (dropO l key).length cd ∧ f 13 = .bool true ∧ Ext h4 u ∧ (∀ g, ad = some ⟨g, 0, none⟩ → ∃ cur : List Value, u[g]? = some (.cells cur.toArray 37 (0, 0)) ∧ cur.length = cd * 4)) (dropO l key).length
      ⟨0, Nat.zero_le _, rfl, e15, p0, g7, g10, g12, g13, X49, hdk⟩ ?_
    clear e15 p0 g7 g10 g12 g13 X49 hdk
    rintro m f u ⟨i, hi, hm, f15, f0, f7, f10, f12, f13, hX, hdk⟩
    by_cases hlt : i < (dropO l key).length
    · obtain ⟨g, rfl, hg⟩ : ∃ g, ad = some ⟨g, 0, none⟩ ∧ h5.size ≤ g := by
        rcases Jd9.blk with ⟨_, q⟩ | ⟨g, q, q1, _⟩
        · rw [q] at hlt; cases hlt
        · exact ⟨g, q, q1⟩
      obtain ⟨cur, hb, hcur⟩ := hdk g rfl
      -- region 15
      repeat refine HW.seq ?_
      refine HW.region ?_
      refine HL.still (Runs.move f15) ?_
      intro u66 e66
      refine HL.still (Runs.move f12) ?_
      intro u67 e67
      refine HL.still (Runs.lenSl rfl Tryd.underlying22 e67) ?_
      intro u68 e68
      refine HL.still (Runs.lss e66 e68 rfl) ?_
      intro u69 e69
      refine HL.nil ?_
      repeat refine HW.seq ?_
      refine HW.yes ?_ ?_
      exact e69.trans (congrArg Value.bool (decide_eq_true (by omega)))
      refine HW.skip ?_
      repeat refine HW.seq ?_
      refine HW.block ?_
      -- region 17
      repeat refine HW.seq ?_
      refine HW.region ?_
      refine HL.still (Runs.move f12) ?_
      intro u72 e72
      refine HL.still (Runs.move f15) ?_
      intro u73 e73
      refine HL.still Runs.zeroJ ?_
      intro u74 e74
      refine HL.still (Runs.ixSl (o' := i * 4) Tryd.underlying22 sz37 e72 e73 (by omega) (by omega) (by omega)) ?_
      intro u75 e75
      refine HL.zero (HO.wipe (i := i) e75 e74 hb (by omega) ?_)
      intro h6 cur6 z6 o6 b6 l6
      refine HL.nil ?_
      -- region 16
      repeat refine HW.seq ?_
      refine HW.region ?_
      refine HL.still (Runs.move f15) ?_
      intro u70 e70
      refine HL.still (Runs.add e70 rfl (i64w (by omega))) ?_
      intro u71 e71
      refine HL.still (Runs.assign e71) ?_
      intro u15 e15
      refine HL.nil ?_
      exact ⟨(dropO l key).length - (i + 1), by omega, i + 1, by omega, rfl, e15, f0, f7, f10, f12, f13, ⟨by rw [z6]; exact hX.size, fun j hj => (o6 j (by omega)).trans (hX.old j hj)⟩, (fun g' hg' => by cases hg'; exact ⟨cur6, b6, by rw [l6]; exact hcur⟩)⟩
    · skip
      -- region 15
      repeat refine HW.seq ?_
      refine HW.region ?_
      refine HL.still (Runs.move f15) ?_
      intro u66 e66
      refine HL.still (Runs.move f12) ?_
      intro u67 e67
      refine HL.still (Runs.lenSl rfl Tryd.underlying22 e67) ?_
      intro u68 e68
      refine HL.still (Runs.lss e66 e68 rfl) ?_
      intro u69 e69
      refine HL.nil ?_
      repeat refine HW.seq ?_
      refine HW.no ?_ ?_
      exact e69.trans (congrArg Value.bool (decide_eq_false (by omega)))
      refine HW.exitHere ?_
      exact ⟨f0, f7, f10, f13, hX⟩
  clear e15 p0 g7 g10 g12 g13 X49 hdk
  rintro f v ⟨p0, g7, g10, g13, X⟩
  -- region 18
  repeat refine HW.seq ?_
  refine HW.region ?_
  refine HL.still (Runs.move g7) ?_
  intro u76 e76
  refine HL.still (Runs.move e76) ?_
  intro u77 e77
  refine HL.stillG rfl rfl e77 (Runs.move g13) ?_
  intro u78 e78
  refine HL.still (Runs.pick e77 e78) ?_
  intro u79 e79
  refine HL.still (Runs.move e79) ?_
  intro u80 e80
  refine HL.stillG rfl rfl e80 (Runs.move g10) ?_
  intro u81 e81
  refine HL.stillG rfl rfl e80 (Runs.move p0) ?_
  intro u82 e82
  refine HL.oneG rfl rfl e80 (HO.call Tryd.func12 bd12 nm12 (args2 e81 e82) rfl ((sameC_ch v l l ai a ci cap (Ji.ext X).jvs (hB.ext (X04.ext X (Nat.le_refl _))) (by omega) (by omega) rfl).mono ?_))
  rintro _ b7 ⟨rfl, rfl⟩
  intro u83 e83
  refine HL.still (Runs.pick e80 e83) ?_
  intro u84 e84
  refine HL.still (Runs.assign e84) ?_
  intro u6 e6
  refine HL.nil ?_
  refine HW.ret ?_
  exact RT.one rfl e6 ⟨rfl, X04.ext X (Nat.le_refl _)⟩
end Go.Proofs.YtjopikfkgjbcgaaDoor
