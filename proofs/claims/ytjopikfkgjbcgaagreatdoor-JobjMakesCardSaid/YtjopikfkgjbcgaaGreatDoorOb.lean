/- How many bytes a number has: jtext.Number; it is what the document says. -/
import Derived.Test.YtjopikfkgjbcgaaGreatDoorOa
import Derived.Test.YtjopikfkgjbcgaaGreatDoorShelf
import Derived.Test.YtjopikfkgjbcgaaGreatDoorNd
import Derived.Lib.MapLaws
namespace Go.Proofs.YtjopikfkgjbcgaaGreatDoor
set_option linter.unnecessarySimpa false
set_option linter.unusedSimpArgs false
set_option linter.unusedVariables false
open Go.RowKit
theorem at8_drop (s : List UInt8) (k j : Nat) : at8 (s.drop k) j = at8 s (k + j) := by
  unfold at8
  rw [List.getD_eq_getElem?_getD, List.getElem?_drop, List.getD_eq_getElem?_getD]
theorem pref1 (t : List UInt8) (c : UInt8) (hc : (c.toNat : Int) ≠ 0) : Lib.hasPrefix t [c] = decide (at8 t 0 = c.toNat) := by
  unfold Lib.hasPrefix
  cases t with
  | nil =>
    have h0 : at8 [] 0 = 0 := rfl
    rw [h0, decide_eq_false (fun e => hc e.symm)]
    rfl
  | cons x t =>
    have h0 : at8 (x :: t) 0 = (x.toNat : Int) := rfl
    rw [h0, List.isPrefixOf_cons_cons]
    simp only [List.isPrefixOf_nil_left, Bool.and_true]
    rw [Bool.eq_iff_iff, beq_iff_eq, decide_eq_true_eq]
    exact ⟨fun e => by rw [e], fun e => by apply UInt8.toNat_inj.1; omega⟩
theorem trimP_ch (h : Heap) (s p : List UInt8) : CH Tryz.prog 78 #[.string (strOf s), .string (strOf p)] h fun v h' => v = .string (strOf (Lib.trimPrefix s p)) ∧ h = h' :=
  CH.of_same (fun w _ => (Tryz.strings_TrimPrefix (strOf s) (strOf p) w).mono fun _ _ ⟨a, b⟩ => ⟨a, b.symm⟩) ⟨rfl, rfl⟩
theorem cutP_ch (h : Heap) (s p : List UInt8) : CH Tryz.prog 80 #[.string (strOf s), .string (strOf p)] h fun v h' => v = .tuple #[.string (strOf (Lib.trimPrefix s p)), .bool (Lib.hasPrefix s p)] ∧ h = h' :=
  CH.of_same (fun w _ => (Tryz.strings_CutPrefix (strOf s) (strOf p) w).mono fun _ _ ⟨a, b⟩ => ⟨a, b.symm⟩) ⟨rfl, rfl⟩
theorem trim1 (s : List UInt8) (k : Nat) (c : UInt8) (hc : (c.toNat : Int) ≠ 0) : Lib.trimPrefix (s.drop k) [c] = s.drop (if at8 s k = c.toNat then k + 1 else k) := by
  unfold Lib.trimPrefix
  rw [pref1 _ _ hc, at8_drop, Nat.add_zero]
  by_cases h : at8 s k = c.toNat
  · rw [if_pos h, if_pos (by simpa using h), List.drop_drop]
    rfl
  · rw [if_neg h, if_neg (by simpa using h)]
theorem at8_dropGet {s : List UInt8} {k : Nat} (hk : k < s.length) : (s.drop k)[0]? = some (s.getD k 0) := by
  rw [List.getElem?_drop]
  exact at8_get hk
theorem drop_eq_nil {s : List UInt8} {k : Nat} : (s.drop k == []) = decide (s.length ≤ k) := by
  rw [Bool.eq_iff_iff, beq_iff_eq, List.drop_eq_nil_iff, decide_eq_true_eq]
theorem take_self {α : Type} (l : List α) : l.take l.length = l := List.take_of_length_le (Nat.le_refl _)
set_option maxRecDepth 10000 in
set_option maxHeartbeats 1000000 in
theorem number_ch (h : Heap) (s : List UInt8) (hs : s.length < 4611686018427387000) : CH Tryz.prog 66 #[.string (strOf s)] h fun v h' => v = I64 (numO s) ∧ Ext h h' := by
  refine CH.of_body Tryz.func66 rfl rfl rfl ?_
  intro f hf
  have p0 : f 0 = .string (strOf s) := by rw [hf]; exact fr0_at rfl
  have hA : numA s ≤ 1 := by unfold numA; split <;> omega
  have hdA := digs_le s (numA s)
  have hla : (s.drop (numA s)).length = s.length - numA s := List.length_drop
  have hT : Lib.trimPrefix s [45] = s.drop (numA s) := by
    have := trim1 s 0 45 (by decide)
    rw [List.drop_zero] at this
    rw [this]
    rfl
  -- region 0
  repeat refine HW.seq ?_
  refine HW.region ?_
  refine HL.still (Runs.assign rfl) ?_
  intro u2 e2
  refine HL.nil ?_
  -- region 1
  repeat refine HW.seq ?_
  refine HW.region ?_
  refine HL.still (Runs.move p0) ?_
  intro u9 e9
  refine HL.one (HO.call Tryz.func78 bd78 nm78 (args2 e9 rfl) rfl ((trimP_ch _ s [45]).mono ?_))
  rintro _ h1 ⟨rfl, rfl⟩
  intro u10 e10
  refine HL.still (Runs.assign e10) ?_
  intro u3 e3
  refine HL.nil ?_
  have g3 : u3 = .string (strOf (s.drop (numA s))) := e3.trans (by rw [hT])
  clear e3 e10
  -- region 2
  repeat refine HW.seq ?_
  refine HW.region ?_
  refine HL.still (Runs.move g3) ?_
  intro u11 e11
  refine HL.one (HO.call Tryz.func79 bd79 nm79 (args1 e11) rfl ((digits_ch _ (s.drop (numA s)) (by omega)).mono ?_))
  rintro _ h2 ⟨rfl, X2⟩
  intro u12 e12
  refine HL.still (Runs.assign e12) ?_
  intro u4 e4
  refine HL.nil ?_
  have g4 : u4 = I64 (digs (s.drop (numA s)) : Nat) := e4
  clear e4
  refine HW.seq ?_
  refine HW.mono (N := fun f u => digs (s.drop (numA s)) ≠ 0 ∧ f 0 = .string (strOf s) ∧ f 3 = .string (strOf (s.drop (numA s))) ∧ f 4 = I64 ((if at8 s (numA s) = 48 then 1 else digs (s.drop (numA s)) : Nat) : Int) ∧ h2 = u) ?_ ?_ (fun _ _ _ q => q) (fun _ _ q => q)
  · refine HW.block ?_
    by_cases hz : digs (s.drop (numA s)) = 0
    · skip
      -- region 3
      repeat refine HW.seq ?_
      refine HW.region ?_
      refine HL.still (Runs.move g4) ?_
      intro u14 e14
      refine HL.still (Runs.eql e14 rfl (t := true) (by simp [hz])) ?_
      intro u15 e15
      refine HL.still (Runs.assign e15) ?_
      intro u13 e13
      refine HL.nil ?_
      refine HW.yes e13 ?_
      -- region 4
      repeat refine HW.seq ?_
      refine HW.region ?_
      refine HL.still (Runs.assign rfl) ?_
      intro u2 e2
      refine HL.nil ?_
      refine HW.ret ?_
      exact RT.one rfl e2 ⟨by unfold numO; rw [if_pos hz]; rfl, X2⟩
    · have hAl : numA s < s.length := by omega
      -- region 3
      repeat refine HW.seq ?_
      refine HW.region ?_
      refine HL.still (Runs.move g4) ?_
      intro u14 e14
      refine HL.still (Runs.eql e14 rfl (t := false) (by simp [hz])) ?_
      intro u15 e15
      refine HL.still (Runs.assign e15) ?_
      intro u13 e13
      refine HL.nil ?_
      refine HW.no e13 ?_
      by_cases h48 : at8 s (numA s) = 48
      · skip
        -- region 5
        repeat refine HW.seq ?_
        refine HW.region ?_
        refine HL.still (Runs.move g3) ?_
        intro u17 e17
        refine HL.still (Runs.ixS Tryz.underlying9 e17 rfl (j := 0) rfl (at8_dropGet hAl)) ?_
        intro u18 e18
        refine HL.still (Runs.eql e18 rfl (t := true) (by simpa [at8] using h48)) ?_
        intro u19 e19
        refine HL.still (Runs.assign e19) ?_
        intro u16 e16
        refine HL.nil ?_
        refine HW.yes e16 ?_
        -- region 6
        repeat refine HW.seq ?_
        refine HW.region ?_
        refine HL.still (Runs.assign rfl) ?_
        intro u4 e4
        refine HL.nil ?_
        exact ⟨hz, p0, g3, by rw [if_pos h48]; exact e4, rfl⟩
      · skip
        -- region 5
        repeat refine HW.seq ?_
        refine HW.region ?_
        refine HL.still (Runs.move g3) ?_
        intro u17 e17
        refine HL.still (Runs.ixS Tryz.underlying9 e17 rfl (j := 0) rfl (at8_dropGet hAl)) ?_
        intro u18 e18
        refine HL.still (Runs.eql e18 rfl (t := false) (by simpa [at8] using h48)) ?_
        intro u19 e19
        refine HL.still (Runs.assign e19) ?_
        intro u16 e16
        refine HL.nil ?_
        refine HW.no e16 ?_
        refine HW.skip ?_
        exact ⟨hz, p0, g3, by rw [if_neg h48]; exact g4, rfl⟩
  clear p0 g3 g4
  rintro f v ⟨hz, p0, g3, g4, rfl⟩
  have hnum : numO s = numD s (numC s (numB s)) := by unfold numO; rw [if_neg hz]
  have hAl : numA s < s.length := by omega
  have hBl : numB s ≤ s.length := by unfold numB; split <;> omega
  have hBe : numB s = numA s + (if at8 s (numA s) = 48 then 1 else digs (s.drop (numA s))) := rfl
  -- region 7
  repeat refine HW.seq ?_
  refine HW.region ?_
  refine HL.still (Runs.move g3) ?_
  intro u20 e20
  refine HL.still (Runs.move g4) ?_
  intro u21 e21
  refine HL.still (Runs.sliceS Tryz.underlying9 e20 (lo := (if at8 s (numA s) = 48 then 1 else digs (s.drop (numA s)))) (hi := (s.drop (numA s)).length) ⟨_, e21⟩ rfl (by omega) (Nat.le_refl _)) ?_
  intro u22 e22
  refine HL.still (Runs.assign e22) ?_
  intro u3 e3
  refine HL.nil ?_
  rw [take_self, List.drop_drop, ← hBe] at e3
  obtain ⟨K, hKd⟩ : ∃ K, K = numB s := ⟨_, rfl⟩
  rw [← hKd] at e3 hBl hnum
  have g3 : u3 = .string (strOf (s.drop K)) := e3
  clear e3 e22 e21 e20 hBe g4
  have hdK := digs_le s (K + 1)
  have hlK : (s.drop K).length = s.length - K := List.length_drop
  have hlK1 : (s.drop (K + 1)).length = s.length - (K + 1) := List.length_drop
  refine HW.seq ?_
  refine HW.mono (N := fun f v => f 0 = .string (strOf s) ∧ f 3 = .string (strOf (s.drop (numC s K))) ∧ Ext h v) ?_ ?_ (fun _ _ _ q => q) (fun _ _ q => q)
  · skip
    -- region 8
    repeat refine HW.seq ?_
    refine HW.region ?_
    refine HL.still (Runs.move g3) ?_
    intro u24 e24
    refine HL.one (HO.call Tryz.func80 bd80 nm80 (args2 e24 rfl) rfl ((cutP_ch _ (s.drop K) [46]).mono ?_))
    rintro _ h3 ⟨rfl, rfl⟩
    intro u25 e25
    refine HL.still (Runs.move e25) ?_
    intro u23 e23
    refine HL.still (Runs.extr e23 rfl) ?_
    intro u26 e26
    refine HL.still (Runs.extr e23 rfl) ?_
    intro u27 e27
    refine HL.still (Runs.assign e26) ?_
    intro u5 e5
    refine HL.still (Runs.assign e27) ?_
    intro u6 e6
    refine HL.nil ?_
    have hc1 := trim1 s K 46 (by decide)
    have hc2 := pref1 (s.drop K) 46 (by decide)
    rw [at8_drop, Nat.add_zero] at hc2
    repeat refine HW.seq ?_
    by_cases h46 : at8 s K = 46
    · have g5 : u5 = .string (strOf (s.drop (K + 1))) := e5.trans (congrArg (fun t => Value.string (strOf t)) (hc1.trans (by rw [if_pos (show at8 s K = ((46 : UInt8).toNat : Int) from h46)])))
      have g6 : u6 = .bool true := e6.trans (congrArg Value.bool (hc2.trans (decide_eq_true h46)))
      by_cases hd : digs (s.drop (K + 1)) > 0
      · have hC : numC s K = K + 1 + digs (s.drop (K + 1)) := by unfold numC; rw [if_pos ⟨h46, hd⟩]
        -- region 9
        repeat refine HW.seq ?_
        refine HW.region ?_
        refine HL.still (Runs.move g6) ?_
        intro u28 e28
        refine HL.still (Runs.move e28) ?_
        intro u29 e29
        refine HL.stillG rfl rfl e29 (Runs.move g5) ?_
        intro u30 e30
        refine HL.oneG rfl rfl e29 (HO.call Tryz.func79 bd79 nm79 (args1 e30) rfl ((digits_ch _ (s.drop (K + 1)) (by omega)).mono ?_))
        rintro _ h4 ⟨rfl, X4⟩
        intro u31 e31
        refine HL.stillG rfl rfl e29 (Runs.gtr e31 rfl (t := true) (decide_eq_true (by omega))) ?_
        intro u32 e32
        refine HL.still (Runs.pick e29 e32) ?_
        intro u33 e33
        refine HL.nil ?_
        repeat refine HW.seq ?_
        refine HW.yes ?_ ?_
        exact e33
        -- region 10
        repeat refine HW.seq ?_
        refine HW.region ?_
        refine HL.still (Runs.move g5) ?_
        intro u34 e34
        refine HL.still (Runs.move g5) ?_
        intro u35 e35
        refine HL.one (HO.call Tryz.func79 bd79 nm79 (args1 e35) rfl ((digits_ch _ (s.drop (K + 1)) (by omega)).mono ?_))
        rintro _ h5 ⟨rfl, X5⟩
        intro u36 e36
        refine HL.still (Runs.sliceS Tryz.underlying9 e34 (lo := digs (s.drop (K + 1))) (hi := (s.drop (K + 1)).length) ⟨_, e36⟩ rfl (by omega) (Nat.le_refl _)) ?_
        intro u37 e37
        refine HL.still (Runs.assign e37) ?_
        intro u3 e3
        refine HL.nil ?_
        rw [take_self, List.drop_drop, ← hC] at e3
        exact ⟨p0, e3, (X2.ext X4 (Nat.le_refl _)).ext X5 (Nat.le_refl _)⟩
      · have hC : numC s K = K := by unfold numC; rw [if_neg (fun q => hd q.2)]
        -- region 9
        repeat refine HW.seq ?_
        refine HW.region ?_
        refine HL.still (Runs.move g6) ?_
        intro u28 e28
        refine HL.still (Runs.move e28) ?_
        intro u29 e29
        refine HL.stillG rfl rfl e29 (Runs.move g5) ?_
        intro u30 e30
        refine HL.oneG rfl rfl e29 (HO.call Tryz.func79 bd79 nm79 (args1 e30) rfl ((digits_ch _ (s.drop (K + 1)) (by omega)).mono ?_))
        rintro _ h4 ⟨rfl, X4⟩
        intro u31 e31
        refine HL.stillG rfl rfl e29 (Runs.gtr e31 rfl (t := false) (decide_eq_false (by omega))) ?_
        intro u32 e32
        refine HL.still (Runs.pick e29 e32) ?_
        intro u33 e33
        refine HL.nil ?_
        refine HW.no e33 ?_
        refine HW.skip ?_
        exact ⟨p0, by rw [hC]; exact g3, X2.ext X4 (Nat.le_refl _)⟩
    · have g6 : u6 = .bool false := e6.trans (congrArg Value.bool (hc2.trans (decide_eq_false h46)))
      have hC : numC s K = K := by unfold numC; rw [if_neg (fun q => h46 q.1)]
      -- region 9
      repeat refine HW.seq ?_
      refine HW.region ?_
      refine HL.still (Runs.move g6) ?_
      intro u28 e28
      refine HL.still (Runs.move e28) ?_
      intro u29 e29
      refine HL.skipG rfl rfl e29 ?_
      intro u30 e30
      refine HL.skipG rfl rfl e29 ?_
      intro u31 e31
      refine HL.skipG rfl rfl e29 ?_
      intro u32 e32
      refine HL.still (Runs.pick e29 rfl) ?_
      intro u33 e33
      refine HL.nil ?_
      refine HW.no e33 ?_
      refine HW.skip ?_
      exact ⟨p0, by rw [hC]; exact g3, X2⟩
  have hCl : numC s K ≤ s.length := by unfold numC; split <;> omega
  clear p0 g3 X2 hdK hlK hlK1 hKd hBl hAl hz hdA hla hT hA e2 e9 e11 e12
  rintro f h5 ⟨p0, g3, X5⟩
  obtain ⟨J, hJ⟩ : ∃ J, J = numC s K := ⟨_, rfl⟩
  rw [← hJ] at g3 hCl hnum
  clear hJ
  refine HW.seq ?_
  refine HW.mono (N := fun f v => f 0 = .string (strOf s) ∧ f 3 = .string (strOf (s.drop (numD s J))) ∧ Ext h v) ?_ ?_ (fun _ _ _ q => q) (fun _ _ q => q)
  · repeat refine HW.seq ?_
    have hMl : numM s (J + 1) ≤ J + 2 := by unfold numM; split <;> omega
    have hMg : J + 1 ≤ numM s (J + 1) := by unfold numM; split <;> omega
    have hdM := digs_le s (numM s (J + 1))
    have hlM : (s.drop (numM s (J + 1))).length = s.length - numM s (J + 1) := List.length_drop
    refine HW.mono (N := fun f v => f 0 = .string (strOf s) ∧ f 3 = .string (strOf (s.drop J)) ∧ f 49 = .bool (decide (at8 s J = 101 ∨ at8 s J = 69)) ∧ h5 = v) ?_ ?_ (fun _ _ _ q => q) (fun _ _ q => q)
    · by_cases hK : J < s.length
      · have hget := at8_dropGet hK
        by_cases ha : at8 s J = 101
        · skip
          -- region 11
          repeat refine HW.seq ?_
          refine HW.region ?_
          refine HL.still (Runs.move g3) ?_
          intro u38 e38
          refine HL.still (Runs.neqS e38 rfl (t := true) (by rw [drop_eq_nil, decide_eq_false (by omega)]; rfl)) ?_
          intro u39 e39
          refine HL.still (Runs.move e39) ?_
          intro u40 e40
          refine HL.stillG rfl rfl e40 (Runs.move g3) ?_
          intro u41 e41
          refine HL.stillG rfl rfl e40 (Runs.ixS Tryz.underlying9 e41 rfl (j := 0) rfl hget) ?_
          intro u42 e42
          refine HL.stillG rfl rfl e40 (Runs.eql e42 rfl (t := true) (by simpa [at8] using ha)) ?_
          intro u43 e43
          refine HL.stillG rfl rfl e40 (Runs.move e43) ?_
          intro u44 e44
          refine HL.skipG rfl rfl e44 ?_
          intro u45 e45
          refine HL.skipG rfl rfl e44 ?_
          intro u46 e46
          refine HL.skipG rfl rfl e44 ?_
          intro u47 e47
          refine HL.stillG rfl rfl e40 (Runs.pick e44 rfl) ?_
          intro u48 e48
          refine HL.still (Runs.pick e40 e48) ?_
          intro u49 e49
          refine HL.nil ?_
          exact ⟨p0, g3, by rw [decide_eq_true (.inl ha)]; exact e49, rfl⟩
        · by_cases hb : at8 s J = 69
          · skip
            -- region 11
            repeat refine HW.seq ?_
            refine HW.region ?_
            refine HL.still (Runs.move g3) ?_
            intro u38 e38
            refine HL.still (Runs.neqS e38 rfl (t := true) (by rw [drop_eq_nil, decide_eq_false (by omega)]; rfl)) ?_
            intro u39 e39
            refine HL.still (Runs.move e39) ?_
            intro u40 e40
            refine HL.stillG rfl rfl e40 (Runs.move g3) ?_
            intro u41 e41
            refine HL.stillG rfl rfl e40 (Runs.ixS Tryz.underlying9 e41 rfl (j := 0) rfl hget) ?_
            intro u42 e42
            refine HL.stillG rfl rfl e40 (Runs.eql e42 rfl (t := false) (by simpa [at8] using ha)) ?_
            intro u43 e43
            refine HL.stillG rfl rfl e40 (Runs.move e43) ?_
            intro u44 e44
            refine HL.stillG rfl rfl e44 (Runs.move g3) ?_
            intro u45 e45
            refine HL.stillG rfl rfl e44 (Runs.ixS Tryz.underlying9 e45 rfl (j := 0) rfl hget) ?_
            intro u46 e46
            refine HL.stillG rfl rfl e44 (Runs.eql e46 rfl (t := true) (by simpa [at8] using hb)) ?_
            intro u47 e47
            refine HL.stillG rfl rfl e40 (Runs.pick e44 e47) ?_
            intro u48 e48
            refine HL.still (Runs.pick e40 e48) ?_
            intro u49 e49
            refine HL.nil ?_
            exact ⟨p0, g3, by rw [decide_eq_true (.inr hb)]; exact e49, rfl⟩
          · skip
            -- region 11
            repeat refine HW.seq ?_
            refine HW.region ?_
            refine HL.still (Runs.move g3) ?_
            intro u38 e38
            refine HL.still (Runs.neqS e38 rfl (t := true) (by rw [drop_eq_nil, decide_eq_false (by omega)]; rfl)) ?_
            intro u39 e39
            refine HL.still (Runs.move e39) ?_
            intro u40 e40
            refine HL.stillG rfl rfl e40 (Runs.move g3) ?_
            intro u41 e41
            refine HL.stillG rfl rfl e40 (Runs.ixS Tryz.underlying9 e41 rfl (j := 0) rfl hget) ?_
            intro u42 e42
            refine HL.stillG rfl rfl e40 (Runs.eql e42 rfl (t := false) (by simpa [at8] using ha)) ?_
            intro u43 e43
            refine HL.stillG rfl rfl e40 (Runs.move e43) ?_
            intro u44 e44
            refine HL.stillG rfl rfl e44 (Runs.move g3) ?_
            intro u45 e45
            refine HL.stillG rfl rfl e44 (Runs.ixS Tryz.underlying9 e45 rfl (j := 0) rfl hget) ?_
            intro u46 e46
            refine HL.stillG rfl rfl e44 (Runs.eql e46 rfl (t := false) (by simpa [at8] using hb)) ?_
            intro u47 e47
            refine HL.stillG rfl rfl e40 (Runs.pick e44 e47) ?_
            intro u48 e48
            refine HL.still (Runs.pick e40 e48) ?_
            intro u49 e49
            refine HL.nil ?_
            exact ⟨p0, g3, by rw [decide_eq_false (fun q => q.elim ha hb)]; exact e49, rfl⟩
      · have h0 := at8_end (s := s) (k := J) (by omega)
        -- region 11
        repeat refine HW.seq ?_
        refine HW.region ?_
        refine HL.still (Runs.move g3) ?_
        intro u38 e38
        refine HL.still (Runs.neqS e38 rfl (t := false) (by rw [drop_eq_nil, decide_eq_true (by omega)]; rfl)) ?_
        intro u39 e39
        refine HL.still (Runs.move e39) ?_
        intro u40 e40
        refine HL.skipG rfl rfl e40 ?_
        intro u41 e41
        refine HL.skipG rfl rfl e40 ?_
        intro u42 e42
        refine HL.skipG rfl rfl e40 ?_
        intro u43 e43
        refine HL.skipG rfl rfl e40 ?_
        intro u44 e44
        refine HL.skipU rfl rfl e44 ?_
        intro u45 e45
        refine HL.skipU rfl rfl e44 ?_
        intro u46 e46
        refine HL.skipU rfl rfl e44 ?_
        intro u47 e47
        refine HL.skipG rfl rfl e40 ?_
        intro u48 e48
        refine HL.still (Runs.pick e40 rfl) ?_
        intro u49 e49
        refine HL.nil ?_
        exact ⟨p0, g3, by rw [h0]; exact e49, rfl⟩
    clear p0 g3
    rintro f v ⟨p0, g3, g49, rfl⟩
    by_cases hE : at8 s J = 101 ∨ at8 s J = 69
    · have hJl : J < s.length := by
        refine Nat.lt_of_not_le fun q => ?_
        have h0 := at8_end (s := s) (k := J) q
        rw [h0] at hE
        rcases hE with q | q <;> cases q
      rw [decide_eq_true hE] at g49
      refine HW.yes g49 ?_
      have hlJ : (s.drop J).length = s.length - J := List.length_drop
      -- region 12
      repeat refine HW.seq ?_
      refine HW.region ?_
      refine HL.still (Runs.move g3) ?_
      intro u50 e50
      refine HL.still (Runs.sliceS Tryz.underlying9 e50 (lo := 1) (hi := (s.drop J).length) ⟨_, rfl⟩ rfl (by omega) (Nat.le_refl _)) ?_
      intro u51 e51
      refine HL.still (Runs.assign e51) ?_
      intro u7 e7
      refine HL.nil ?_
      rw [take_self, List.drop_drop] at e7
      have g7 : u7 = .string (strOf (s.drop (J + 1))) := e7
      clear e7 e51
      refine HW.seq ?_
      refine HW.mono (N := fun f v => f 0 = .string (strOf s) ∧ f 3 = .string (strOf (s.drop J)) ∧ f 7 = .string (strOf (s.drop (numM s (J + 1)))) ∧ h5 = v) ?_ ?_ (fun _ _ _ q => q) (fun _ _ q => q)
      · repeat refine HW.seq ?_
        refine HW.mono (N := fun f v => f 0 = .string (strOf s) ∧ f 3 = .string (strOf (s.drop J)) ∧ f 7 = .string (strOf (s.drop (J + 1))) ∧ f 63 = .bool (decide (at8 s (J + 1) = 43 ∨ at8 s (J + 1) = 45)) ∧ h5 = v) ?_ ?_ (fun _ _ _ q => q) (fun _ _ q => q)
        · by_cases hK : J + 1 < s.length
          · have hget := at8_dropGet hK
            by_cases ha : at8 s (J + 1) = 43
            · skip
              -- region 13
              repeat refine HW.seq ?_
              refine HW.region ?_
              refine HL.still (Runs.move g7) ?_
              intro u52 e52
              refine HL.still (Runs.neqS e52 rfl (t := true) (by rw [drop_eq_nil, decide_eq_false (by omega)]; rfl)) ?_
              intro u53 e53
              refine HL.still (Runs.move e53) ?_
              intro u54 e54
              refine HL.stillG rfl rfl e54 (Runs.move g7) ?_
              intro u55 e55
              refine HL.stillG rfl rfl e54 (Runs.ixS Tryz.underlying9 e55 rfl (j := 0) rfl hget) ?_
              intro u56 e56
              refine HL.stillG rfl rfl e54 (Runs.eql e56 rfl (t := true) (by simpa [at8] using ha)) ?_
              intro u57 e57
              refine HL.stillG rfl rfl e54 (Runs.move e57) ?_
              intro u58 e58
              refine HL.skipG rfl rfl e58 ?_
              intro u59 e59
              refine HL.skipG rfl rfl e58 ?_
              intro u60 e60
              refine HL.skipG rfl rfl e58 ?_
              intro u61 e61
              refine HL.stillG rfl rfl e54 (Runs.pick e58 rfl) ?_
              intro u62 e62
              refine HL.still (Runs.pick e54 e62) ?_
              intro u63 e63
              refine HL.nil ?_
              exact ⟨p0, g3, g7, by rw [decide_eq_true (.inl ha)]; exact e63, rfl⟩
            · by_cases hb : at8 s (J + 1) = 45
              · skip
                -- region 13
                repeat refine HW.seq ?_
                refine HW.region ?_
                refine HL.still (Runs.move g7) ?_
                intro u52 e52
                refine HL.still (Runs.neqS e52 rfl (t := true) (by rw [drop_eq_nil, decide_eq_false (by omega)]; rfl)) ?_
                intro u53 e53
                refine HL.still (Runs.move e53) ?_
                intro u54 e54
                refine HL.stillG rfl rfl e54 (Runs.move g7) ?_
                intro u55 e55
                refine HL.stillG rfl rfl e54 (Runs.ixS Tryz.underlying9 e55 rfl (j := 0) rfl hget) ?_
                intro u56 e56
                refine HL.stillG rfl rfl e54 (Runs.eql e56 rfl (t := false) (by simpa [at8] using ha)) ?_
                intro u57 e57
                refine HL.stillG rfl rfl e54 (Runs.move e57) ?_
                intro u58 e58
                refine HL.stillG rfl rfl e58 (Runs.move g7) ?_
                intro u59 e59
                refine HL.stillG rfl rfl e58 (Runs.ixS Tryz.underlying9 e59 rfl (j := 0) rfl hget) ?_
                intro u60 e60
                refine HL.stillG rfl rfl e58 (Runs.eql e60 rfl (t := true) (by simpa [at8] using hb)) ?_
                intro u61 e61
                refine HL.stillG rfl rfl e54 (Runs.pick e58 e61) ?_
                intro u62 e62
                refine HL.still (Runs.pick e54 e62) ?_
                intro u63 e63
                refine HL.nil ?_
                exact ⟨p0, g3, g7, by rw [decide_eq_true (.inr hb)]; exact e63, rfl⟩
              · skip
                -- region 13
                repeat refine HW.seq ?_
                refine HW.region ?_
                refine HL.still (Runs.move g7) ?_
                intro u52 e52
                refine HL.still (Runs.neqS e52 rfl (t := true) (by rw [drop_eq_nil, decide_eq_false (by omega)]; rfl)) ?_
                intro u53 e53
                refine HL.still (Runs.move e53) ?_
                intro u54 e54
                refine HL.stillG rfl rfl e54 (Runs.move g7) ?_
                intro u55 e55
                refine HL.stillG rfl rfl e54 (Runs.ixS Tryz.underlying9 e55 rfl (j := 0) rfl hget) ?_
                intro u56 e56
                refine HL.stillG rfl rfl e54 (Runs.eql e56 rfl (t := false) (by simpa [at8] using ha)) ?_
                intro u57 e57
                refine HL.stillG rfl rfl e54 (Runs.move e57) ?_
                intro u58 e58
                refine HL.stillG rfl rfl e58 (Runs.move g7) ?_
                intro u59 e59
                refine HL.stillG rfl rfl e58 (Runs.ixS Tryz.underlying9 e59 rfl (j := 0) rfl hget) ?_
                intro u60 e60
                refine HL.stillG rfl rfl e58 (Runs.eql e60 rfl (t := false) (by simpa [at8] using hb)) ?_
                intro u61 e61
                refine HL.stillG rfl rfl e54 (Runs.pick e58 e61) ?_
                intro u62 e62
                refine HL.still (Runs.pick e54 e62) ?_
                intro u63 e63
                refine HL.nil ?_
                exact ⟨p0, g3, g7, by rw [decide_eq_false (fun q => q.elim ha hb)]; exact e63, rfl⟩
          · have h0 := at8_end (s := s) (k := J + 1) (by omega)
            -- region 13
            repeat refine HW.seq ?_
            refine HW.region ?_
            refine HL.still (Runs.move g7) ?_
            intro u52 e52
            refine HL.still (Runs.neqS e52 rfl (t := false) (by rw [drop_eq_nil, decide_eq_true (by omega)]; rfl)) ?_
            intro u53 e53
            refine HL.still (Runs.move e53) ?_
            intro u54 e54
            refine HL.skipG rfl rfl e54 ?_
            intro u55 e55
            refine HL.skipG rfl rfl e54 ?_
            intro u56 e56
            refine HL.skipG rfl rfl e54 ?_
            intro u57 e57
            refine HL.skipG rfl rfl e54 ?_
            intro u58 e58
            refine HL.skipU rfl rfl e58 ?_
            intro u59 e59
            refine HL.skipU rfl rfl e58 ?_
            intro u60 e60
            refine HL.skipU rfl rfl e58 ?_
            intro u61 e61
            refine HL.skipG rfl rfl e54 ?_
            intro u62 e62
            refine HL.still (Runs.pick e54 rfl) ?_
            intro u63 e63
            refine HL.nil ?_
            exact ⟨p0, g3, g7, by rw [h0]; exact e63, rfl⟩
        clear p0 g3 g7
        rintro f v ⟨p0, g3, g7, g63, rfl⟩
        by_cases hS : at8 s (J + 1) = 43 ∨ at8 s (J + 1) = 45
        · have hJl : J + 1 < s.length := by
            refine Nat.lt_of_not_le fun q => ?_
            have h0 := at8_end (s := s) (k := J + 1) q
            rw [h0] at hS
            rcases hS with q | q <;> cases q
          have hlJ : (s.drop (J + 1)).length = s.length - (J + 1) := List.length_drop
          have hM : numM s (J + 1) = J + 1 + 1 := by unfold numM; rw [if_pos hS]
          rw [decide_eq_true hS] at g63
          refine HW.yes g63 ?_
          -- region 14
          repeat refine HW.seq ?_
          refine HW.region ?_
          refine HL.still (Runs.move g7) ?_
          intro u64 e64
          refine HL.still (Runs.sliceS Tryz.underlying9 e64 (lo := 1) (hi := (s.drop (J + 1)).length) ⟨_, rfl⟩ rfl (by omega) (Nat.le_refl _)) ?_
          intro u65 e65
          refine HL.still (Runs.assign e65) ?_
          intro u7 e7
          refine HL.nil ?_
          rw [take_self, List.drop_drop] at e7
          exact ⟨p0, g3, by rw [hM]; exact e7, rfl⟩
        · have hM : numM s (J + 1) = J + 1 := by unfold numM; rw [if_neg hS]
          rw [decide_eq_false hS] at g63
          refine HW.no g63 ?_
          refine HW.skip ?_
          exact ⟨p0, g3, by rw [hM]; exact g7, rfl⟩
      clear p0 g3 g7
      rintro f v ⟨p0, g3, g7, rfl⟩
      -- region 15
      repeat refine HW.seq ?_
      refine HW.region ?_
      refine HL.still (Runs.move g7) ?_
      intro u66 e66
      refine HL.one (HO.call Tryz.func79 bd79 nm79 (args1 e66) rfl ((digits_ch _ (s.drop (numM s (J + 1))) (by omega)).mono ?_))
      rintro _ h6 ⟨rfl, X6⟩
      intro u67 e67
      refine HL.still (Runs.assign e67) ?_
      intro u8 e8
      refine HL.nil ?_
      -- region 16
      repeat refine HW.seq ?_
      refine HW.region ?_
      refine HL.still (Runs.move e8) ?_
      intro u68 e68
      refine HL.still (Runs.gtr e68 rfl (t := decide (digs (s.drop (numM s (J + 1))) > 0)) (decide_eq_decide.2 (by omega))) ?_
      intro u69 e69
      refine HL.nil ?_
      by_cases hd : digs (s.drop (numM s (J + 1))) > 0
      · have hD : numD s J = numM s (J + 1) + digs (s.drop (numM s (J + 1))) := by unfold numD; rw [if_pos ⟨hE, hd⟩]
        refine HW.yes (e69.trans (congrArg Value.bool (decide_eq_true hd))) ?_
        -- region 17
        repeat refine HW.seq ?_
        refine HW.region ?_
        refine HL.still (Runs.move g7) ?_
        intro u70 e70
        refine HL.still (Runs.move e8) ?_
        intro u71 e71
        refine HL.still (Runs.sliceS Tryz.underlying9 e70 (lo := digs (s.drop (numM s (J + 1)))) (hi := (s.drop (numM s (J + 1))).length) ⟨_, e71⟩ rfl (by omega) (Nat.le_refl _)) ?_
        intro u72 e72
        refine HL.still (Runs.assign e72) ?_
        intro u3 e3
        refine HL.nil ?_
        rw [take_self, List.drop_drop, ← hD] at e3
        exact ⟨p0, e3, X5.ext X6 (Nat.le_refl _)⟩
      · have hD : numD s J = J := by unfold numD; rw [if_neg (fun q => hd q.2)]
        refine HW.no (e69.trans (congrArg Value.bool (decide_eq_false hd))) ?_
        refine HW.skip ?_
        exact ⟨p0, by rw [hD]; exact g3, X5.ext X6 (Nat.le_refl _)⟩
    · have hD : numD s J = J := by unfold numD; rw [if_neg (fun q => hE q.1)]
      rw [decide_eq_false hE] at g49
      refine HW.no g49 ?_
      refine HW.skip ?_
      exact ⟨p0, by rw [hD]; exact g3, X5⟩
  have hDl : numD s J ≤ s.length := by
    have hdM := digs_le s (numM s (J + 1))
    unfold numD
    split
    · omega
    · exact hCl
  clear p0 g3
  rintro f h6 ⟨p0, g3, X6⟩
  -- region 18
  repeat refine HW.seq ?_
  refine HW.region ?_
  refine HL.still (Runs.move p0) ?_
  intro u73 e73
  refine HL.still (Runs.lenS rfl Tryz.underlying9 e73) ?_
  intro u74 e74
  refine HL.still (Runs.move g3) ?_
  intro u75 e75
  refine HL.still (Runs.lenS rfl Tryz.underlying9 e75) ?_
  intro u76 e76
  refine HL.still (Runs.sub e74 e76 (i64w (by rw [List.length_drop]; omega))) ?_
  intro u77 e77
  refine HL.still (Runs.assign e77) ?_
  intro u2 e2
  refine HL.nil ?_
  refine HW.ret ?_
  exact RT.one rfl e2 ⟨by rw [hnum]; exact congrArg (Value.int .i64) (by rw [List.length_drop]; omega), X6⟩
end Go.Proofs.YtjopikfkgjbcgaaGreatDoor
/-! The tables that are laid; utf8.ValidString: it is what the document calls valid. -/
namespace Go.Proofs.YtjopikfkgjbcgaaGreatDoor
set_option linter.unnecessarySimpa false
set_option linter.unusedSimpArgs false
set_option linter.unusedVariables false
open Go.RowKit
/-- The tables of utf8 and of strconv lie where they were laid. -/
def Plc (h : Heap) : Prop := ∀ w : World, w.heap = h → Lib.Utf8Tabs 0 1 w ∧ Lib.TabIs Tryz.prog w "internal/strconv.uint64pow10" .u64 Lib.pow10Tab
theorem gpow : Tryz.prog.globalNamed "internal/strconv.uint64pow10" = some 3 := by kernel_rfl
theorem Plc.ext {h h' : Heap} (p : Plc h) (x : Ext h h') : Plc h' := fun w hw => by
  have q := p { w with heap := h } rfl
  refine ⟨⟨fun c hc => ?_, fun i hi => ⟨?_, ?_⟩⟩, ?_⟩
  · have := q.1.1 c hc
    rw [cell_cellH] at this ⊢
    rw [hw, cellH_keep (x.old 0 (lt_of_cellH this))]
    exact this
  · have := (q.1.2 i hi).1
    rw [cell_cellH] at this ⊢
    rw [hw, cellH_keep (x.old 1 (lt_of_cellH this))]
    exact this
  · have := (q.1.2 i hi).2
    rw [cell_cellH] at this ⊢
    rw [hw, cellH_keep (x.old 1 (lt_of_cellH this))]
    exact this
  · have h2 := q.2
    unfold Lib.TabIs World.var? at h2 ⊢
    rw [gpow, Option.bind_some] at h2 ⊢
    have hlt : 3 < h.size := by
      refine Nat.lt_of_not_le fun hle => ?_
      have : h[3]? = none := Array.getElem?_eq_none hle
      simp only [this] at h2
      cases h2
    have e : w.heap[3]? = h[3]? := by rw [hw]; exact x.old 3 hlt
    simp only [e]
    exact h2
theorem all1 (f : Nat → Bool) : (List.range 1).all f = f 0 := by show (f 0 && true) = f 0; simp
theorem all2 (f : Nat → Bool) : (List.range 2).all f = (f 0 && f 1) := by show (f 0 && (f 1 && true)) = _; simp
theorem all3 (f : Nat → Bool) : (List.range 3).all f = (f 0 && (f 1 && f 2)) := by show (f 0 && (f 1 && (f 2 && true))) = _; simp
theorem cont_iff (b : Nat) (hb : b < 256) : cont (b : Int) = decide (b / 64 = 2) := by
  unfold cont
  rw [Bool.eq_iff_iff, Bool.and_eq_true, decide_eq_true_eq, decide_eq_true_eq, decide_eq_true_eq]
  omega
/-- What a decoder's answer says of a size. -/
def szD (d : Nat × Nat) : Nat := if d.1 = 65533 ∧ d.2 = 1 then 0 else d.2
theorem szD_bad : szD (65533, 1) = 0 := rfl
theorem szD_ok (c z : Nat) (hz : z ≠ 1) : szD (c, z) = z := by unfold szD; rw [if_neg (fun q => hz q.2)]
set_option maxHeartbeats 1000000 in
/-- The document's size of a character is the model's own decoder's. -/
theorem sizeO_dec (s : List UInt8) : sizeO s = szD (Lib.decodeL s) := by
  rw [Lib.decodeL_N]
  have hb : ∀ k, (s.getD k 0).toNat < 256 ∧ (s.length ≤ k → (s.getD k 0).toNat = 0) := fun k => by
    refine ⟨(s.getD k 0).toNat_lt, fun hk => ?_⟩
    rw [List.getD_eq_getElem?_getD, List.getElem?_eq_none hk]
    rfl
  have ha : ∀ k, at8 s k = ((s.getD k 0).toNat : Int) := fun _ => rfl
  unfold sizeO
  simp only [ha]
  obtain ⟨h0, _⟩ := hb 0
  obtain ⟨h1, z1⟩ := hb 1
  obtain ⟨h2, z2⟩ := hb 2
  obtain ⟨h3, z3⟩ := hb 3
  generalize (s.getD 0 0).toNat = b0 at *
  have g1 : cont (at8 s 1) = decide ((s.getD 1 0).toNat / 64 = 2) := cont_iff _ h1
  have g2 : cont (at8 s 2) = decide ((s.getD 2 0).toNat / 64 = 2) := cont_iff _ h2
  have g3 : cont (at8 s 3) = decide ((s.getD 3 0).toNat / 64 = 2) := cont_iff _ h3
  rw [ha] at g1 g2 g3
  have k1 : ∀ n, numK s n 1 = n * 64 + ((s.getD 1 0).toNat : Int) - 128 := fun _ => rfl
  have k2 : ∀ n, numK s n 2 = (n * 64 + ((s.getD 1 0).toNat : Int) - 128) * 64 + ((s.getD 2 0).toNat : Int) - 128 := fun _ => rfl
  have k3 : ∀ n, numK s n 3 = ((n * 64 + ((s.getD 1 0).toNat : Int) - 128) * 64 + ((s.getD 2 0).toNat : Int) - 128) * 64 + ((s.getD 3 0).toNat : Int) - 128 := fun _ => rfl
  by_cases c1 : b0 < 128
  · have hl : lead (b0 : Int) = (1, (b0 : Int)) := by unfold lead; rw [if_pos (by omega)]
    rw [hl]
    simp only [if_true]
    unfold Lib.decodeN
    rw [if_pos c1]
    unfold szD
    rw [if_neg (by omega)]
  by_cases c2 : b0 < 192
  · have hl : lead (b0 : Int) = (0, 0) := by unfold lead; rw [if_neg (by omega), if_neg (by omega), if_neg (by omega), if_neg (by omega)]
    rw [hl]
    refine Eq.trans (b := 0) rfl ?_
    unfold Lib.decodeN
    rw [if_neg c1, if_neg (by omega), if_neg (by omega), if_neg (by omega)]
    rfl
  by_cases c3 : b0 < 224
  · have hl : lead (b0 : Int) = (2, (b0 : Int) - 192) := by unfold lead; rw [if_neg (by omega), if_pos (by omega)]
    rw [hl]
    simp only [show (2 : Nat) - 1 = 1 from rfl, all1, k1]
    rw [show (0 : Nat) + 1 = 1 from rfl, g1, if_neg (by decide), if_neg (by decide)]
    generalize (s.getD 1 0).toNat = b1 at *
    have hle : leastO 2 = 128 := rfl
    generalize s.length = n at *
    generalize (s.getD 2 0).toNat = b2 at *
    generalize (s.getD 3 0).toNat = b3 at *
    by_cases q1 : b1 / 64 = 2
    · rw [if_neg (by rw [decide_eq_true q1]; decide), hle]
      by_cases q2 : b0 % 32 * 64 + b1 % 64 ≥ 128
      · have hD : Lib.decodeN n b0 b1 b2 b3 = (b0 % 32 * 64 + b1 % 64, 2) := by
          unfold Lib.decodeN
          rw [if_neg c1, if_pos ⟨by omega, by omega, q1⟩, if_pos q2]
        rw [hD, szD_ok _ _ (by decide), if_neg (by omega)]
      · have hD : Lib.decodeN n b0 b1 b2 b3 = (65533, 1) := by
          unfold Lib.decodeN
          rw [if_neg c1, if_pos ⟨by omega, by omega, q1⟩, if_neg q2]
        rw [hD, szD_bad, if_pos (by omega)]
    · have hD : Lib.decodeN n b0 b1 b2 b3 = (65533, 1) := by
        unfold Lib.decodeN
        rw [if_neg c1, if_neg (fun q => q1 q.2.2), if_neg (by omega), if_neg (by omega)]
      rw [hD, szD_bad, if_pos (by rw [decide_eq_false q1])]
  by_cases c4 : b0 < 240
  · have hl : lead (b0 : Int) = (3, (b0 : Int) - 224) := by unfold lead; rw [if_neg (by omega), if_neg (by omega), if_pos (by omega)]
    rw [hl]
    simp only [show (3 : Nat) - 1 = 2 from rfl, all2, k2]
    rw [show (0 : Nat) + 1 = 1 from rfl, show (1 : Nat) + 1 = 2 from rfl, g1, g2, if_neg (by decide), if_neg (by decide)]
    generalize (s.getD 1 0).toNat = b1 at *
    generalize (s.getD 2 0).toNat = b2 at *
    have hle : leastO 3 = 2048 := rfl
    generalize s.length = n at *
    generalize (s.getD 3 0).toNat = b3 at *
    by_cases q : b1 / 64 = 2 ∧ b2 / 64 = 2
    · obtain ⟨q1, q2⟩ := q
      rw [if_neg (by rw [decide_eq_true q1, decide_eq_true q2]; decide), hle]
      by_cases q3 : b0 % 16 * 4096 + b1 % 64 * 64 + b2 % 64 ≥ 2048 ∧ (b0 % 16 * 4096 + b1 % 64 * 64 + b2 % 64 < 55296 ∨ (57344 ≤ b0 % 16 * 4096 + b1 % 64 * 64 + b2 % 64 ∧ b0 % 16 * 4096 + b1 % 64 * 64 + b2 % 64 ≤ 1114111))
      · have hD : Lib.decodeN n b0 b1 b2 b3 = (b0 % 16 * 4096 + b1 % 64 * 64 + b2 % 64, 3) := by
          unfold Lib.decodeN
          rw [if_neg c1, if_neg (by omega), if_pos ⟨by omega, ⟨by omega, q1⟩, ⟨by omega, q2⟩⟩, if_pos q3]
        rw [hD, szD_ok _ _ (by decide), if_neg (by omega)]
      · have hD : Lib.decodeN n b0 b1 b2 b3 = (65533, 1) := by
          unfold Lib.decodeN
          rw [if_neg c1, if_neg (by omega), if_pos ⟨by omega, ⟨by omega, q1⟩, ⟨by omega, q2⟩⟩, if_neg q3]
        rw [hD, szD_bad, if_pos (by omega)]
    · have hD : Lib.decodeN n b0 b1 b2 b3 = (65533, 1) := by
        unfold Lib.decodeN
        rw [if_neg c1, if_neg (by omega), if_neg (fun r => q ⟨r.2.1.2, r.2.2.2⟩), if_neg (by omega)]
      rw [hD, szD_bad, if_pos (by rw [← Bool.decide_and, decide_eq_false q])]
  by_cases c5 : b0 < 248
  · have hl : lead (b0 : Int) = (4, (b0 : Int) - 240) := by unfold lead; rw [if_neg (by omega), if_neg (by omega), if_neg (by omega), if_pos (by omega)]
    rw [hl]
    simp only [show (4 : Nat) - 1 = 3 from rfl, all3, k3]
    rw [show (0 : Nat) + 1 = 1 from rfl, show (1 : Nat) + 1 = 2 from rfl, show (2 : Nat) + 1 = 3 from rfl, g1, g2, g3, if_neg (by decide), if_neg (by decide)]
    generalize (s.getD 1 0).toNat = b1 at *
    generalize (s.getD 2 0).toNat = b2 at *
    generalize (s.getD 3 0).toNat = b3 at *
    have hle : leastO 4 = 65536 := rfl
    generalize s.length = n at *
    by_cases q : b1 / 64 = 2 ∧ b2 / 64 = 2 ∧ b3 / 64 = 2
    · obtain ⟨q1, q2, q3⟩ := q
      rw [if_neg (by rw [decide_eq_true q1, decide_eq_true q2, decide_eq_true q3]; decide), hle]
      by_cases q4 : b0 % 8 * 262144 + b1 % 64 * 4096 + b2 % 64 * 64 + b3 % 64 ≥ 65536 ∧ (b0 % 8 * 262144 + b1 % 64 * 4096 + b2 % 64 * 64 + b3 % 64 < 55296 ∨ (57344 ≤ b0 % 8 * 262144 + b1 % 64 * 4096 + b2 % 64 * 64 + b3 % 64 ∧ b0 % 8 * 262144 + b1 % 64 * 4096 + b2 % 64 * 64 + b3 % 64 ≤ 1114111))
      · have hD : Lib.decodeN n b0 b1 b2 b3 = (b0 % 8 * 262144 + b1 % 64 * 4096 + b2 % 64 * 64 + b3 % 64, 4) := by
          unfold Lib.decodeN
          rw [if_neg c1, if_neg (by omega), if_neg (by omega), if_pos ⟨by omega, ⟨by omega, q1⟩, ⟨by omega, q2⟩, ⟨by omega, q3⟩⟩, if_pos q4]
        rw [hD, szD_ok _ _ (by decide), if_neg (by omega)]
      · have hD : Lib.decodeN n b0 b1 b2 b3 = (65533, 1) := by
          unfold Lib.decodeN
          rw [if_neg c1, if_neg (by omega), if_neg (by omega), if_pos ⟨by omega, ⟨by omega, q1⟩, ⟨by omega, q2⟩, ⟨by omega, q3⟩⟩, if_neg q4]
        rw [hD, szD_bad, if_pos (by omega)]
    · have hD : Lib.decodeN n b0 b1 b2 b3 = (65533, 1) := by
        unfold Lib.decodeN
        rw [if_neg c1, if_neg (by omega), if_neg (by omega), if_neg (fun r => q ⟨r.2.1.2, r.2.2.1.2, r.2.2.2.2⟩)]
      rw [hD, szD_bad, if_pos (by rw [← Bool.decide_and, ← Bool.decide_and, decide_eq_false q])]
  · have hl : lead (b0 : Int) = (0, 0) := by unfold lead; rw [if_neg (by omega), if_neg (by omega), if_neg (by omega), if_neg (by omega)]
    rw [hl]
    refine Eq.trans (b := 0) rfl ?_
    unfold Lib.decodeN
    rw [if_neg c1, if_neg (by omega), if_neg (by omega), if_neg (by omega)]
    rfl
theorem validN_D : ∀ (n : Nat) (s : List UInt8), s.length ≤ n → validN n s = Lib.validGoD n s
  | 0, s, h => by
    have : s = [] := List.length_eq_zero_iff.1 (by omega)
    subst this
    rfl
  | n + 1, s, h => by
    unfold validN Lib.validGoD
    by_cases hs : s = []
    · rw [if_pos hs, if_pos hs]
    · rw [if_neg hs, if_neg hs, sizeO_dec]
      unfold szD
      by_cases hd : (Lib.decodeL s).1 = 65533 ∧ (Lib.decodeL s).2 = 1
      · rw [if_pos hd, if_pos hd, if_pos rfl]
      · have hw := Lib.decodeL_width s
        rw [if_neg hd, if_neg hd, if_neg (by omega)]
        have := List.length_pos_iff.2 hs
        exact validN_D n _ (by rw [List.length_drop]; omega)
theorem valid_ch (h : Heap) (s : List UInt8) (hP : Plc h) (hs : s.length ≤ 9223372036854775807) : CH Tryz.prog 52 #[.string (strOf s)] h fun v h' => v = .bool (validO s) ∧ Ext h h' :=
  CH.of_below (fun w hw => (Tryz.utf8_ValidString (strOf s) w (by rw [strOf_size]; exact hs) (hP w hw).1).mono fun _ _ ⟨a, b⟩ => ⟨a, b⟩) fun h' x => ⟨congrArg Value.bool (validN_D s.length s (Nat.le_refl _)).symm, x⟩
end Go.Proofs.YtjopikfkgjbcgaaGreatDoor
