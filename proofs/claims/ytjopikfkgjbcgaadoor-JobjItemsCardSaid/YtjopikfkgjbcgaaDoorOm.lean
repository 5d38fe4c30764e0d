/- The document's places: onionskinref12.place, Item, Get, Cut, fine. -/
import Derived.Test.YtjopikfkgjbcgaaDoorOj
namespace Go.Proofs.YtjopikfkgjbcgaaDoor
set_option linter.unnecessarySimpa false
set_option linter.unusedSimpArgs false
set_option linter.unusedVariables false
open Go.RowKit
theorem isPl_alt (l : List JV) (at0 : Int) : isPl l at0 = ((rightO l && decide (at0 ≥ 0)) && decide (at0 < l.length)) := by
  unfold isPl
  rw [Bool.and_comm _ (rightO l), Bool.and_assoc]
set_option maxRecDepth 10000 in
theorem place_ch (h : Heap) (l : List JV) (a : Option Addr) (n cap : Nat) (at0 : Int) (hn : n = l.length) (hB : Jvs h a l) (hl : l.length ≤ 100000) (hOk : OkJ l) :
    CH Tryd.prog 40 #[.slice a n cap, I64 at0] h fun v h' => v = .bool (isPl l at0) ∧ Ext h h' := by
  subst hn
  refine CH.of_body Tryd.func40 rfl rfl rfl ?_
  intro f hf
  have p0 : f 0 = .slice a l.length cap := by rw [hf]; exact fr0_at rfl
  have p1 : f 1 = I64 at0 := by rw [hf]; exact fr0_at rfl
  -- region 0
  repeat refine HW.seq ?_
  refine HW.region ?_
  refine HL.still (Runs.assign rfl) ?_
  intro u4 e4
  refine HL.nil ?_
  -- region 1
  repeat refine HW.seq ?_
  refine HW.region ?_
  refine HL.still (Runs.move p0) ?_
  intro u6 e6
  refine HL.one (HO.call Tryd.func43 bd43 nm43 (args1 e6) rfl ((rightT_ch h l a l.length cap rfl hB hl hOk).mono ?_))
  rintro _ h2 ⟨rfl, X2⟩
  intro u7 e7
  refine HL.still (Runs.assign e7) ?_
  intro u5 e5
  refine HL.nil ?_
  have g5 := e5
  -- region 2
  repeat refine HW.seq ?_
  refine HW.region ?_
  refine HL.still (Runs.move g5) ?_
  intro u8 e8
  refine HL.still (Runs.move e8) ?_
  intro u9 e9
  refine HL.anyG rfl rfl e9 (fun hg => Runs.move p1) ?_
  intro u10 e10
  refine HL.anyG rfl rfl e9 (fun hg => Runs.geq (e10.trans (if_pos hg)) rfl (t := decide (at0 ≥ 0)) rfl) ?_
  intro u11 e11
  refine HL.still (Runs.pick e9 (and_pick e11)) ?_
  intro u12 e12
  refine HL.still (Runs.move e12) ?_
  intro u13 e13
  refine HL.anyG rfl rfl e13 (fun hg => Runs.move p1) ?_
  intro u14 e14
  refine HL.anyG rfl rfl e13 (fun hg => Runs.move p0) ?_
  intro u15 e15
  refine HL.anyG rfl rfl e13 (fun hg => Runs.lenSl rfl Tryd.underlying22 (e15.trans (if_pos hg))) ?_
  intro u16 e16
  refine HL.anyG rfl rfl e13 (fun hg => Runs.lss (e14.trans (if_pos hg)) (e16.trans (if_pos hg)) (t := decide (at0 < l.length)) rfl) ?_
  intro u17 e17
  refine HL.still (Runs.pick e13 (and_pick e17)) ?_
  intro u18 e18
  refine HL.still (Runs.assign e18) ?_
  intro u4 e4
  refine HL.nil ?_
  refine HW.ret ?_
  exact RT.one rfl e4 ⟨by rw [isPl_alt], X2⟩
theorem count_nn {l : List JV} {k : Nat} (hr : rightO l = true) (hk : k < l.length) : 0 ≤ (l.getD k zJ).2.2.2 := by
  obtain ⟨w, hw⟩ := (right_vals hr).drop k
  rw [List.drop_eq_getElem_cons hk] at hw
  have := hw.2.1
  rw [List.getD_eq_getElem?_getD, List.getElem?_eq_getElem hk]
  exact this
set_option maxRecDepth 10000 in
set_option maxHeartbeats 1000000 in
theorem itemR_ch (h : Heap) (l : List JV) (a : Option Addr) (n cap : Nat) (at0 k : Int) (hn : n = l.length) (hB : Jvs h a l) (hl : l.length ≤ 100000) (hOk : OkJ l) :
    CH Tryd.prog 21 #[.slice a n cap, I64 at0, I64 k] h fun v h' => v = I64 (itemO l at0 k) ∧ Ext h h' := by
  subst hn
  refine CH.of_body Tryd.func21 rfl rfl rfl ?_
  intro f hf
  have p0 : f 0 = .slice a l.length cap := by rw [hf]; exact fr0_at rfl
  have p1 : f 1 = I64 at0 := by rw [hf]; exact fr0_at rfl
  have p2 : f 2 = I64 k := by rw [hf]; exact fr0_at rfl
  have hPc := place_ch h l a l.length cap at0 rfl hB hl hOk
  -- region 0
  repeat refine HW.seq ?_
  refine HW.region ?_
  refine HL.still (Runs.assign rfl) ?_
  intro u6 e6
  refine HL.nil ?_
  cases hpl : isPl l at0 with
  | false =>
    rw [hpl] at hPc
    -- region 1
    repeat refine HW.seq ?_
    refine HW.region ?_
    refine HL.still (Runs.move p0) ?_
    intro u10 e10
    refine HL.still (Runs.move p1) ?_
    intro u11 e11
    refine HL.one (HO.call Tryd.func40 bd40 nm40 (args2 e10 e11) rfl ((hPc).mono ?_))
    rintro _ h2 ⟨rfl, X2⟩
    intro u12 e12
    refine HL.still (Runs.assign e12) ?_
    intro u7 e7
    refine HL.nil ?_
    have g7 := e7
    -- region 2
    repeat refine HW.seq ?_
    refine HW.region ?_
    refine HL.still (Runs.move g7) ?_
    intro u13 e13
    refine HL.still (Runs.notb e13 (u := true) rfl) ?_
    intro u14 e14
    refine HL.still (Runs.move e14) ?_
    intro u15 e15
    refine HL.skipG rfl rfl e15 ?_
    intro u16 e16
    refine HL.skipG rfl rfl e15 ?_
    intro u17 e17
    refine HL.still (Runs.pick e15 rfl) ?_
    intro u18 e18
    refine HL.still (Runs.move e18) ?_
    intro u19 e19
    refine HL.skipG rfl rfl e19 ?_
    intro u20 e20
    refine HL.skipG rfl rfl e19 ?_
    intro u21 e21
    refine HL.skipG rfl rfl e19 ?_
    intro u22 e22
    refine HL.skipG rfl rfl e19 ?_
    intro u23 e23
    refine HL.skipG rfl rfl e19 ?_
    intro u24 e24
    refine HL.skipG rfl rfl e19 ?_
    intro u25 e25
    refine HL.skipG rfl rfl e19 ?_
    intro u26 e26
    refine HL.still (Runs.pick e19 rfl) ?_
    intro u27 e27
    refine HL.nil ?_
    refine HW.yes e27 ?_
    -- region 3
    repeat refine HW.seq ?_
    refine HW.region ?_
    refine HL.still (Runs.assign rfl) ?_
    intro u6 e6
    refine HL.nil ?_
    refine HW.ret ?_
    exact RT.one rfl e6 ⟨by unfold itemO; rw [places_no hpl]; simp, X2⟩
  | true =>
    rw [hpl] at hPc
    obtain ⟨k0, rfl, hk0, hr⟩ := isPl_len hpl
    have hcn := count_nn hr hk0
    have hcl := count_le hr hk0
    have hpe := places_yes hpl
    obtain ⟨sb, so, rfl, hc⟩ := hB.at hk0
    obtain ⟨x, hx⟩ : ∃ x, x = l.getD k0 zJ := ⟨_, rfl⟩
    rw [← hx] at hc hpe hcl hcn
    obtain ⟨c, hcE⟩ : ∃ c, c = x.2.2.2.toNat := ⟨_, rfl⟩
    rw [← hcE] at hpe hcl
    have hcI : x.2.2.2 = (c : Int) := by omega
    have hpl2 : (placesO l (k0 : Nat)).length = c := by rw [hpe, iters_len]
    by_cases hneg : k < 0
    · skip
      -- region 1
      repeat refine HW.seq ?_
      refine HW.region ?_
      refine HL.still (Runs.move p0) ?_
      intro u10 e10
      refine HL.still (Runs.move p1) ?_
      intro u11 e11
      refine HL.one (HO.call Tryd.func40 bd40 nm40 (args2 e10 e11) rfl ((hPc).mono ?_))
      rintro _ h2 ⟨rfl, X2⟩
      intro u12 e12
      refine HL.still (Runs.assign e12) ?_
      intro u7 e7
      refine HL.nil ?_
      have g7 := e7
      -- region 2
      repeat refine HW.seq ?_
      refine HW.region ?_
      refine HL.still (Runs.move g7) ?_
      intro u13 e13
      refine HL.still (Runs.notb e13 (u := false) rfl) ?_
      intro u14 e14
      refine HL.still (Runs.move e14) ?_
      intro u15 e15
      refine HL.stillG rfl rfl e15 (Runs.move p2) ?_
      intro u16 e16
      refine HL.stillG rfl rfl e15 (Runs.lss e16 rfl (t := true) (decide_eq_true hneg)) ?_
      intro u17 e17
      refine HL.still (Runs.pick e15 e17) ?_
      intro u18 e18
      refine HL.still (Runs.move e18) ?_
      intro u19 e19
      refine HL.skipG rfl rfl e19 ?_
      intro u20 e20
      refine HL.skipG rfl rfl e19 ?_
      intro u21 e21
      refine HL.skipG rfl rfl e19 ?_
      intro u22 e22
      refine HL.skipG rfl rfl e19 ?_
      intro u23 e23
      refine HL.skipG rfl rfl e19 ?_
      intro u24 e24
      refine HL.skipG rfl rfl e19 ?_
      intro u25 e25
      refine HL.skipG rfl rfl e19 ?_
      intro u26 e26
      refine HL.still (Runs.pick e19 rfl) ?_
      intro u27 e27
      refine HL.nil ?_
      refine HW.yes e27 ?_
      -- region 3
      repeat refine HW.seq ?_
      refine HW.region ?_
      refine HL.still (Runs.assign rfl) ?_
      intro u6 e6
      refine HL.nil ?_
      refine HW.ret ?_
      exact RT.one rfl e6 ⟨by unfold itemO; rw [if_pos (.inl hneg)], X2⟩
    obtain ⟨j, rfl⟩ : ∃ j : Nat, k = j := ⟨k.toNat, by omega⟩
    by_cases hge : j ≥ c
    · skip
      -- region 1
      repeat refine HW.seq ?_
      refine HW.region ?_
      refine HL.still (Runs.move p0) ?_
      intro u10 e10
      refine HL.still (Runs.move p1) ?_
      intro u11 e11
      refine HL.one (HO.call Tryd.func40 bd40 nm40 (args2 e10 e11) rfl ((hPc).mono ?_))
      rintro _ h2 ⟨rfl, X2⟩
      intro u12 e12
      refine HL.still (Runs.assign e12) ?_
      intro u7 e7
      refine HL.nil ?_
      have g7 := e7
      -- region 2
      repeat refine HW.seq ?_
      refine HW.region ?_
      refine HL.still (Runs.move g7) ?_
      intro u13 e13
      refine HL.still (Runs.notb e13 (u := false) rfl) ?_
      intro u14 e14
      refine HL.still (Runs.move e14) ?_
      intro u15 e15
      refine HL.stillG rfl rfl e15 (Runs.move p2) ?_
      intro u16 e16
      refine HL.stillG rfl rfl e15 (Runs.lss e16 rfl (t := false) (decide_eq_false hneg)) ?_
      intro u17 e17
      refine HL.still (Runs.pick e15 e17) ?_
      intro u18 e18
      refine HL.still (Runs.move e18) ?_
      intro u19 e19
      refine HL.stillG rfl rfl e19 (Runs.move p2) ?_
      intro u20 e20
      refine HL.stillG rfl rfl e19 (Runs.move p0) ?_
      intro u21 e21
      refine HL.stillG rfl rfl e19 (Runs.move p1) ?_
      intro u22 e22
      refine HL.stillG rfl rfl e19 (Runs.ixSl (o' := so + k0 * 4) Tryd.underlying22 sz37 e21 e22 (by omega) (by omega) (by omega)) ?_
      intro u23 e23
      refine HL.stillG rfl rfl e19 (Runs.fld (o' := so + k0 * 4 + 3) Tryd.underlying37 rfl sz3 (by decide) e23 (by first | rfl | omega)) ?_
      intro u24 e24
      refine HL.stillG rfl rfl e19 (Runs.load Tryd.underlying3 rfl e24 ((cellH_keep (X2.old sb (lt_of_cellH (hc 3 _ rfl)))).trans (hc 3 _ rfl))) ?_
      intro u25 e25
      refine HL.stillG rfl rfl e19 (Runs.geq e20 e25 (t := true) (decide_eq_true (by rw [hcI]; omega))) ?_
      intro u26 e26
      refine HL.still (Runs.pick e19 e26) ?_
      intro u27 e27
      refine HL.nil ?_
      refine HW.yes e27 ?_
      -- region 3
      repeat refine HW.seq ?_
      refine HW.region ?_
      refine HL.still (Runs.assign rfl) ?_
      intro u6 e6
      refine HL.nil ?_
      refine HW.ret ?_
      exact RT.one rfl e6 ⟨by unfold itemO; rw [if_pos (.inr (by rw [hpl2]; omega))], X2⟩
    · have hit : itemO l (k0 : Nat) (j : Nat) = endIt l j ((k0 : Int) + 1) := by
        unfold itemO
        rw [if_neg (by rw [hpl2]; omega), hpe, Int.toNat_natCast, List.getD_eq_getElem?_getD, iters_get l c _ j (by omega)]
        rfl
      -- region 1
      repeat refine HW.seq ?_
      refine HW.region ?_
      refine HL.still (Runs.move p0) ?_
      intro u10 e10
      refine HL.still (Runs.move p1) ?_
      intro u11 e11
      refine HL.one (HO.call Tryd.func40 bd40 nm40 (args2 e10 e11) rfl ((hPc).mono ?_))
      rintro _ h2 ⟨rfl, X2⟩
      intro u12 e12
      refine HL.still (Runs.assign e12) ?_
      intro u7 e7
      refine HL.nil ?_
      have g7 := e7
      -- region 2
      repeat refine HW.seq ?_
      refine HW.region ?_
      refine HL.still (Runs.move g7) ?_
      intro u13 e13
      refine HL.still (Runs.notb e13 (u := false) rfl) ?_
      intro u14 e14
      refine HL.still (Runs.move e14) ?_
      intro u15 e15
      refine HL.stillG rfl rfl e15 (Runs.move p2) ?_
      intro u16 e16
      refine HL.stillG rfl rfl e15 (Runs.lss e16 rfl (t := false) (decide_eq_false hneg)) ?_
      intro u17 e17
      refine HL.still (Runs.pick e15 e17) ?_
      intro u18 e18
      refine HL.still (Runs.move e18) ?_
      intro u19 e19
      refine HL.stillG rfl rfl e19 (Runs.move p2) ?_
      intro u20 e20
      refine HL.stillG rfl rfl e19 (Runs.move p0) ?_
      intro u21 e21
      refine HL.stillG rfl rfl e19 (Runs.move p1) ?_
      intro u22 e22
      refine HL.stillG rfl rfl e19 (Runs.ixSl (o' := so + k0 * 4) Tryd.underlying22 sz37 e21 e22 (by omega) (by omega) (by omega)) ?_
      intro u23 e23
      refine HL.stillG rfl rfl e19 (Runs.fld (o' := so + k0 * 4 + 3) Tryd.underlying37 rfl sz3 (by decide) e23 (by first | rfl | omega)) ?_
      intro u24 e24
      refine HL.stillG rfl rfl e19 (Runs.load Tryd.underlying3 rfl e24 ((cellH_keep (X2.old sb (lt_of_cellH (hc 3 _ rfl)))).trans (hc 3 _ rfl))) ?_
      intro u25 e25
      refine HL.stillG rfl rfl e19 (Runs.geq e20 e25 (t := false) (decide_eq_false (by rw [hcI]; omega))) ?_
      intro u26 e26
      refine HL.still (Runs.pick e19 e26) ?_
      intro u27 e27
      refine HL.nil ?_
      refine HW.no e27 ?_
      refine HW.skip ?_
      -- region 4
      repeat refine HW.seq ?_
      refine HW.region ?_
      refine HL.still (Runs.move p1) ?_
      intro u28 e28
      refine HL.still (Runs.add e28 rfl (i64w (by omega))) ?_
      intro u29 e29
      refine HL.still (Runs.assign e29) ?_
      intro u8 e8
      refine HL.nil ?_
      -- region 5
      repeat refine HW.seq ?_
      refine HW.region ?_
      refine HL.still (Runs.assign rfl) ?_
      intro u9 e9
      refine HL.nil ?_
      repeat refine HW.seq ?_
      refine HW.block ?_
      refine HW.loop (fun m f u => ∃ i : Nat, i ≤ j ∧ m = j - i ∧ f 9 = I64 i ∧ f 8 = I64 (endIt l i ((k0 : Int) + 1)) ∧ f 0 = .slice (some ⟨sb, so, none⟩) l.length cap ∧ f 2 = I64 (j : Nat) ∧ h2 = u) j
        ⟨0, Nat.zero_le _, rfl, e9, e8, p0, p2, rfl⟩ ?_
      clear e6 e7 g7 e8 e9 e27 p0 p1 p2
      rintro m f u ⟨i, hi, hm, f9, f8, f0, f2, rfl⟩
      by_cases hlt : i < j
      · have her := endIt_range l i ((k0 : Int) + 1) ⟨by omega, by omega⟩
        -- region 6
        repeat refine HW.seq ?_
        refine HW.region ?_
        refine HL.still (Runs.move f9) ?_
        intro u30 e30
        refine HL.still (Runs.move f2) ?_
        intro u31 e31
        refine HL.still (Runs.lss e30 e31 rfl) ?_
        intro u32 e32
        refine HL.nil ?_
        repeat refine HW.seq ?_
        refine HW.yes ?_ ?_
        exact e32.trans (congrArg Value.bool (decide_eq_true (by omega)))
        refine HW.skip ?_
        repeat refine HW.seq ?_
        refine HW.block ?_
        -- region 8
        repeat refine HW.seq ?_
        refine HW.region ?_
        refine HL.still (Runs.move f0) ?_
        intro u35 e35
        refine HL.still (Runs.move f8) ?_
        intro u36 e36
        refine HL.one (HO.call Tryd.func42 bd42 nm42 (args2 e35 e36) rfl ((((endR_ch h2 l _ l.length cap _ rfl (hB.ext X2) (by omega)).mono (K' := fun v h' => v = I64 (endO l (endIt l i ((k0 : Int) + 1))) ∧ h2 = h') fun _ _ q => ⟨q.1, q.2.symm⟩)).mono ?_))
        rintro _ h7 ⟨rfl, rfl⟩
        intro u37 e37
        refine HL.still (Runs.assign e37) ?_
        intro u8 e8
        refine HL.nil ?_
        have g8 := e8
        -- region 7
        repeat refine HW.seq ?_
        refine HW.region ?_
        refine HL.still (Runs.move f9) ?_
        intro u33 e33
        refine HL.still (Runs.add e33 rfl (i64w (by omega))) ?_
        intro u34 e34
        refine HL.still (Runs.assign e34) ?_
        intro u9 e9
        refine HL.nil ?_
        exact ⟨j - (i + 1), by omega, i + 1, by omega, rfl, e9, g8, f0, f2, rfl⟩
      · have hij : i = j := by omega
        subst hij
        -- region 6
        repeat refine HW.seq ?_
        refine HW.region ?_
        refine HL.still (Runs.move f9) ?_
        intro u30 e30
        refine HL.still (Runs.move f2) ?_
        intro u31 e31
        refine HL.still (Runs.lss e30 e31 rfl) ?_
        intro u32 e32
        refine HL.nil ?_
        repeat refine HW.seq ?_
        refine HW.no ?_ ?_
        exact e32.trans (congrArg Value.bool (decide_eq_false (by omega)))
        refine HW.exitHere ?_
        -- region 9
        repeat refine HW.seq ?_
        refine HW.region ?_
        refine HL.still (Runs.move f8) ?_
        intro u38 e38
        refine HL.still (Runs.assign e38) ?_
        intro u6 e6
        refine HL.nil ?_
        refine HW.ret ?_
        exact RT.one rfl e6 ⟨by rw [hit], X2⟩
set_option maxRecDepth 10000 in
set_option maxHeartbeats 1000000 in
theorem getR_ch (h : Heap) (l : List JV) (a : Option Addr) (n cap : Nat) (at0 : Int) (key : List UInt8) (hn : n = l.length) (hB : Jvs h a l) (hl : l.length ≤ 100000) (hOk : OkJ l) :
    CH Tryd.prog 20 #[.slice a n cap, I64 at0, .string (strOf key)] h fun v h' => v = I64 (getO l at0 key) ∧ Ext h h' := by
  subst hn
  refine CH.of_body Tryd.func20 rfl rfl rfl ?_
  intro f hf
  have p0 : f 0 = .slice a l.length cap := by rw [hf]; exact fr0_at rfl
  have p1 : f 1 = I64 at0 := by rw [hf]; exact fr0_at rfl
  have p2 : f 2 = .string (strOf key) := by rw [hf]; exact fr0_at rfl
  have hPc := place_ch h l a l.length cap at0 rfl hB hl hOk
  -- region 0
  repeat refine HW.seq ?_
  refine HW.region ?_
  refine HL.still (Runs.assign rfl) ?_
  intro u6 e6
  refine HL.nil ?_
  cases hpl : isPl l at0 with
  | false =>
    rw [hpl] at hPc
    -- region 1
    repeat refine HW.seq ?_
    refine HW.region ?_
    refine HL.still (Runs.move p0) ?_
    intro u10 e10
    refine HL.still (Runs.move p1) ?_
    intro u11 e11
    refine HL.one (HO.call Tryd.func40 bd40 nm40 (args2 e10 e11) rfl ((hPc).mono ?_))
    rintro _ h2 ⟨rfl, X2⟩
    intro u12 e12
    refine HL.still (Runs.assign e12) ?_
    intro u7 e7
    refine HL.nil ?_
    have g7 := e7
    -- region 2
    repeat refine HW.seq ?_
    refine HW.region ?_
    refine HL.still (Runs.move g7) ?_
    intro u13 e13
    refine HL.still (Runs.notb e13 (u := true) rfl) ?_
    intro u14 e14
    refine HL.still (Runs.move e14) ?_
    intro u15 e15
    refine HL.skipG rfl rfl e15 ?_
    intro u16 e16
    refine HL.skipG rfl rfl e15 ?_
    intro u17 e17
    refine HL.skipG rfl rfl e15 ?_
    intro u18 e18
    refine HL.skipG rfl rfl e15 ?_
    intro u19 e19
    refine HL.skipG rfl rfl e15 ?_
    intro u20 e20
    refine HL.skipG rfl rfl e15 ?_
    intro u21 e21
    refine HL.still (Runs.pick e15 rfl) ?_
    intro u22 e22
    refine HL.nil ?_
    refine HW.yes e22 ?_
    -- region 3
    repeat refine HW.seq ?_
    refine HW.region ?_
    refine HL.still (Runs.assign rfl) ?_
    intro u6 e6
    refine HL.nil ?_
    refine HW.ret ?_
    exact RT.one rfl e6 ⟨by unfold getO; rw [places_no hpl]; rfl, X2⟩
  | true =>
    rw [hpl] at hPc
    obtain ⟨k0, rfl, hk0, hr⟩ := isPl_len hpl
    have hcn := count_nn hr hk0
    have hcl := count_le hr hk0
    have hpe := places_yes hpl
    obtain ⟨sb, so, rfl, hc⟩ := hB.at hk0
    have hg0 : getO l (k0 : Nat) key = match (placesO l (k0 : Nat)).find? (fun k => keyAt l k == key) with | none => -1 | some k => if (l.getD k0 zJ).1 = 6 then k else -1 := rfl
    obtain ⟨x, hx⟩ : ∃ x, x = l.getD k0 zJ := ⟨_, rfl⟩
    rw [← hx] at hc hpe hcl hcn hg0
    obtain ⟨c, hcE⟩ : ∃ c, c = x.2.2.2.toNat := ⟨_, rfl⟩
    rw [← hcE] at hpe hcl
    have hcI : x.2.2.2 = (c : Int) := by omega
    have hpl2 : (placesO l (k0 : Nat)).length = c := by rw [hpe, iters_len]
    by_cases h6 : x.1 = 6
    rotate_left
    · skip
      -- region 1
      repeat refine HW.seq ?_
      refine HW.region ?_
      refine HL.still (Runs.move p0) ?_
      intro u10 e10
      refine HL.still (Runs.move p1) ?_
      intro u11 e11
      refine HL.one (HO.call Tryd.func40 bd40 nm40 (args2 e10 e11) rfl ((hPc).mono ?_))
      rintro _ h2 ⟨rfl, X2⟩
      intro u12 e12
      refine HL.still (Runs.assign e12) ?_
      intro u7 e7
      refine HL.nil ?_
      have g7 := e7
      -- region 2
      repeat refine HW.seq ?_
      refine HW.region ?_
      refine HL.still (Runs.move g7) ?_
      intro u13 e13
      refine HL.still (Runs.notb e13 (u := false) rfl) ?_
      intro u14 e14
      refine HL.still (Runs.move e14) ?_
      intro u15 e15
      refine HL.stillG rfl rfl e15 (Runs.move p0) ?_
      intro u16 e16
      refine HL.stillG rfl rfl e15 (Runs.move p1) ?_
      intro u17 e17
      refine HL.stillG rfl rfl e15 (Runs.ixSl (o' := so + k0 * 4) Tryd.underlying22 sz37 e16 e17 (by omega) (by omega) (by omega)) ?_
      intro u18 e18
      refine HL.stillG rfl rfl e15 (Runs.fld (o' := so + k0 * 4) Tryd.underlying37 rfl sz3 (by decide) e18 (by first | rfl | omega)) ?_
      intro u19 e19
      refine HL.stillG rfl rfl e15 (Runs.load Tryd.underlying3 rfl e19 ((cellH_keep (X2.old sb (lt_of_cellH (hc 0 _ rfl)))).trans (hc 0 _ rfl))) ?_
      intro u20 e20
      refine HL.stillG rfl rfl e15 (Runs.neq e20 rfl (t := true) (by simpa using h6)) ?_
      intro u21 e21
      refine HL.still (Runs.pick e15 e21) ?_
      intro u22 e22
      refine HL.nil ?_
      refine HW.yes e22 ?_
      -- region 3
      repeat refine HW.seq ?_
      refine HW.region ?_
      refine HL.still (Runs.assign rfl) ?_
      intro u6 e6
      refine HL.nil ?_
      refine HW.ret ?_
      refine RT.one rfl e6 ⟨?_, X2⟩
      rw [hg0]
      cases (placesO l (k0 : Nat)).find? (fun k => keyAt l k == key) with
      | none => rfl
      | some k =>
        show _ = I64 (if x.1 = 6 then k else -1)
        rw [if_neg h6]
    · skip
      -- region 1
      repeat refine HW.seq ?_
      refine HW.region ?_
      refine HL.still (Runs.move p0) ?_
      intro u10 e10
      refine HL.still (Runs.move p1) ?_
      intro u11 e11
      refine HL.one (HO.call Tryd.func40 bd40 nm40 (args2 e10 e11) rfl ((hPc).mono ?_))
      rintro _ h2 ⟨rfl, X2⟩
      intro u12 e12
      refine HL.still (Runs.assign e12) ?_
      intro u7 e7
      refine HL.nil ?_
      have g7 := e7
      -- region 2
      repeat refine HW.seq ?_
      refine HW.region ?_
      refine HL.still (Runs.move g7) ?_
      intro u13 e13
      refine HL.still (Runs.notb e13 (u := false) rfl) ?_
      intro u14 e14
      refine HL.still (Runs.move e14) ?_
      intro u15 e15
      refine HL.stillG rfl rfl e15 (Runs.move p0) ?_
      intro u16 e16
      refine HL.stillG rfl rfl e15 (Runs.move p1) ?_
      intro u17 e17
      refine HL.stillG rfl rfl e15 (Runs.ixSl (o' := so + k0 * 4) Tryd.underlying22 sz37 e16 e17 (by omega) (by omega) (by omega)) ?_
      intro u18 e18
      refine HL.stillG rfl rfl e15 (Runs.fld (o' := so + k0 * 4) Tryd.underlying37 rfl sz3 (by decide) e18 (by first | rfl | omega)) ?_
      intro u19 e19
      refine HL.stillG rfl rfl e15 (Runs.load Tryd.underlying3 rfl e19 ((cellH_keep (X2.old sb (lt_of_cellH (hc 0 _ rfl)))).trans (hc 0 _ rfl))) ?_
      intro u20 e20
      refine HL.stillG rfl rfl e15 (Runs.neq e20 rfl (t := false) (by rw [h6]; rfl)) ?_
      intro u21 e21
      refine HL.still (Runs.pick e15 e21) ?_
      intro u22 e22
      refine HL.nil ?_
      refine HW.no e22 ?_
      refine HW.skip ?_
      -- region 4
      repeat refine HW.seq ?_
      refine HW.region ?_
      refine HL.still (Runs.assign rfl) ?_
      intro u8 e8
      refine HL.nil ?_
      repeat refine HW.seq ?_
      refine HW.block ?_
      refine HW.loop (fun m f u => ∃ i : Nat, i ≤ c ∧ m = c - i ∧ f 8 = I64 i ∧ f 0 = .slice (some ⟨sb, so, none⟩) l.length cap ∧ f 1 = I64 (k0 : Nat) ∧ f 2 = .string (strOf key) ∧ (∀ y ∈ (placesO l (k0 : Nat)).take i, (keyAt l y == key) = false) ∧ Ext h u) c
        ⟨0, Nat.zero_le _, rfl, e8, p0, p1, p2, (fun y hy => by simp at hy), X2⟩ ?_
      clear e6 e7 g7 e8 e22 p0 p1 p2
      rintro m f u ⟨i, hi, hm, f8, f0, f1, f2, hno, hX⟩
      have hcu : ∀ i v, (encJ x)[i]? = some v → cellH u sb (so + k0 * 4 + i) = some v := fun i v q => (cellH_keep (hX.old sb (lt_of_cellH (hc i v q)))).trans (hc i v q)
      by_cases hlt : i < c
      · have hpi : i < (placesO l (k0 : Nat)).length := by omega
        obtain ⟨y, hy⟩ : ∃ y, y = (placesO l (k0 : Nat)).getD i 0 := ⟨_, rfl⟩
        have hyg : (placesO l (k0 : Nat))[i] = y := by rw [hy, List.getD_eq_getElem?_getD, List.getElem?_eq_getElem hpi]; rfl
        have hym : y ∈ placesO l (k0 : Nat) := by rw [← hyg]; exact List.getElem_mem hpi
        obtain ⟨hy0, hy1⟩ := places_lt hym
        have hit : itemO l (k0 : Nat) (i : Nat) = y := by
          unfold itemO
          rw [if_neg (by rw [hpl2]; omega), Int.toNat_natCast, ← hy]
        obtain ⟨ky, rfl⟩ : ∃ ky : Nat, y = ky := ⟨y.toNat, by omega⟩
        have hI := itemR_ch u l (some ⟨sb, so, none⟩) l.length cap (k0 : Nat) (i : Nat) rfl (hB.ext hX) hl hOk
        rw [hit] at hI
        -- region 5
        repeat refine HW.seq ?_
        refine HW.region ?_
        refine HL.still (Runs.move f8) ?_
        intro u23 e23
        refine HL.still (Runs.move f0) ?_
        intro u24 e24
        refine HL.still (Runs.move f1) ?_
        intro u25 e25
        refine HL.still (Runs.ixSl (o' := so + k0 * 4) Tryd.underlying22 sz37 e24 e25 (by omega) (by omega) (by omega)) ?_
        intro u26 e26
        refine HL.still (Runs.fld (o' := so + k0 * 4 + 3) Tryd.underlying37 rfl sz3 (by decide) e26 (by first | rfl | omega)) ?_
        intro u27 e27
        refine HL.still (Runs.load Tryd.underlying3 rfl e27 (hcu 3 _ rfl)) ?_
        intro u28 e28
        refine HL.still (Runs.lss e23 e28 (t := true) (decide_eq_true (by rw [hcI]; omega))) ?_
        intro u29 e29
        refine HL.nil ?_
        refine HW.yes e29 ?_
        refine HW.skip ?_
        repeat refine HW.seq ?_
        refine HW.block ?_
        -- region 7
        repeat refine HW.seq ?_
        refine HW.region ?_
        refine HL.still (Runs.move f0) ?_
        intro u32 e32
        refine HL.still (Runs.move f1) ?_
        intro u33 e33
        refine HL.still (Runs.move f8) ?_
        intro u34 e34
        refine HL.one (HO.call Tryd.func21 bd21 nm21 (args3 e32 e33 e34) rfl ((hI).mono ?_))
        rintro _ h5 ⟨rfl, X5⟩
        intro u35 e35
        refine HL.still (Runs.assign e35) ?_
        intro u9 e9
        refine HL.nil ?_
        have g9 := e9
        obtain ⟨sb', so', e', hcy⟩ := (hB.ext (hX.ext X5 (Nat.le_refl _))).at (show ky < l.length by omega)
        cases e'
        have hkat : keyAt l (ky : Int) = (l.getD ky zJ).2.1 := rfl
        cases hyk : keyAt l (ky : Int) == key with
        | true =>
          -- region 8
          repeat refine HW.seq ?_
          refine HW.region ?_
          refine HL.still (Runs.move f0) ?_
          intro u36 e36
          refine HL.still (Runs.move g9) ?_
          intro u37 e37
          refine HL.still (Runs.ixSl (o' := so + ky * 4) Tryd.underlying22 sz37 e36 e37 (by omega) (by omega) (by omega)) ?_
          intro u38 e38
          refine HL.still (Runs.fld (o' := so + ky * 4 + 1) Tryd.underlying37 rfl sz9 (by decide) e38 (by first | rfl | omega)) ?_
          intro u39 e39
          refine HL.still (Runs.load Tryd.underlying9 rfl e39 (hcy 1 _ rfl)) ?_
          intro u40 e40
          refine HL.still (Runs.move f2) ?_
          intro u41 e41
          refine HL.still (Runs.eqS e40 e41 (t := true) hyk) ?_
          intro u42 e42
          refine HL.nil ?_
          refine HW.yes e42 ?_
          -- region 9
          repeat refine HW.seq ?_
          refine HW.region ?_
          refine HL.still (Runs.move g9) ?_
          intro u43 e43
          refine HL.still (Runs.assign e43) ?_
          intro u6 e6
          refine HL.nil ?_
          refine HW.ret ?_
          refine RT.one rfl e6 ⟨?_, hX.ext X5 (Nat.le_refl _)⟩
          have hf : (placesO l (k0 : Nat)).find? (fun k => keyAt l k == key) = some (ky : Int) := by
            have hsp : placesO l (k0 : Nat) = (placesO l (k0 : Nat)).take i ++ ((ky : Int) :: (placesO l (k0 : Nat)).drop (i + 1)) := by
              rw [← hyg, ← List.drop_eq_getElem_cons hpi, List.take_append_drop]
            rw [hsp, List.find?_append, List.find?_eq_none.2 (fun z hz => by rw [hno z hz]; decide), List.find?_cons, hyk]
            rfl
          rw [hg0, hf]
          show _ = I64 (if x.1 = 6 then (ky : Int) else -1)
          rw [if_pos h6]
        | false =>
          -- region 8
          repeat refine HW.seq ?_
          refine HW.region ?_
          refine HL.still (Runs.move f0) ?_
          intro u36 e36
          refine HL.still (Runs.move g9) ?_
          intro u37 e37
          refine HL.still (Runs.ixSl (o' := so + ky * 4) Tryd.underlying22 sz37 e36 e37 (by omega) (by omega) (by omega)) ?_
          intro u38 e38
          refine HL.still (Runs.fld (o' := so + ky * 4 + 1) Tryd.underlying37 rfl sz9 (by decide) e38 (by first | rfl | omega)) ?_
          intro u39 e39
          refine HL.still (Runs.load Tryd.underlying9 rfl e39 (hcy 1 _ rfl)) ?_
          intro u40 e40
          refine HL.still (Runs.move f2) ?_
          intro u41 e41
          refine HL.still (Runs.eqS e40 e41 (t := false) hyk) ?_
          intro u42 e42
          refine HL.nil ?_
          refine HW.no e42 ?_
          refine HW.skip ?_
          -- region 6
          repeat refine HW.seq ?_
          refine HW.region ?_
          refine HL.still (Runs.move f8) ?_
          intro u30 e30
          refine HL.still (Runs.add e30 rfl (i64w (by omega))) ?_
          intro u31 e31
          refine HL.still (Runs.assign e31) ?_
          intro u8 e8
          refine HL.nil ?_
          refine ⟨c - (i + 1), by omega, i + 1, by omega, rfl, e8, f0, f1, f2, ?_, hX.ext X5 (Nat.le_refl _)⟩
          intro z hz
          rw [List.take_succ_eq_append_getElem hpi, hyg] at hz
          rcases List.mem_append.1 hz with q | q
          · exact hno z q
          · have q : z = (ky : Int) := List.mem_singleton.1 q
            rw [q]
            exact hyk
      · have hic : i = c := by omega
        subst hic
        rw [List.take_of_length_le (by omega)] at hno
        -- region 5
        repeat refine HW.seq ?_
        refine HW.region ?_
        refine HL.still (Runs.move f8) ?_
        intro u23 e23
        refine HL.still (Runs.move f0) ?_
        intro u24 e24
        refine HL.still (Runs.move f1) ?_
        intro u25 e25
        refine HL.still (Runs.ixSl (o' := so + k0 * 4) Tryd.underlying22 sz37 e24 e25 (by omega) (by omega) (by omega)) ?_
        intro u26 e26
        refine HL.still (Runs.fld (o' := so + k0 * 4 + 3) Tryd.underlying37 rfl sz3 (by decide) e26 (by first | rfl | omega)) ?_
        intro u27 e27
        refine HL.still (Runs.load Tryd.underlying3 rfl e27 (hcu 3 _ rfl)) ?_
        intro u28 e28
        refine HL.still (Runs.lss e23 e28 (t := false) (decide_eq_false (by rw [hcI]; omega))) ?_
        intro u29 e29
        refine HL.nil ?_
        refine HW.no e29 ?_
        refine HW.exitHere ?_
        -- region 10
        repeat refine HW.seq ?_
        refine HW.region ?_
        refine HL.still (Runs.assign rfl) ?_
        intro u6 e6
        refine HL.nil ?_
        refine HW.ret ?_
        refine RT.one rfl e6 ⟨?_, hX⟩
        rw [hg0, List.find?_eq_none.2 (fun z hz => by rw [hno z hz]; decide)]
set_option maxRecDepth 10000 in
set_option maxHeartbeats 1000000 in
theorem cutR_ch (h : Heap) (l : List JV) (a : Option Addr) (n cap : Nat) (at0 : Int) (hn : n = l.length) (hcap : l.length ≤ cap) (hB : Jvs h a l) (hl : l.length ≤ 100000) (hOk : OkJ l) :
    CH Tryd.prog 19 #[.slice a n cap, I64 at0] h fun v h' => ∃ a' c', v = .slice a' (cutO l at0).length c' ∧ Js h' h.size a' c' (cutO l at0) ∧ Ext h h' := by
  subst hn
  refine CH.of_body Tryd.func19 rfl rfl rfl ?_
  intro f hf
  have p0 : f 0 = .slice a l.length cap := by rw [hf]; exact fr0_at rfl
  have p1 : f 1 = I64 at0 := by rw [hf]; exact fr0_at rfl
  have hPc := place_ch h l a l.length cap at0 rfl hB hl hOk
  -- region 0
  repeat refine HW.seq ?_
  refine HW.region ?_
  refine HL.still (Runs.assign rfl) ?_
  intro u4 e4
  refine HL.nil ?_
  cases hpl : isPl l at0 with
  | false =>
    rw [hpl] at hPc
    have hcn : cutO l at0 = [] := by unfold cutO; rw [if_neg (by rw [hpl]; decide)]
    -- region 1
    repeat refine HW.seq ?_
    refine HW.region ?_
    refine HL.still (Runs.move p0) ?_
    intro u6 e6
    refine HL.still (Runs.move p1) ?_
    intro u7 e7
    refine HL.one (HO.call Tryd.func40 bd40 nm40 (args2 e6 e7) rfl ((hPc).mono ?_))
    rintro _ h2 ⟨rfl, X2⟩
    intro u8 e8
    refine HL.still (Runs.assign e8) ?_
    intro u5 e5
    refine HL.nil ?_
    have g5 := e5
    -- region 2
    repeat refine HW.seq ?_
    refine HW.region ?_
    refine HL.still (Runs.move g5) ?_
    intro u9 e9
    refine HL.still (Runs.notb e9 (u := true) rfl) ?_
    intro u10 e10
    refine HL.nil ?_
    refine HW.yes e10 ?_
    -- region 3
    repeat refine HW.seq ?_
    refine HW.region ?_
    refine HL.still (Runs.assign rfl) ?_
    intro u4 e4
    refine HL.nil ?_
    refine HW.ret ?_
    exact RT.one rfl e4 ⟨none, 0, by rw [hcn]; rfl, by rw [hcn]; exact Js.start _ _, X2⟩
  | true =>
    rw [hpl] at hPc
    obtain ⟨k0, rfl, hk0, hr⟩ := isPl_len hpl
    obtain ⟨hE1, hE2⟩ := endO_right hr hk0
    obtain ⟨E, hE⟩ : ∃ E : Nat, endO l (k0 : Nat) = E := ⟨(endO l (k0 : Nat)).toNat, by omega⟩
    have hcut : cutO l (k0 : Nat) = namedO ((l.take E).drop k0) [] := by
      unfold cutO
      rw [if_pos hpl, hE]
      rfl
    rw [hE] at hE1 hE2
    have hEl : ((l.take E).drop k0).length = E - k0 := by rw [List.length_drop, List.length_take]; omega
    -- region 1
    repeat refine HW.seq ?_
    refine HW.region ?_
    refine HL.still (Runs.move p0) ?_
    intro u6 e6
    refine HL.still (Runs.move p1) ?_
    intro u7 e7
    refine HL.one (HO.call Tryd.func40 bd40 nm40 (args2 e6 e7) rfl ((hPc).mono ?_))
    rintro _ h2 ⟨rfl, X2⟩
    intro u8 e8
    refine HL.still (Runs.assign e8) ?_
    intro u5 e5
    refine HL.nil ?_
    have g5 := e5
    -- region 2
    repeat refine HW.seq ?_
    refine HW.region ?_
    refine HL.still (Runs.move g5) ?_
    intro u9 e9
    refine HL.still (Runs.notb e9 (u := false) rfl) ?_
    intro u10 e10
    refine HL.nil ?_
    refine HW.no e10 ?_
    refine HW.skip ?_
    have hB2 := hB.ext X2
    have hEnd := endR_ch h2 l a l.length cap (k0 : Nat) rfl hB2 (by omega)
    rw [hE] at hEnd
    have hsub : Jvs h2 (if cap = k0 then a else a.map (·.add (k0 * 4))) ((l.take E).drop k0) := (hB2.take E).drop k0 (by rw [List.length_take]; omega) (by rw [List.length_take]; omega) rfl
    -- region 4
    repeat refine HW.seq ?_
    refine HW.region ?_
    refine HL.still (Runs.move p0) ?_
    intro u11 e11
    refine HL.still (Runs.move p1) ?_
    intro u12 e12
    refine HL.still (Runs.move p0) ?_
    intro u13 e13
    refine HL.still (Runs.move p1) ?_
    intro u14 e14
    refine HL.one (HO.call Tryd.func42 bd42 nm42 (args2 e13 e14) rfl ((hEnd).mono ?_))
    rintro _ h3 ⟨rfl, hh3⟩
    intro u15 e15
    refine HL.still (Runs.sliceSl Tryd.underlying22 sz37 e11 (lo := k0) (hi := E) ⟨_, e12⟩ ⟨_, e15⟩ (by omega) (by omega) rfl) ?_
    intro u16 e16
    refine HL.one (HO.call Tryd.func41 bd41 nm41 (args2 e16 rfl) rfl ((namedR_ch h3 ((l.take E).drop k0) _ _ _ [] hEl.symm (by rw [hh3]; exact hsub) (by omega)).mono ?_))
    rintro _ h4 ⟨a', c', rfl, J4, X4⟩
    intro u17 e17
    refine HL.still (Runs.assign e17) ?_
    intro u4 e4
    refine HL.nil ?_
    subst hh3
    refine HW.ret ?_
    exact RT.one rfl e4 ⟨a', c', by rw [hcut], by rw [hcut]; exact J4.low X2.size, X2.ext X4 (Nat.le_refl _)⟩
set_option maxRecDepth 10000 in
/-- A row that is handed back as it is, or none. -/
theorem fine_ch (h : Heap) (l : List JV) (a : Option Addr) (n cap : Nat) (hn : n = l.length) (hB : Jvs h a l) (hl : l.length ≤ 100000) (hOk : OkJ l) :
    CH Tryd.prog 45 #[.slice a n cap] h fun v h' => v = (if rightO l = true then .slice a n cap else .slice none 0 0) ∧ Ext h h' := by
  subst hn
  refine CH.of_body Tryd.func45 rfl rfl rfl ?_
  intro f hf
  have p0 : f 0 = .slice a l.length cap := by rw [hf]; exact fr0_at rfl
  have hR := rightT_ch h l a l.length cap rfl hB hl hOk
  -- region 0
  repeat refine HW.seq ?_
  refine HW.region ?_
  refine HL.still (Runs.assign rfl) ?_
  intro u2 e2
  refine HL.nil ?_
  cases hr : rightO l with
  | false =>
    rw [hr] at hR
    -- region 1
    repeat refine HW.seq ?_
    refine HW.region ?_
    refine HL.still (Runs.move p0) ?_
    intro u4 e4
    refine HL.one (HO.call Tryd.func43 bd43 nm43 (args1 e4) rfl ((hR).mono ?_))
    rintro _ h2 ⟨rfl, X2⟩
    intro u5 e5
    refine HL.still (Runs.assign e5) ?_
    intro u3 e3
    refine HL.nil ?_
    have g3 := e3
    -- region 2
    repeat refine HW.seq ?_
    refine HW.region ?_
    refine HL.still (Runs.move g3) ?_
    intro u6 e6
    refine HL.still (Runs.notb e6 (u := true) rfl) ?_
    intro u7 e7
    refine HL.nil ?_
    refine HW.yes e7 ?_
    -- region 3
    repeat refine HW.seq ?_
    refine HW.region ?_
    refine HL.still (Runs.assign rfl) ?_
    intro u2 e2
    refine HL.nil ?_
    refine HW.ret ?_
    exact RT.one rfl e2 ⟨by rw [if_neg (by decide)], X2⟩
  | true =>
    rw [hr] at hR
    -- region 1
    repeat refine HW.seq ?_
    refine HW.region ?_
    refine HL.still (Runs.move p0) ?_
    intro u4 e4
    refine HL.one (HO.call Tryd.func43 bd43 nm43 (args1 e4) rfl ((hR).mono ?_))
    rintro _ h2 ⟨rfl, X2⟩
    intro u5 e5
    refine HL.still (Runs.assign e5) ?_
    intro u3 e3
    refine HL.nil ?_
    have g3 := e3
    -- region 2
    repeat refine HW.seq ?_
    refine HW.region ?_
    refine HL.still (Runs.move g3) ?_
    intro u6 e6
    refine HL.still (Runs.notb e6 (u := false) rfl) ?_
    intro u7 e7
    refine HL.nil ?_
    refine HW.no e7 ?_
    refine HW.skip ?_
    -- region 4
    repeat refine HW.seq ?_
    refine HW.region ?_
    refine HL.still (Runs.move p0) ?_
    intro u8 e8
    refine HL.still (Runs.assign e8) ?_
    intro u2 e2
    refine HL.nil ?_
    refine HW.ret ?_
    exact RT.one rfl e2 ⟨by rw [if_pos rfl], X2⟩
end Go.Proofs.YtjopikfkgjbcgaaDoor
