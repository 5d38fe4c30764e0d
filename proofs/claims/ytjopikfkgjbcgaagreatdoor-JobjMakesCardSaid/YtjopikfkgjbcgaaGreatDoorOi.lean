/- Places: jobj.kids, Item, Cut; onionskinref12.place, Item, Cut. -/
import Derived.Test.YtjopikfkgjbcgaaGreatDoorOh
import Derived.Test.YtjopikfkgjbcgaaGreatDoorRa
namespace Go.Proofs.YtjopikfkgjbcgaaGreatDoor
set_option linter.unnecessarySimpa false
set_option linter.unusedSimpArgs false
set_option linter.unusedVariables false
open Go.RowKit
abbrev gI (n : Int) : Value := I64 n
theorem in3 : (Tryz.prog.info? 3).map (fun i => (i.zero, i.size, i.bytes)) = some (some (gI 0), 1, 8) := by kernel_rfl
theorem one3 (n : Int) : (gI n).oneCell' = true := rfl
section
variable {ρ : Operand → Value} {h : Heap} {d : Option Tmp} {ty : TypeId} {pos : String} {af : Array Edge} {gd : Option (Nat × Bool)} {K : Value → Heap → Prop} {x y : Operand}
theorem run_int1 (n : Int) (w : World) : (Instr.buildSlice 47 1 #[(0, .int .i64 n)]).run Tryz.prog w = .ok (.slice (some ⟨w.heap.size, 0, none⟩) 1 1) (w.alloc (.cells #[.int .i64 n] 3)) := by kernel_rfl
set_option maxRecDepth 10000 in
theorem HO.int1 (n : Int) (hx : ρ x = gI n) (k : ∀ h', Nw h h' (.cells ([n].map gI).toArray 3 (0, 0)) → K (.slice (some ⟨h.size, 0, none⟩) 1 1) h') : HO Tryz.prog ⟨d, .buildSlice 47 1 #[(0, x)], ty, pos, af, gd⟩ ρ h K :=
  HO.buildSlice (cells := [n].map gI) (fun w => by
    have e : (#[(0, x)] : Array (Nat × Operand)).map (fun (i, x) => (i, ρ x)) = #[(0, gI n)] := by simp [hx]
    rw [e]
    exact run_int1 _ w) k
end
theorem iters_len (l : List JV) : ∀ (c : Nat) (k : Int), (itersE l c k).length = c
  | 0, _ => rfl
  | c + 1, k => by simp [itersE, iters_len]
/-- So many ends on. -/
def endIt (l : List JV) : Nat → Int → Int
  | 0, k => k
  | i + 1, k => endO l (endIt l i k)
theorem endIt_shift (l : List JV) : ∀ (i : Nat) (k : Int), endIt l i (endO l k) = endIt l (i + 1) k
  | 0, _ => rfl
  | i + 1, k => by rw [endIt, endIt_shift l i k]; rfl
theorem iters_get (l : List JV) : ∀ (c : Nat) (k : Int) (i : Nat), i < c → (itersE l c k)[i]? = some (endIt l i k)
  | 0, _, _, h => by omega
  | c + 1, k, 0, _ => rfl
  | c + 1, k, i + 1, h => by rw [itersE, List.getElem?_cons_succ, iters_get l c _ i (by omega), endIt_shift]
theorem iters_snoc (l : List JV) : ∀ (c : Nat) (k : Int), itersE l (c + 1) k = itersE l c k ++ [endIt l c k]
  | 0, _ => rfl
  | c + 1, k => by
    rw [itersE, iters_snoc l c, endIt_shift]
    rfl
theorem endIt_range (l : List JV) (i : Nat) (k : Int) (hk : -1 ≤ k ∧ k ≤ l.length) : -1 ≤ endIt l i k ∧ endIt l i k ≤ l.length := by
  cases i with
  | zero => exact hk
  | succ i =>
    rcases endO_range l (endIt l i k) with h | h
    · rw [endIt, h]; omega
    · rw [endIt]; omega
/-- What a value has is no more than there is. -/
theorem count_le {l : List JV} {k : Nat} (hr : rightO l = true) (hk : k < l.length) : (l.getD k zJ).2.2.2.toNat < l.length := by
  obtain ⟨ks, q, e, hl, hv⟩ := place_split hr hk
  have h1 := (Vals.flat hv).le
  have h2 : l.length = (k + 1) + (ks.flatten.length + q.length) := by
    conv => lhs; rw [e]
    rw [List.length_append, List.length_append, List.length_take]
    omega
  omega
theorem isPl_len {l : List JV} {at0 : Int} (h : isPl l at0 = true) : ∃ k : Nat, at0 = k ∧ k < l.length ∧ rightO l = true := by
  obtain ⟨h0, h1, h2⟩ := isPl_iff.1 h
  exact ⟨at0.toNat, by omega, by omega, h2⟩
theorem places_no {l : List JV} {at0 : Int} (h : isPl l at0 = false) : placesO l at0 = [] := by
  unfold placesO
  rw [if_neg (by rw [h]; decide)]
theorem places_yes {l : List JV} {k : Nat} (h : isPl l (k : Nat) = true) : placesO l (k : Nat) = itersE l (l.getD k zJ).2.2.2.toNat ((k : Int) + 1) := by
  unfold placesO
  rw [if_pos h, Int.toNat_natCast]
set_option maxRecDepth 10000 in
set_option maxHeartbeats 2000000 in
theorem kids_ch (h : Heap) (l : List JV) (a : Option Addr) (n cap : Nat) (at0 : Int) (hn : n = l.length) (hB : Jvs h a l) (hP : Plc h) (hl : l.length ≤ 100000) (hOk : OkJ l) :
    CH Tryz.prog 27 #[.slice a n cap, I64 at0] h fun v h' => ∃ a' c', v = .slice a' (placesO l at0).length c' ∧ Rs gI h' h.size 3 a' c' (placesO l at0) ∧ Ext h h' := by
  subst hn
  refine CH.of_body Tryz.func27 rfl rfl rfl ?_
  intro f hf
  have p0 : f 0 = .slice a l.length cap := by rw [hf]; exact fr0_at rfl
  have p1 : f 1 = I64 at0 := by rw [hf]; exact fr0_at rfl
  have hR := right_ch h l a l.length cap rfl hB hP hl hOk
  -- region 0
  repeat refine HW.seq ?_
  refine HW.region ?_
  refine HL.still (Runs.assign rfl) ?_
  intro u4 e4
  refine HL.nil ?_
  by_cases hneg : at0 < 0
  · have hno : isPl l at0 = false := by unfold isPl; rw [decide_eq_false (by omega)]; rfl
    -- region 1
    repeat refine HW.seq ?_
    refine HW.region ?_
    refine HL.still (Runs.move p1) ?_
    intro u7 e7
    refine HL.still (Runs.lss e7 rfl (t := true) (decide_eq_true hneg)) ?_
    intro u8 e8
    refine HL.still (Runs.move e8) ?_
    intro u9 e9
    refine HL.skipG rfl rfl e9 ?_
    intro u10 e10
    refine HL.skipG rfl rfl e9 ?_
    intro u11 e11
    refine HL.skipG rfl rfl e9 ?_
    intro u12 e12
    refine HL.skipG rfl rfl e9 ?_
    intro u13 e13
    refine HL.still (Runs.pick e9 rfl) ?_
    intro u14 e14
    refine HL.still (Runs.move e14) ?_
    intro u15 e15
    refine HL.skipG rfl rfl e15 ?_
    intro u16 e16
    refine HL.skipG rfl rfl e15 ?_
    intro u17 e17
    refine HL.skipG rfl rfl e15 ?_
    intro u18 e18
    refine HL.still (Runs.pick e15 rfl) ?_
    intro u19 e19
    refine HL.nil ?_
    refine HW.yes e19 ?_
    -- region 2
    repeat refine HW.seq ?_
    refine HW.region ?_
    refine HL.still (Runs.assign rfl) ?_
    intro u4 e4
    refine HL.nil ?_
    refine HW.ret ?_
    exact RT.one rfl e4 ⟨none, 0, by rw [places_no hno]; rfl, by rw [places_no hno]; exact Rs.start _ _ _, Bel.refl _ _⟩
  by_cases hge : at0 ≥ l.length
  · have hno : isPl l at0 = false := by unfold isPl; rw [decide_eq_false (show ¬ at0 < l.length by omega)]; simp
    -- region 1
    repeat refine HW.seq ?_
    refine HW.region ?_
    refine HL.still (Runs.move p1) ?_
    intro u7 e7
    refine HL.still (Runs.lss e7 rfl (t := false) (decide_eq_false hneg)) ?_
    intro u8 e8
    refine HL.still (Runs.move e8) ?_
    intro u9 e9
    refine HL.stillG rfl rfl e9 (Runs.move p1) ?_
    intro u10 e10
    refine HL.stillG rfl rfl e9 (Runs.move p0) ?_
    intro u11 e11
    refine HL.stillG rfl rfl e9 (Runs.lenSl rfl Tryz.underlying26 e11) ?_
    intro u12 e12
    refine HL.stillG rfl rfl e9 (Runs.geq e10 e12 (t := true) (decide_eq_true hge)) ?_
    intro u13 e13
    refine HL.still (Runs.pick e9 e13) ?_
    intro u14 e14
    refine HL.still (Runs.move e14) ?_
    intro u15 e15
    refine HL.skipG rfl rfl e15 ?_
    intro u16 e16
    refine HL.skipG rfl rfl e15 ?_
    intro u17 e17
    refine HL.skipG rfl rfl e15 ?_
    intro u18 e18
    refine HL.still (Runs.pick e15 rfl) ?_
    intro u19 e19
    refine HL.nil ?_
    refine HW.yes e19 ?_
    -- region 2
    repeat refine HW.seq ?_
    refine HW.region ?_
    refine HL.still (Runs.assign rfl) ?_
    intro u4 e4
    refine HL.nil ?_
    refine HW.ret ?_
    exact RT.one rfl e4 ⟨none, 0, by rw [places_no hno]; rfl, by rw [places_no hno]; exact Rs.start _ _ _, Bel.refl _ _⟩
  cases hr : rightO l with
  | false =>
    rw [hr] at hR
    have hno : isPl l at0 = false := by unfold isPl; rw [hr, Bool.and_false]
    -- region 1
    repeat refine HW.seq ?_
    refine HW.region ?_
    refine HL.still (Runs.move p1) ?_
    intro u7 e7
    refine HL.still (Runs.lss e7 rfl (t := false) (decide_eq_false hneg)) ?_
    intro u8 e8
    refine HL.still (Runs.move e8) ?_
    intro u9 e9
    refine HL.stillG rfl rfl e9 (Runs.move p1) ?_
    intro u10 e10
    refine HL.stillG rfl rfl e9 (Runs.move p0) ?_
    intro u11 e11
    refine HL.stillG rfl rfl e9 (Runs.lenSl rfl Tryz.underlying26 e11) ?_
    intro u12 e12
    refine HL.stillG rfl rfl e9 (Runs.geq e10 e12 (t := false) (decide_eq_false hge)) ?_
    intro u13 e13
    refine HL.still (Runs.pick e9 e13) ?_
    intro u14 e14
    refine HL.still (Runs.move e14) ?_
    intro u15 e15
    refine HL.stillG rfl rfl e15 (Runs.move p0) ?_
    intro u16 e16
    refine HL.oneG rfl rfl e15 (HO.call Tryz.func30 bd30 nm30 (args1 e16) rfl ((hR).mono ?_))
    rintro _ h2 ⟨rfl, X2⟩
    intro u17 e17
    refine HL.stillG rfl rfl e15 (Runs.notb e17 (u := true) rfl) ?_
    intro u18 e18
    refine HL.still (Runs.pick e15 e18) ?_
    intro u19 e19
    refine HL.nil ?_
    refine HW.yes e19 ?_
    -- region 2
    repeat refine HW.seq ?_
    refine HW.region ?_
    refine HL.still (Runs.assign rfl) ?_
    intro u4 e4
    refine HL.nil ?_
    refine HW.ret ?_
    exact RT.one rfl e4 ⟨none, 0, by rw [places_no hno]; rfl, by rw [places_no hno]; exact Rs.start _ _ _, X2⟩
  | true =>
    rw [hr] at hR
    obtain ⟨k0, rfl⟩ : ∃ k0 : Nat, at0 = k0 := ⟨at0.toNat, by omega⟩
    have hk0 : k0 < l.length := by omega
    have hpl : isPl l (k0 : Nat) = true := isPl_iff.2 ⟨by omega, by omega, hr⟩
    have hpe := places_yes hpl
    have hcl := count_le hr hk0
    obtain ⟨sb, so, rfl, hc⟩ := hB.at hk0
    obtain ⟨x, hx⟩ : ∃ x, x = l.getD k0 zJ := ⟨_, rfl⟩
    rw [← hx] at hc hpe hcl
    have hc0 : 0 ≤ x.2.2.2 := by
      obtain ⟨w, hw⟩ := (right_vals hr).drop k0
      rw [List.drop_eq_getElem_cons hk0] at hw
      have := hw.2.1
      rw [hx, List.getD_eq_getElem?_getD, List.getElem?_eq_getElem hk0]
      exact this
    obtain ⟨c, hcE⟩ : ∃ c, c = x.2.2.2.toNat := ⟨_, rfl⟩
    rw [← hcE] at hpe hcl
    have hcI : x.2.2.2 = (c : Int) := by omega
    rw [hpe]
    -- region 1
    repeat refine HW.seq ?_
    refine HW.region ?_
    refine HL.still (Runs.move p1) ?_
    intro u7 e7
    refine HL.still (Runs.lss e7 rfl (t := false) (decide_eq_false hneg)) ?_
    intro u8 e8
    refine HL.still (Runs.move e8) ?_
    intro u9 e9
    refine HL.stillG rfl rfl e9 (Runs.move p1) ?_
    intro u10 e10
    refine HL.stillG rfl rfl e9 (Runs.move p0) ?_
    intro u11 e11
    refine HL.stillG rfl rfl e9 (Runs.lenSl rfl Tryz.underlying26 e11) ?_
    intro u12 e12
    refine HL.stillG rfl rfl e9 (Runs.geq e10 e12 (t := false) (decide_eq_false hge)) ?_
    intro u13 e13
    refine HL.still (Runs.pick e9 e13) ?_
    intro u14 e14
    refine HL.still (Runs.move e14) ?_
    intro u15 e15
    refine HL.stillG rfl rfl e15 (Runs.move p0) ?_
    intro u16 e16
    refine HL.oneG rfl rfl e15 (HO.call Tryz.func30 bd30 nm30 (args1 e16) rfl ((hR).mono ?_))
    rintro _ h2 ⟨rfl, X2⟩
    intro u17 e17
    refine HL.stillG rfl rfl e15 (Runs.notb e17 (u := false) rfl) ?_
    intro u18 e18
    refine HL.still (Runs.pick e15 e18) ?_
    intro u19 e19
    refine HL.nil ?_
    refine HW.no e19 ?_
    refine HW.skip ?_
    have hc2 : ∀ i v, (encJ x)[i]? = some v → cellH h2 sb (so + k0 * 4 + i) = some v := fun i v q => (cellH_keep (X2.old sb (lt_of_cellH (hc i v q)))).trans (hc i v q)
    -- region 3
    repeat refine HW.seq ?_
    refine HW.region ?_
    refine HL.still (Runs.assign rfl) ?_
    intro u5 e5
    refine HL.nil ?_
    -- region 4
    repeat refine HW.seq ?_
    refine HW.region ?_
    refine HL.still (Runs.move p1) ?_
    intro u20 e20
    refine HL.still (Runs.add e20 rfl (i64w (by omega))) ?_
    intro u21 e21
    refine HL.still (Runs.assign e21) ?_
    intro u6 e6
    refine HL.nil ?_
    -- region 5
    repeat refine HW.seq ?_
    refine HW.region ?_
    refine HL.still (Runs.move p0) ?_
    intro u22 e22
    refine HL.still (Runs.move p1) ?_
    intro u23 e23
    refine HL.still (Runs.ixSl (o' := so + k0 * 4) Tryz.underlying26 sz41 e22 e23 (by omega) (by omega) (by omega)) ?_
    intro u24 e24
    refine HL.still (Runs.fld (o' := so + k0 * 4 + 3) Tryz.underlying41 rfl sz3 (by decide) e24 (by first | rfl | omega)) ?_
    intro u25 e25
    refine HL.still (Runs.load Tryz.underlying3 rfl e25 (hc2 3 _ rfl)) ?_
    intro u26 e26
    refine HL.still (Runs.move rfl) ?_
    intro u27 e27
    refine HL.nil ?_
    have g26 : u26 = I64 (c : Nat) := e26.trans (congrArg (Value.int .i64) hcI)
    repeat refine HW.seq ?_
    refine HW.block ?_
    refine HW.loop (fun m f u => ∃ (i : Nat) (a' : Option Addr) (c' : Nat), i ≤ c ∧ m = c - i ∧ f 27 = I64 i ∧ f 26 = I64 (c : Nat) ∧ f 6 = I64 (endIt l i ((k0 : Int) + 1)) ∧ f 5 = .slice a' (itersE l i ((k0 : Int) + 1)).length c' ∧ Rs gI u h.size 3 a' c' (itersE l i ((k0 : Int) + 1)) ∧ f 0 = .slice (some ⟨sb, so, none⟩) l.length cap ∧ Ext h u) c
      ⟨0, none, 0, Nat.zero_le _, rfl, e27, g26, e6, e5, Rs.start _ _ _, p0, X2⟩ ?_
    clear e4 e5 e6 e27 g26 e26 p0 p1 e19 hR
    rintro m f u ⟨i, a', c', hi, hm, f27, f26, f6, f5, hRs, f0, hX⟩
    have hil := iters_len l i ((k0 : Int) + 1)
    by_cases hlt : i < c
    · have her := endIt_range l i ((k0 : Int) + 1) ⟨by omega, by omega⟩
      -- region 6
      repeat refine HW.seq ?_
      refine HW.region ?_
      refine HL.still (Runs.lss f27 f26 rfl) ?_
      intro u28 e28
      refine HL.nil ?_
      repeat refine HW.seq ?_
      refine HW.yes ?_ ?_
      exact e28.trans (congrArg Value.bool (decide_eq_true (by omega)))
      refine HW.skip ?_
      repeat refine HW.seq ?_
      refine HW.block ?_
      -- region 7
      repeat refine HW.seq ?_
      refine HW.region ?_
      refine HL.still (Runs.move f5) ?_
      intro u29 e29
      refine HL.still (Runs.move f6) ?_
      intro u30 e30
      refine HL.one (HO.int1 _ e30 ?_)
      intro h5 w5
      intro u31 e31
      refine HL.one (HO.rapp1 Tryz.underlying47 in3 rfl one3 e29 e31 rfl rfl (hRs.ext w5.ext) (row_block (z0 := 0) w5.new) (by rw [hil]; simp; omega) (by rw [hil]; simp; unfold maxLen; omega) (by rw [w5.size]; have := hX.size; omega) ?_)
      intro a6 c6 h6 R6 G6
      intro u32 e32
      refine HL.still (Runs.assign e32) ?_
      intro u5 e5
      refine HL.nil ?_
      have X6 : Ext h h6 := G6.belR (hX.ext w5.ext (Nat.le_refl _)) (hRs.ext w5.ext) (Nat.le_refl _) (Nat.le_refl _)
      have g5 := e5
      -- region 8
      repeat refine HW.seq ?_
      refine HW.region ?_
      refine HL.still (Runs.move f0) ?_
      intro u33 e33
      refine HL.still (Runs.move f6) ?_
      intro u34 e34
      refine HL.one (HO.call Tryz.func32 bd32 nm32 (args2 e33 e34) rfl (((end_ch h6 l _ l.length cap _ rfl (hB.ext X6) (by omega))).mono ?_))
      rintro _ h7 ⟨rfl, hh7⟩
      intro u35 e35
      refine HL.still (Runs.assign e35) ?_
      intro u6 e6
      refine HL.nil ?_
      have g6 := e6
      subst hh7
      -- region 9
      repeat refine HW.seq ?_
      refine HW.region ?_
      refine HL.still (Runs.add f27 rfl (i64w (by omega))) ?_
      intro u36 e36
      refine HL.still (Runs.move e36) ?_
      intro u27 e27
      refine HL.nil ?_
      exact ⟨c - (i + 1), by omega, i + 1, a6, c6, by omega, rfl, e27, f26, g6, by rw [iters_snoc]; exact g5, by rw [iters_snoc]; exact R6, f0, X6⟩
    · have hic : i = c := by omega
      subst hic
      -- region 6
      repeat refine HW.seq ?_
      refine HW.region ?_
      refine HL.still (Runs.lss f27 f26 rfl) ?_
      intro u28 e28
      refine HL.nil ?_
      repeat refine HW.seq ?_
      refine HW.no ?_ ?_
      exact e28.trans (congrArg Value.bool (decide_eq_false (by omega)))
      refine HW.exitHere ?_
      -- region 10
      repeat refine HW.seq ?_
      refine HW.region ?_
      refine HL.still (Runs.move f5) ?_
      intro u37 e37
      refine HL.still (Runs.assign e37) ?_
      intro u4 e4
      refine HL.nil ?_
      refine HW.ret ?_
      exact RT.one rfl e4 ⟨a', c', rfl, hRs, hX⟩
set_option maxRecDepth 10000 in
theorem item_ch (h : Heap) (l : List JV) (a : Option Addr) (n cap : Nat) (at0 k : Int) (hn : n = l.length) (hB : Jvs h a l) (hP : Plc h) (hl : l.length ≤ 100000) (hOk : OkJ l) :
    CH Tryz.prog 16 #[.slice a n cap, I64 at0, I64 k] h fun v h' => v = I64 (itemO l at0 k) ∧ Ext h h' := by
  refine CH.of_body Tryz.func16 rfl rfl rfl ?_
  intro f hf
  have p0 : f 0 = .slice a n cap := by rw [hf]; exact fr0_at rfl
  have p1 : f 1 = I64 at0 := by rw [hf]; exact fr0_at rfl
  have p2 : f 2 = I64 k := by rw [hf]; exact fr0_at rfl
  -- region 0
  repeat refine HW.seq ?_
  refine HW.region ?_
  refine HL.still (Runs.assign rfl) ?_
  intro u6 e6
  refine HL.nil ?_
  -- region 1
  repeat refine HW.seq ?_
  refine HW.region ?_
  refine HL.still (Runs.move p0) ?_
  intro u8 e8
  refine HL.still (Runs.move p1) ?_
  intro u9 e9
  refine HL.one (HO.call Tryz.func27 bd27 nm27 (args2 e8 e9) rfl ((kids_ch h l a n cap at0 hn hB hP hl hOk).mono ?_))
  rintro _ h2 ⟨a', c', rfl, R2, X2⟩
  intro u10 e10
  refine HL.still (Runs.assign e10) ?_
  intro u7 e7
  refine HL.nil ?_
  have g7 := e7
  by_cases hneg : k < 0
  · skip
    -- region 2
    repeat refine HW.seq ?_
    refine HW.region ?_
    refine HL.still (Runs.move p2) ?_
    intro u11 e11
    refine HL.still (Runs.lss e11 rfl (t := true) (decide_eq_true hneg)) ?_
    intro u12 e12
    refine HL.still (Runs.move e12) ?_
    intro u13 e13
    refine HL.skipG rfl rfl e13 ?_
    intro u14 e14
    refine HL.skipG rfl rfl e13 ?_
    intro u15 e15
    refine HL.skipG rfl rfl e13 ?_
    intro u16 e16
    refine HL.skipG rfl rfl e13 ?_
    intro u17 e17
    refine HL.still (Runs.pick e13 rfl) ?_
    intro u18 e18
    refine HL.nil ?_
    refine HW.yes e18 ?_
    -- region 3
    repeat refine HW.seq ?_
    refine HW.region ?_
    refine HL.still (Runs.assign rfl) ?_
    intro u6 e6
    refine HL.nil ?_
    refine HW.ret ?_
    exact RT.one rfl e6 ⟨by unfold itemO; rw [if_pos (.inl hneg)], X2⟩
  by_cases hge : k ≥ (placesO l at0).length
  · skip
    -- region 2
    repeat refine HW.seq ?_
    refine HW.region ?_
    refine HL.still (Runs.move p2) ?_
    intro u11 e11
    refine HL.still (Runs.lss e11 rfl (t := false) (decide_eq_false hneg)) ?_
    intro u12 e12
    refine HL.still (Runs.move e12) ?_
    intro u13 e13
    refine HL.stillG rfl rfl e13 (Runs.move p2) ?_
    intro u14 e14
    refine HL.stillG rfl rfl e13 (Runs.move g7) ?_
    intro u15 e15
    refine HL.stillG rfl rfl e13 (Runs.lenSl rfl Tryz.underlying47 e15) ?_
    intro u16 e16
    refine HL.stillG rfl rfl e13 (Runs.geq e14 e16 (t := true) (decide_eq_true hge)) ?_
    intro u17 e17
    refine HL.still (Runs.pick e13 e17) ?_
    intro u18 e18
    refine HL.nil ?_
    refine HW.yes e18 ?_
    -- region 3
    repeat refine HW.seq ?_
    refine HW.region ?_
    refine HL.still (Runs.assign rfl) ?_
    intro u6 e6
    refine HL.nil ?_
    refine HW.ret ?_
    exact RT.one rfl e6 ⟨by unfold itemO; rw [if_pos (.inr hge)], X2⟩
  obtain ⟨j, rfl⟩ : ∃ j : Nat, k = j := ⟨k.toNat, by omega⟩
  obtain ⟨sb, so, rfl, hc⟩ := (R2.byt (z0 := 0)).at (show j < (placesO l at0).length by omega)
  -- region 2
  repeat refine HW.seq ?_
  refine HW.region ?_
  refine HL.still (Runs.move p2) ?_
  intro u11 e11
  refine HL.still (Runs.lss e11 rfl (t := false) (decide_eq_false hneg)) ?_
  intro u12 e12
  refine HL.still (Runs.move e12) ?_
  intro u13 e13
  refine HL.stillG rfl rfl e13 (Runs.move p2) ?_
  intro u14 e14
  refine HL.stillG rfl rfl e13 (Runs.move g7) ?_
  intro u15 e15
  refine HL.stillG rfl rfl e13 (Runs.lenSl rfl Tryz.underlying47 e15) ?_
  intro u16 e16
  refine HL.stillG rfl rfl e13 (Runs.geq e14 e16 (t := false) (decide_eq_false hge)) ?_
  intro u17 e17
  refine HL.still (Runs.pick e13 e17) ?_
  intro u18 e18
  refine HL.nil ?_
  refine HW.no e18 ?_
  refine HW.skip ?_
  -- region 4
  repeat refine HW.seq ?_
  refine HW.region ?_
  refine HL.still (Runs.move g7) ?_
  intro u19 e19
  refine HL.still (Runs.move p2) ?_
  intro u20 e20
  refine HL.still (Runs.ixSl (o' := so + j) Tryz.underlying47 sz3 e19 e20 (by omega) (by omega) (by omega)) ?_
  intro u21 e21
  refine HL.still (Runs.load Tryz.underlying3 rfl e21 hc) ?_
  intro u22 e22
  refine HL.still (Runs.assign e22) ?_
  intro u6 e6
  refine HL.nil ?_
  refine HW.ret ?_
  exact RT.one rfl e6 ⟨by unfold itemO; rw [if_neg (by omega)]; rfl, X2⟩
set_option maxRecDepth 10000 in
set_option maxHeartbeats 1000000 in
theorem cut_ch (h : Heap) (l : List JV) (a : Option Addr) (n cap : Nat) (at0 : Int) (hn : n = l.length) (hcap : l.length ≤ cap) (hB : Jvs h a l) (hP : Plc h) (hl : l.length ≤ 100000) (hOk : OkJ l) :
    CH Tryz.prog 17 #[.slice a n cap, I64 at0] h fun v h' => ∃ a' c', v = .slice a' (cutO l at0).length c' ∧ Js h' h.size a' c' (cutO l at0) ∧ Ext h h' := by
  subst hn
  refine CH.of_body Tryz.func17 rfl rfl rfl ?_
  intro f hf
  have p0 : f 0 = .slice a l.length cap := by rw [hf]; exact fr0_at rfl
  have p1 : f 1 = I64 at0 := by rw [hf]; exact fr0_at rfl
  have hR := right_ch h l a l.length cap rfl hB hP hl hOk
  have hcn : isPl l at0 = false → cutO l at0 = [] := fun q => by unfold cutO; rw [if_neg (by rw [q]; decide)]
  -- region 0
  repeat refine HW.seq ?_
  refine HW.region ?_
  refine HL.still (Runs.assign rfl) ?_
  intro u4 e4
  refine HL.nil ?_
  by_cases hneg : at0 < 0
  · have hno : isPl l at0 = false := by unfold isPl; rw [decide_eq_false (by omega)]; rfl
    -- region 1
    repeat refine HW.seq ?_
    refine HW.region ?_
    refine HL.still (Runs.move p1) ?_
    intro u5 e5
    refine HL.still (Runs.lss e5 rfl (t := true) (decide_eq_true hneg)) ?_
    intro u6 e6
    refine HL.still (Runs.move e6) ?_
    intro u7 e7
    refine HL.skipG rfl rfl e7 ?_
    intro u8 e8
    refine HL.skipG rfl rfl e7 ?_
    intro u9 e9
    refine HL.skipG rfl rfl e7 ?_
    intro u10 e10
    refine HL.skipG rfl rfl e7 ?_
    intro u11 e11
    refine HL.still (Runs.pick e7 rfl) ?_
    intro u12 e12
    refine HL.still (Runs.move e12) ?_
    intro u13 e13
    refine HL.skipG rfl rfl e13 ?_
    intro u14 e14
    refine HL.skipG rfl rfl e13 ?_
    intro u15 e15
    refine HL.skipG rfl rfl e13 ?_
    intro u16 e16
    refine HL.still (Runs.pick e13 rfl) ?_
    intro u17 e17
    refine HL.nil ?_
    refine HW.yes e17 ?_
    -- region 2
    repeat refine HW.seq ?_
    refine HW.region ?_
    refine HL.still (Runs.assign rfl) ?_
    intro u4 e4
    refine HL.nil ?_
    refine HW.ret ?_
    exact RT.one rfl e4 ⟨none, 0, by rw [hcn hno]; rfl, by rw [hcn hno]; exact Js.start _ _, Bel.refl _ _⟩
  by_cases hge : at0 ≥ l.length
  · have hno : isPl l at0 = false := by unfold isPl; rw [decide_eq_false (show ¬ at0 < l.length by omega)]; simp
    -- region 1
    repeat refine HW.seq ?_
    refine HW.region ?_
    refine HL.still (Runs.move p1) ?_
    intro u5 e5
    refine HL.still (Runs.lss e5 rfl (t := false) (decide_eq_false hneg)) ?_
    intro u6 e6
    refine HL.still (Runs.move e6) ?_
    intro u7 e7
    refine HL.stillG rfl rfl e7 (Runs.move p1) ?_
    intro u8 e8
    refine HL.stillG rfl rfl e7 (Runs.move p0) ?_
    intro u9 e9
    refine HL.stillG rfl rfl e7 (Runs.lenSl rfl Tryz.underlying26 e9) ?_
    intro u10 e10
    refine HL.stillG rfl rfl e7 (Runs.geq e8 e10 (t := true) (decide_eq_true hge)) ?_
    intro u11 e11
    refine HL.still (Runs.pick e7 e11) ?_
    intro u12 e12
    refine HL.still (Runs.move e12) ?_
    intro u13 e13
    refine HL.skipG rfl rfl e13 ?_
    intro u14 e14
    refine HL.skipG rfl rfl e13 ?_
    intro u15 e15
    refine HL.skipG rfl rfl e13 ?_
    intro u16 e16
    refine HL.still (Runs.pick e13 rfl) ?_
    intro u17 e17
    refine HL.nil ?_
    refine HW.yes e17 ?_
    -- region 2
    repeat refine HW.seq ?_
    refine HW.region ?_
    refine HL.still (Runs.assign rfl) ?_
    intro u4 e4
    refine HL.nil ?_
    refine HW.ret ?_
    exact RT.one rfl e4 ⟨none, 0, by rw [hcn hno]; rfl, by rw [hcn hno]; exact Js.start _ _, Bel.refl _ _⟩
  cases hr : rightO l with
  | false =>
    rw [hr] at hR
    have hno : isPl l at0 = false := by unfold isPl; rw [hr, Bool.and_false]
    -- region 1
    repeat refine HW.seq ?_
    refine HW.region ?_
    refine HL.still (Runs.move p1) ?_
    intro u5 e5
    refine HL.still (Runs.lss e5 rfl (t := false) (decide_eq_false hneg)) ?_
    intro u6 e6
    refine HL.still (Runs.move e6) ?_
    intro u7 e7
    refine HL.stillG rfl rfl e7 (Runs.move p1) ?_
    intro u8 e8
    refine HL.stillG rfl rfl e7 (Runs.move p0) ?_
    intro u9 e9
    refine HL.stillG rfl rfl e7 (Runs.lenSl rfl Tryz.underlying26 e9) ?_
    intro u10 e10
    refine HL.stillG rfl rfl e7 (Runs.geq e8 e10 (t := false) (decide_eq_false hge)) ?_
    intro u11 e11
    refine HL.still (Runs.pick e7 e11) ?_
    intro u12 e12
    refine HL.still (Runs.move e12) ?_
    intro u13 e13
    refine HL.stillG rfl rfl e13 (Runs.move p0) ?_
    intro u14 e14
    refine HL.oneG rfl rfl e13 (HO.call Tryz.func30 bd30 nm30 (args1 e14) rfl ((hR).mono ?_))
    rintro _ h2 ⟨rfl, X2⟩
    intro u15 e15
    refine HL.stillG rfl rfl e13 (Runs.notb e15 (u := true) rfl) ?_
    intro u16 e16
    refine HL.still (Runs.pick e13 e16) ?_
    intro u17 e17
    refine HL.nil ?_
    refine HW.yes e17 ?_
    -- region 2
    repeat refine HW.seq ?_
    refine HW.region ?_
    refine HL.still (Runs.assign rfl) ?_
    intro u4 e4
    refine HL.nil ?_
    refine HW.ret ?_
    exact RT.one rfl e4 ⟨none, 0, by rw [hcn hno]; rfl, by rw [hcn hno]; exact Js.start _ _, X2⟩
  | true =>
    rw [hr] at hR
    obtain ⟨k0, rfl⟩ : ∃ k0 : Nat, at0 = k0 := ⟨at0.toNat, by omega⟩
    have hk0 : k0 < l.length := by omega
    have hpl : isPl l (k0 : Nat) = true := isPl_iff.2 ⟨by omega, by omega, hr⟩
    obtain ⟨hE1, hE2⟩ := endO_right hr hk0
    obtain ⟨E, hE⟩ : ∃ E : Nat, endO l (k0 : Nat) = E := ⟨(endO l (k0 : Nat)).toNat, by omega⟩
    have hcut : cutO l (k0 : Nat) = namedO ((l.take E).drop k0) [] := by
      unfold cutO
      rw [if_pos hpl, hE]
      rfl
    rw [hE] at hE1 hE2
    have hEl : ((l.take E).drop k0).length = E - k0 := by rw [List.length_drop, List.length_take]; omega
    -- region 1
    repeat refine HW.seq ?_
    refine HW.region ?_
    refine HL.still (Runs.move p1) ?_
    intro u5 e5
    refine HL.still (Runs.lss e5 rfl (t := false) (decide_eq_false hneg)) ?_
    intro u6 e6
    refine HL.still (Runs.move e6) ?_
    intro u7 e7
    refine HL.stillG rfl rfl e7 (Runs.move p1) ?_
    intro u8 e8
    refine HL.stillG rfl rfl e7 (Runs.move p0) ?_
    intro u9 e9
    refine HL.stillG rfl rfl e7 (Runs.lenSl rfl Tryz.underlying26 e9) ?_
    intro u10 e10
    refine HL.stillG rfl rfl e7 (Runs.geq e8 e10 (t := false) (decide_eq_false hge)) ?_
    intro u11 e11
    refine HL.still (Runs.pick e7 e11) ?_
    intro u12 e12
    refine HL.still (Runs.move e12) ?_
    intro u13 e13
    refine HL.stillG rfl rfl e13 (Runs.move p0) ?_
    intro u14 e14
    refine HL.oneG rfl rfl e13 (HO.call Tryz.func30 bd30 nm30 (args1 e14) rfl ((hR).mono ?_))
    rintro _ h2 ⟨rfl, X2⟩
    intro u15 e15
    refine HL.stillG rfl rfl e13 (Runs.notb e15 (u := false) rfl) ?_
    intro u16 e16
    refine HL.still (Runs.pick e13 e16) ?_
    intro u17 e17
    refine HL.nil ?_
    refine HW.no e17 ?_
    refine HW.skip ?_
    have hB2 := hB.ext X2
    have hEnd := end_ch h2 l a l.length cap (k0 : Nat) rfl hB2 (by omega)
    rw [hE] at hEnd
    have hsub : Jvs h2 (if cap = k0 then a else a.map (·.add (k0 * 4))) ((l.take E).drop k0) := (hB2.take E).drop k0 (by rw [List.length_take]; omega) (by rw [List.length_take]; omega) rfl
    -- region 3
    repeat refine HW.seq ?_
    refine HW.region ?_
    refine HL.still (Runs.move p0) ?_
    intro u18 e18
    refine HL.still (Runs.move p1) ?_
    intro u19 e19
    refine HL.still (Runs.move p0) ?_
    intro u20 e20
    refine HL.still (Runs.move p1) ?_
    intro u21 e21
    refine HL.one (HO.call Tryz.func32 bd32 nm32 (args2 e20 e21) rfl ((hEnd).mono ?_))
    rintro _ h3 ⟨rfl, hh3⟩
    intro u22 e22
    refine HL.still (Runs.sliceSl Tryz.underlying26 sz41 e18 (lo := k0) (hi := E) ⟨_, e19⟩ ⟨_, e22⟩ (by omega) (by omega) rfl) ?_
    intro u23 e23
    refine HL.one (HO.call Tryz.func31 bd31 nm31 (args2 e23 rfl) rfl ((named_ch h3 ((l.take E).drop k0) _ _ _ [] hEl.symm (by rw [hh3]; exact hsub) (by omega)).mono ?_))
    rintro _ h4 ⟨a', c', rfl, J4, X4⟩
    intro u24 e24
    refine HL.still (Runs.assign e24) ?_
    intro u4 e4
    refine HL.nil ?_
    subst hh3
    refine HW.ret ?_
    exact RT.one rfl e4 ⟨a', c', by rw [hcut], by rw [hcut]; exact J4.low X2.size, X2.ext X4 (Nat.le_refl _)⟩
end Go.Proofs.YtjopikfkgjbcgaaGreatDoor
