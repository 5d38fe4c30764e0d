/- Members: jobj.Get; object, whole. -/
import Derived.Test.YtjopikfkgjbcgaaGreatDoorOi
namespace Go.Proofs.YtjopikfkgjbcgaaGreatDoor
set_option linter.unnecessarySimpa false
set_option linter.unusedSimpArgs false
set_option linter.unusedVariables false
open Go.RowKit
section
variable {P : Program} {ρ : Operand → Value} {h : Heap} {d : Option Tmp} {ty : TypeId} {pos : String} {af : Array Edge} {gd : Option (Nat × Bool)} {x y : Operand}
theorem Runs.makeFuncC {k : Nat} {v w : Value} (hx : ρ x = v) (hy : ρ y = w) : Runs P ⟨d, .makeFunc (.func k) #[] #[x, y], ty, pos, af, gd⟩ ρ h (.func (.func k) #[] #[v, w]) := fun _ _ => by
  simp [execOp, Instr.makeFunc, hx, hy, Sem.run_bind]
end
/-- Where the first one stands of which q holds. -/
def idxI (P : List Int) (q : Int → Bool) : Int := match P.findIdx? q with | none => -1 | some i => (i : Nat)
theorem idx_find (P : List Int) (q : Int → Bool) : (idxI P q = -1 ∧ P.find? q = none) ∨ ∃ i k, idxI P q = (i : Nat) ∧ i < P.length ∧ P.getD i 0 = k ∧ P.find? q = some k := by
  unfold idxI
  induction P with
  | nil => exact .inl ⟨rfl, rfl⟩
  | cons y P ih =>
    rw [List.findIdx?_cons, List.find?_cons]
    cases hq : q y with
    | true => exact .inr ⟨0, y, rfl, by simp, rfl, rfl⟩
    | false =>
      simp only [Bool.false_eq_true, if_false]
      rcases ih with ⟨h1, h2⟩ | ⟨i, k, h1, h2, h3, h4⟩
      · left
        refine ⟨?_, h2⟩
        cases hf : P.findIdx? q with
        | none => rfl
        | some i => rw [hf] at h1; simp at h1
      · right
        refine ⟨i + 1, k, ?_, by rw [List.length_cons]; omega, by simpa using h3, h4⟩
        cases hf : P.findIdx? q with
        | none => rw [hf] at h1; simp at h1
        | some j =>
          rw [hf] at h1
          have h1 : (j : Int) = i := h1
          have : j = i := by omega
          rw [this]
          rfl
set_option maxRecDepth 10000 in
theorem clo_ch (h : Heap) (l : List JV) (a : Option Addr) (cap b1 b2 : Nat) (key : List UInt8) (k : Int) (hk : 0 ≤ k ∧ k < l.length) (hB : Jvs h a l) (h1 : h[b1]? = some (.cells #[.slice a l.length cap] 26 (0, 0))) (h2 : h[b2]? = some (.cells #[.string (strOf key)] 9 (0, 0))) :
    CH Tryz.prog 29 #[I64 k, .pointer (some ⟨b1, 0, none⟩), .pointer (some ⟨b2, 0, none⟩)] h fun v h' => v = .bool (keyAt l k == key) ∧ h = h' := by
  refine CH.of_body Tryz.func29 rfl rfl rfl ?_
  intro f hf
  have p0 : f 0 = I64 k := by rw [hf]; exact fr0_at rfl
  have p1 : f 1 = .pointer (some ⟨b1, 0, none⟩) := by rw [hf]; exact fr0_at rfl
  have p2 : f 2 = .pointer (some ⟨b2, 0, none⟩) := by rw [hf]; exact fr0_at rfl
  obtain ⟨sb, so, rfl, hc⟩ := hB.at (show k.toNat < l.length by omega)
  -- region 0
  repeat refine HW.seq ?_
  refine HW.region ?_
  refine HL.still (Runs.assign rfl) ?_
  intro u4 e4
  refine HL.nil ?_
  -- region 1
  repeat refine HW.seq ?_
  refine HW.draw mixed (by kernel_rfl) ?_
  refine HS.still (Runs.load Tryz.underlying26 rfl p1 (cellH_list (l := [.slice (some ⟨sb, so, none⟩) l.length cap]) h1 rfl)) ?_
  intro u5 e5
  refine HS.still (Runs.move p0) ?_
  intro u6 e6
  refine HS.still (Runs.ixSl (o' := so + k.toNat * 4) Tryz.underlying26 sz41 e5 e6 (by omega) (by omega) (by omega)) ?_
  intro u7 e7
  refine HS.still (Runs.fld (o' := so + k.toNat * 4 + 1) Tryz.underlying41 rfl sz9 (by decide) e7 (by first | rfl | omega)) ?_
  intro u8 e8
  refine HS.still (Runs.load Tryz.underlying9 rfl e8 (hc 1 _ rfl)) ?_
  intro u9 e9
  refine HS.still (Runs.load Tryz.underlying9 rfl p2 (cellH_list (l := [.string (strOf key)]) h2 rfl)) ?_
  intro u10 e10
  refine HS.still (Runs.eqS e9 e10 (t := keyAt l k == key) rfl) ?_
  intro u11 e11
  refine HS.still (Runs.assign e11) ?_
  intro u4 e4
  refine HS.nil ?_
  refine HW.ret ?_
  exact RT.one rfl e4 ⟨rfl, rfl⟩
set_option maxRecDepth 10000 in
theorem idx_ch (h : Heap) (l : List JV) (a : Option Addr) (cap b1 b2 : Nat) (key : List UInt8) (P : List Int) (pa : Option Addr) (pn pc : Nat) (hpn : pn = P.length) (hP : Row gI 0 h pa P) (hpl : P.length ≤ 1000000) (hk : ∀ k ∈ P, 0 ≤ k ∧ k < l.length) (hB : Jvs h a l) (h1 : h[b1]? = some (.cells #[.slice a l.length cap] 26 (0, 0))) (h2 : h[b2]? = some (.cells #[.string (strOf key)] 9 (0, 0))) :
    CH Tryz.prog 28 #[.slice pa pn pc, .func (.func 29) #[] #[.pointer (some ⟨b1, 0, none⟩), .pointer (some ⟨b2, 0, none⟩)]] h fun v h' => v = I64 (idxI P (fun k => keyAt l k == key)) ∧ h = h' := by
  subst hpn
  refine CH.of_body Tryz.func28 rfl rfl rfl ?_
  intro f hf
  have p0 : f 0 = .slice pa P.length pc := by rw [hf]; exact fr0_at rfl
  have p1 : f 1 = .func (.func 29) #[] #[.pointer (some ⟨b1, 0, none⟩), .pointer (some ⟨b2, 0, none⟩)] := by rw [hf]; exact fr0_at rfl
  -- region 0
  repeat refine HW.seq ?_
  refine HW.region ?_
  refine HL.still (Runs.assign rfl) ?_
  intro u4 e4
  refine HL.nil ?_
  -- region 1
  repeat refine HW.seq ?_
  refine HW.region ?_
  refine HL.still (Runs.move p0) ?_
  intro u6 e6
  refine HL.still (Runs.lenSl rfl Tryz.underlying47 e6) ?_
  intro u7 e7
  refine HL.still (Runs.move rfl) ?_
  intro u8 e8
  refine HL.nil ?_
  repeat refine HW.seq ?_
  refine HW.block ?_
  refine HW.loop (fun m f u => ∃ k : Nat, k ≤ P.length ∧ m = P.length - k ∧ f 8 = I64 k ∧ f 7 = I64 P.length ∧ f 0 = .slice pa P.length pc ∧ f 1 = .func (.func 29) #[] #[.pointer (some ⟨b1, 0, none⟩), .pointer (some ⟨b2, 0, none⟩)] ∧ (∀ y ∈ P.take k, (keyAt l y == key) = false) ∧ h = u) P.length
    ⟨0, Nat.zero_le _, rfl, e8, e7, p0, p1, (fun y hy => by simp at hy), rfl⟩ ?_
  clear e4 e6 e7 e8 p0 p1
  rintro m f u ⟨k, hkl, hm, f8, f7, f0, f1, hno, rfl⟩
  by_cases hlt : k < P.length
  · obtain ⟨nb, no, rfl, hcs⟩ := hP.at hlt
    have hmem : P.getD k 0 ∈ P := by
      rw [List.getD_eq_getElem?_getD, List.getElem?_eq_getElem hlt]
      exact List.getElem_mem hlt
    have hcl := clo_ch h l a cap b1 b2 key (P.getD k 0) (hk _ hmem) hB h1 h2
    have htk : P.take (k + 1) = P.take k ++ [P.getD k 0] := by
      rw [List.take_succ_eq_append_getElem hlt, List.getD_eq_getElem?_getD, List.getElem?_eq_getElem hlt]
      rfl
    -- region 2
    repeat refine HW.seq ?_
    refine HW.region ?_
    refine HL.still (Runs.lss f8 f7 rfl) ?_
    intro u9 e9
    refine HL.nil ?_
    repeat refine HW.seq ?_
    refine HW.yes ?_ ?_
    exact e9.trans (congrArg Value.bool (decide_eq_true (by omega)))
    refine HW.skip ?_
    repeat refine HW.seq ?_
    refine HW.block ?_
    -- region 3
    repeat refine HW.seq ?_
    refine HW.region ?_
    refine HL.still (Runs.move f8) ?_
    intro u10 e10
    refine HL.still (Runs.assign e10) ?_
    intro u5 e5
    refine HL.nil ?_
    cases hy : keyAt l (P.getD k 0) == key with
    | true =>
      rw [hy] at hcl
      -- region 4
      repeat refine HW.seq ?_
      refine HW.region ?_
      refine HL.still (Runs.move f1) ?_
      intro u11 e11
      refine HL.still (Runs.move f0) ?_
      intro u12 e12
      refine HL.still (Runs.move e5) ?_
      intro u13 e13
      refine HL.still (Runs.ixSl (o' := no + k) Tryz.underlying47 sz3 e12 e13 (by omega) (by omega) (by omega)) ?_
      intro u14 e14
      refine HL.still (Runs.load Tryz.underlying3 rfl e14 hcs) ?_
      intro u15 e15
      refine HL.one (HO.callV Tryz.func29 bd29 nm29 (args1 e15) e11 ((hcl).mono ?_))
      rintro _ h5 ⟨rfl, rfl⟩
      intro u16 e16
      refine HL.nil ?_
      refine HW.yes e16 ?_
      -- region 5
      repeat refine HW.seq ?_
      refine HW.region ?_
      refine HL.still (Runs.move e5) ?_
      intro u17 e17
      refine HL.still (Runs.assign e17) ?_
      intro u4 e4
      refine HL.nil ?_
      refine HW.ret ?_
      refine RT.one rfl e4 ⟨?_, rfl⟩
      have hf : P.findIdx? (fun k => keyAt l k == key) = some k := by
        have hsp : P = P.take k ++ (P.getD k 0 :: P.drop (k + 1)) := by
          rw [List.getD_eq_getElem?_getD, List.getElem?_eq_getElem hlt]
          show P = P.take k ++ (P[k] :: P.drop (k + 1))
          rw [← List.drop_eq_getElem_cons hlt, List.take_append_drop]
        rw [hsp, List.findIdx?_append, List.findIdx?_eq_none_iff.2 hno, List.findIdx?_cons, hy]
        simp
        omega
      unfold idxI
      rw [hf]
    | false =>
      rw [hy] at hcl
      -- region 4
      repeat refine HW.seq ?_
      refine HW.region ?_
      refine HL.still (Runs.move f1) ?_
      intro u11 e11
      refine HL.still (Runs.move f0) ?_
      intro u12 e12
      refine HL.still (Runs.move e5) ?_
      intro u13 e13
      refine HL.still (Runs.ixSl (o' := no + k) Tryz.underlying47 sz3 e12 e13 (by omega) (by omega) (by omega)) ?_
      intro u14 e14
      refine HL.still (Runs.load Tryz.underlying3 rfl e14 hcs) ?_
      intro u15 e15
      refine HL.one (HO.callV Tryz.func29 bd29 nm29 (args1 e15) e11 ((hcl).mono ?_))
      rintro _ h5 ⟨rfl, rfl⟩
      intro u16 e16
      refine HL.nil ?_
      refine HW.no e16 ?_
      refine HW.skip ?_
      -- region 6
      repeat refine HW.seq ?_
      refine HW.region ?_
      refine HL.still (Runs.add f8 rfl (i64w (by omega))) ?_
      intro u18 e18
      refine HL.still (Runs.move e18) ?_
      intro u8 e8
      refine HL.nil ?_
      refine ⟨P.length - (k + 1), by omega, k + 1, by omega, rfl, e8, f7, f0, f1, ?_, rfl⟩
      intro y hy'
      rw [htk] at hy'
      rcases List.mem_append.1 hy' with q | q
      · exact hno y q
      · have q : y = P.getD k 0 := List.mem_singleton.1 q
        rw [q]
        exact hy
  · have hkn : k = P.length := by omega
    subst hkn
    rw [List.take_of_length_le (Nat.le_refl _)] at hno
    -- region 2
    repeat refine HW.seq ?_
    refine HW.region ?_
    refine HL.still (Runs.lss f8 f7 rfl) ?_
    intro u9 e9
    refine HL.nil ?_
    repeat refine HW.seq ?_
    refine HW.no ?_ ?_
    exact e9.trans (congrArg Value.bool (decide_eq_false (by omega)))
    refine HW.exitHere ?_
    -- region 7
    repeat refine HW.seq ?_
    refine HW.region ?_
    refine HL.still (Runs.assign rfl) ?_
    intro u4 e4
    refine HL.nil ?_
    refine HW.ret ?_
    refine RT.one rfl e4 ⟨?_, rfl⟩
    unfold idxI
    rw [List.findIdx?_eq_none_iff.2 hno]
theorem places_le {l : List JV} (at0 : Int) : (placesO l at0).length ≤ l.length := by
  by_cases h : isPl l at0 = true
  · obtain ⟨k, rfl, hk, hr⟩ := isPl_len h
    rw [places_yes h, iters_len]
    exact Nat.le_of_lt (count_le hr hk)
  · rw [places_no (by simpa using h)]
    exact Nat.zero_le _
set_option maxRecDepth 10000 in
set_option maxHeartbeats 1000000 in
theorem get_ch (h : Heap) (l : List JV) (a : Option Addr) (n cap : Nat) (at0 : Int) (key : List UInt8) (hn : n = l.length) (hB : Jvs h a l) (hP : Plc h) (hl : l.length ≤ 100000) (hOk : OkJ l) :
    CH Tryz.prog 15 #[.slice a n cap, I64 at0, .string (strOf key)] h fun v h' => v = I64 (getO l at0 key) ∧ Ext h h' := by
  subst hn
  refine CH.of_body Tryz.func15 rfl rfl rfl ?_
  intro f hf
  have p0 : f 0 = .slice a l.length cap := by rw [hf]; exact fr0_at rfl
  have p1 : f 1 = I64 at0 := by rw [hf]; exact fr0_at rfl
  have p2 : f 2 = .string (strOf key) := by rw [hf]; exact fr0_at rfl
  -- region 0
  repeat refine HW.seq ?_
  refine HW.region ?_
  refine HL.one (HO.box p0 ?_)
  intro h1 w1
  intro u3 e3
  refine HL.one (HO.box p2 ?_)
  intro h2 w2
  intro u5 e5
  refine HL.still (Runs.assign rfl) ?_
  intro u6 e6
  refine HL.nil ?_
  have hb1 : h2[h.size]? = some (.cells #[.slice a l.length cap] 26 (0, 0)) := w2.keep w1.new
  have hb2 : h2[h1.size]? = some (.cells #[.string (strOf key)] 9 (0, 0)) := w2.new
  have X2 : Ext h h2 := w1.ext.ext w2.ext (Nat.le_refl _)
  -- region 1
  repeat refine HW.seq ?_
  refine HW.region ?_
  refine HL.still (Runs.load Tryz.underlying26 rfl e3 (cellH_list (l := [.slice a l.length cap]) hb1 rfl)) ?_
  intro u9 e9
  refine HL.still (Runs.move p1) ?_
  intro u10 e10
  refine HL.one (HO.call Tryz.func27 bd27 nm27 (args2 e9 e10) rfl ((kids_ch h2 l a l.length cap at0 rfl (hB.ext X2) (hP.ext X2) hl hOk).mono ?_))
  rintro _ h3 ⟨pa, pc, rfl, R3, X3⟩
  intro u11 e11
  refine HL.still (Runs.assign e11) ?_
  intro u7 e7
  refine HL.nil ?_
  have g7 := e7
  have X03 : Ext h h3 := X2.ext X3 (Nat.le_refl _)
  have hpl := places_le (l := l) at0
  have hIx := idx_ch h3 l a cap h.size h1.size key (placesO l at0) pa _ pc rfl (R3.byt (z0 := 0)) (by omega) (fun k hk => places_lt hk) (hB.ext X03) (X3.keepE hb1) (X3.keepE hb2)
  rcases idx_find (placesO l at0) (fun k => keyAt l k == key) with ⟨q1, q2⟩ | ⟨i, k, q1, q2, q3, q4⟩
  · rw [q1] at hIx
    -- region 2
    repeat refine HW.seq ?_
    refine HW.region ?_
    refine HL.still (Runs.move g7) ?_
    intro u12 e12
    refine HL.still (Runs.makeFuncC e3 e5) ?_
    intro u13 e13
    refine HL.one (HO.call Tryz.func28 bd28 nm28 (args2 e12 e13) rfl ((hIx).mono ?_))
    rintro _ h4 ⟨rfl, rfl⟩
    intro u14 e14
    refine HL.still (Runs.assign e14) ?_
    intro u8 e8
    refine HL.nil ?_
    -- region 3
    repeat refine HW.seq ?_
    refine HW.region ?_
    refine HL.still (Runs.move e8) ?_
    intro u15 e15
    refine HL.still (Runs.lss e15 rfl (t := true) rfl) ?_
    intro u16 e16
    refine HL.still (Runs.move e16) ?_
    intro u17 e17
    refine HL.skipG rfl rfl e17 ?_
    intro u18 e18
    refine HL.skipG rfl rfl e17 ?_
    intro u19 e19
    refine HL.skipG rfl rfl e17 ?_
    intro u20 e20
    refine HL.skipG rfl rfl e17 ?_
    intro u21 e21
    refine HL.skipG rfl rfl e17 ?_
    intro u22 e22
    refine HL.skipG rfl rfl e17 ?_
    intro u23 e23
    refine HL.still (Runs.pick e17 rfl) ?_
    intro u24 e24
    refine HL.nil ?_
    refine HW.yes e24 ?_
    -- region 4
    repeat refine HW.seq ?_
    refine HW.region ?_
    refine HL.still (Runs.assign rfl) ?_
    intro u6 e6
    refine HL.nil ?_
    refine HW.ret ?_
    exact RT.one rfl e6 ⟨by unfold getO; rw [q2], X03⟩
  · rw [q1] at hIx
    have hpt : isPl l at0 = true := by
      cases hq : isPl l at0 with
      | true => rfl
      | false => rw [places_no hq] at q2; cases q2
    obtain ⟨k0, rfl, hk0, hr⟩ := isPl_len hpt
    obtain ⟨sb, so, rfl, hc⟩ := (hB.ext X03).at hk0
    obtain ⟨pb, po, rfl, hcp⟩ := (R3.byt (z0 := 0)).at q2
    rw [q3] at hcp
    have hget : getO l (k0 : Nat) key = if (l.getD k0 zJ).1 = 6 then k else -1 := by
      unfold getO
      rw [q4]
      rfl
    by_cases h6 : (l.getD k0 zJ).1 = 6
    · rw [if_pos h6] at hget
      -- region 2
      repeat refine HW.seq ?_
      refine HW.region ?_
      refine HL.still (Runs.move g7) ?_
      intro u12 e12
      refine HL.still (Runs.makeFuncC e3 e5) ?_
      intro u13 e13
      refine HL.one (HO.call Tryz.func28 bd28 nm28 (args2 e12 e13) rfl ((hIx).mono ?_))
      rintro _ h4 ⟨rfl, rfl⟩
      intro u14 e14
      refine HL.still (Runs.assign e14) ?_
      intro u8 e8
      refine HL.nil ?_
      have g8 := e8
      -- region 3
      repeat refine HW.seq ?_
      refine HW.region ?_
      refine HL.still (Runs.move g8) ?_
      intro u15 e15
      refine HL.still (Runs.lss e15 rfl (t := false) (decide_eq_false (by omega))) ?_
      intro u16 e16
      refine HL.still (Runs.move e16) ?_
      intro u17 e17
      refine HL.stillG rfl rfl e17 (Runs.load Tryz.underlying26 rfl e3 (cellH_list (l := [.slice (some ⟨sb, so, none⟩) l.length cap]) (X3.keepE hb1) rfl)) ?_
      intro u18 e18
      refine HL.stillG rfl rfl e17 (Runs.move p1) ?_
      intro u19 e19
      refine HL.stillG rfl rfl e17 (Runs.ixSl (o' := so + k0 * 4) Tryz.underlying26 sz41 e18 e19 (by omega) (by omega) (by omega)) ?_
      intro u20 e20
      refine HL.stillG rfl rfl e17 (Runs.fld (o' := so + k0 * 4) Tryz.underlying41 rfl sz3 (by decide) e20 (by first | rfl | omega)) ?_
      intro u21 e21
      refine HL.stillG rfl rfl e17 (Runs.load Tryz.underlying3 rfl e21 (hc 0 _ rfl)) ?_
      intro u22 e22
      refine HL.stillG rfl rfl e17 (Runs.neq e22 rfl (t := false) (by rw [h6]; rfl)) ?_
      intro u23 e23
      refine HL.still (Runs.pick e17 e23) ?_
      intro u24 e24
      refine HL.nil ?_
      refine HW.no e24 ?_
      refine HW.skip ?_
      -- region 5
      repeat refine HW.seq ?_
      refine HW.region ?_
      refine HL.still (Runs.move g7) ?_
      intro u25 e25
      refine HL.still (Runs.move g8) ?_
      intro u26 e26
      refine HL.still (Runs.ixSl (o' := po + i) Tryz.underlying47 sz3 e25 e26 (by omega) (by omega) (by omega)) ?_
      intro u27 e27
      refine HL.still (Runs.load Tryz.underlying3 rfl e27 hcp) ?_
      intro u28 e28
      refine HL.still (Runs.assign e28) ?_
      intro u6 e6
      refine HL.nil ?_
      refine HW.ret ?_
      exact RT.one rfl e6 ⟨by rw [hget], X03⟩
    · rw [if_neg h6] at hget
      -- region 2
      repeat refine HW.seq ?_
      refine HW.region ?_
      refine HL.still (Runs.move g7) ?_
      intro u12 e12
      refine HL.still (Runs.makeFuncC e3 e5) ?_
      intro u13 e13
      refine HL.one (HO.call Tryz.func28 bd28 nm28 (args2 e12 e13) rfl ((hIx).mono ?_))
      rintro _ h4 ⟨rfl, rfl⟩
      intro u14 e14
      refine HL.still (Runs.assign e14) ?_
      intro u8 e8
      refine HL.nil ?_
      have g8 := e8
      -- region 3
      repeat refine HW.seq ?_
      refine HW.region ?_
      refine HL.still (Runs.move g8) ?_
      intro u15 e15
      refine HL.still (Runs.lss e15 rfl (t := false) (decide_eq_false (by omega))) ?_
      intro u16 e16
      refine HL.still (Runs.move e16) ?_
      intro u17 e17
      refine HL.stillG rfl rfl e17 (Runs.load Tryz.underlying26 rfl e3 (cellH_list (l := [.slice (some ⟨sb, so, none⟩) l.length cap]) (X3.keepE hb1) rfl)) ?_
      intro u18 e18
      refine HL.stillG rfl rfl e17 (Runs.move p1) ?_
      intro u19 e19
      refine HL.stillG rfl rfl e17 (Runs.ixSl (o' := so + k0 * 4) Tryz.underlying26 sz41 e18 e19 (by omega) (by omega) (by omega)) ?_
      intro u20 e20
      refine HL.stillG rfl rfl e17 (Runs.fld (o' := so + k0 * 4) Tryz.underlying41 rfl sz3 (by decide) e20 (by first | rfl | omega)) ?_
      intro u21 e21
      refine HL.stillG rfl rfl e17 (Runs.load Tryz.underlying3 rfl e21 (hc 0 _ rfl)) ?_
      intro u22 e22
      refine HL.stillG rfl rfl e17 (Runs.neq e22 rfl (t := true) (by simpa using h6)) ?_
      intro u23 e23
      refine HL.still (Runs.pick e17 e23) ?_
      intro u24 e24
      refine HL.nil ?_
      refine HW.yes e24 ?_
      -- region 4
      repeat refine HW.seq ?_
      refine HW.region ?_
      refine HL.still (Runs.assign rfl) ?_
      intro u6 e6
      refine HL.nil ?_
      refine HW.ret ?_
      exact RT.one rfl e6 ⟨by rw [hget], X03⟩
set_option maxRecDepth 10000 in
theorem object_ch (h : Heap) (l : List JV) (a : Option Addr) (n cap : Nat) (hn : n = l.length) (hB : Jvs h a l) (hP : Plc h) (hl : l.length ≤ 100000) (hOk : OkJ l) :
    CH Tryz.prog 33 #[.slice a n cap] h fun v h' => v = .bool (objO l) ∧ Ext h h' := by
  subst hn
  refine CH.of_body Tryz.func33 rfl rfl rfl ?_
  intro f hf
  have p0 : f 0 = .slice a l.length cap := by rw [hf]; exact fr0_at rfl
  have hR := right_ch h l a l.length cap rfl hB hP hl hOk
  -- region 0
  repeat refine HW.seq ?_
  refine HW.region ?_
  refine HL.still (Runs.assign rfl) ?_
  intro u2 e2
  refine HL.nil ?_
  cases hr : rightO l with
  | false =>
    rw [hr] at hR
    -- region 1
    repeat refine HW.seq ?_
    refine HW.region ?_
    refine HL.still (Runs.move p0) ?_
    intro u3 e3
    refine HL.one (HO.call Tryz.func30 bd30 nm30 (args1 e3) rfl ((hR).mono ?_))
    rintro _ h2 ⟨rfl, X2⟩
    intro u4 e4
    refine HL.still (Runs.move e4) ?_
    intro u5 e5
    refine HL.skipG rfl rfl e5 ?_
    intro u6 e6
    refine HL.skipG rfl rfl e5 ?_
    intro u7 e7
    refine HL.skipG rfl rfl e5 ?_
    intro u8 e8
    refine HL.skipG rfl rfl e5 ?_
    intro u9 e9
    refine HL.skipG rfl rfl e5 ?_
    intro u10 e10
    refine HL.still (Runs.pick e5 rfl) ?_
    intro u11 e11
    refine HL.still (Runs.assign e11) ?_
    intro u2 e2
    refine HL.nil ?_
    refine HW.ret ?_
    exact RT.one rfl e2 ⟨by unfold objO; rw [hr]; rfl, X2⟩
  | true =>
    rw [hr] at hR
    have hpos := List.length_pos_iff.2 (right_ne hr)
    obtain ⟨sb, so, rfl, hc⟩ := hB.at hpos
    have hhd : l.headD zJ = l.getD 0 zJ := by cases l <;> rfl
    obtain ⟨x, hx⟩ : ∃ x, x = l.getD 0 zJ := ⟨_, rfl⟩
    rw [← hx] at hc hhd
    have hc0 : cellH h sb so = some (I64 x.1) := by have := hc 0 _ rfl; simpa using this
    -- region 1
    repeat refine HW.seq ?_
    refine HW.region ?_
    refine HL.still (Runs.move p0) ?_
    intro u3 e3
    refine HL.one (HO.call Tryz.func30 bd30 nm30 (args1 e3) rfl ((hR).mono ?_))
    rintro _ h2 ⟨rfl, X2⟩
    intro u4 e4
    refine HL.still (Runs.move e4) ?_
    intro u5 e5
    refine HL.stillG rfl rfl e5 (Runs.move p0) ?_
    intro u6 e6
    refine HL.stillG rfl rfl e5 (Runs.ixSl (o' := so) Tryz.underlying26 sz41 e6 rfl (by omega) (by omega) (by omega)) ?_
    intro u7 e7
    refine HL.stillG rfl rfl e5 (Runs.fld (o' := so) Tryz.underlying41 rfl sz3 (by decide) e7 (by first | rfl | omega)) ?_
    intro u8 e8
    refine HL.stillG rfl rfl e5 (Runs.load Tryz.underlying3 rfl e8 ((cellH_keep (X2.old sb (lt_of_cellH hc0))).trans hc0)) ?_
    intro u9 e9
    refine HL.stillG rfl rfl e5 (Runs.eql e9 rfl (t := isObj x) (by unfold isObj; rw [Bool.eq_iff_iff, beq_iff_eq, decide_eq_true_eq])) ?_
    intro u10 e10
    refine HL.still (Runs.pick e5 e10) ?_
    intro u11 e11
    refine HL.still (Runs.assign e11) ?_
    intro u2 e2
    refine HL.nil ?_
    refine HW.ret ?_
    exact RT.one rfl e2 ⟨by unfold objO; rw [hr, hhd]; rfl, X2⟩
set_option maxRecDepth 10000 in
/-- A row that is handed back as it is, or none. -/
theorem whole_ch (h : Heap) (l : List JV) (a : Option Addr) (n cap : Nat) (hn : n = l.length) (hB : Jvs h a l) (hP : Plc h) (hl : l.length ≤ 100000) (hOk : OkJ l) :
    CH Tryz.prog 34 #[.slice a n cap] h fun v h' => v = (if rightO l = true then .slice a n cap else .slice none 0 0) ∧ Ext h h' := by
  subst hn
  refine CH.of_body Tryz.func34 rfl rfl rfl ?_
  intro f hf
  have p0 : f 0 = .slice a l.length cap := by rw [hf]; exact fr0_at rfl
  have hR := right_ch h l a l.length cap rfl hB hP hl hOk
  -- region 0
  repeat refine HW.seq ?_
  refine HW.region ?_
  refine HL.still (Runs.assign rfl) ?_
  intro u2 e2
  refine HL.nil ?_
  cases hr : rightO l with
  | false =>
    rw [hr] at hR
    -- region 1
    repeat refine HW.seq ?_
    refine HW.region ?_
    refine HL.still (Runs.move p0) ?_
    intro u3 e3
    refine HL.one (HO.call Tryz.func30 bd30 nm30 (args1 e3) rfl ((hR).mono ?_))
    rintro _ h2 ⟨rfl, X2⟩
    intro u4 e4
    refine HL.still (Runs.notb e4 (u := true) rfl) ?_
    intro u5 e5
    refine HL.nil ?_
    refine HW.yes e5 ?_
    -- region 2
    repeat refine HW.seq ?_
    refine HW.region ?_
    refine HL.still (Runs.assign rfl) ?_
    intro u2 e2
    refine HL.nil ?_
    refine HW.ret ?_
    exact RT.one rfl e2 ⟨by rw [if_neg (by decide)], X2⟩
  | true =>
    rw [hr] at hR
    -- region 1
    repeat refine HW.seq ?_
    refine HW.region ?_
    refine HL.still (Runs.move p0) ?_
    intro u3 e3
    refine HL.one (HO.call Tryz.func30 bd30 nm30 (args1 e3) rfl ((hR).mono ?_))
    rintro _ h2 ⟨rfl, X2⟩
    intro u4 e4
    refine HL.still (Runs.notb e4 (u := false) rfl) ?_
    intro u5 e5
    refine HL.nil ?_
    refine HW.no e5 ?_
    refine HW.skip ?_
    -- region 3
    repeat refine HW.seq ?_
    refine HW.region ?_
    refine HL.still (Runs.move p0) ?_
    intro u6 e6
    refine HL.still (Runs.assign e6) ?_
    intro u2 e2
    refine HL.nil ?_
    refine HW.ret ?_
    exact RT.one rfl e2 ⟨by rw [if_pos rfl], X2⟩
end Go.Proofs.YtjopikfkgjbcgaaGreatDoor
