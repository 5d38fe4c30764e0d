/- Where values are, and rows that are cut out: onionskinlaw12.JobjLooks. -/
import Derived.Test.YtjopikfkgjbcgaaDoorOu
namespace Go.Proofs.YtjopikfkgjbcgaaDoor
set_option linter.unnecessarySimpa false
set_option linter.unusedSimpArgs false
set_option linter.unusedVariables false
open Go.RowKit
theorem strL : (140737488355328 : Nat) ≤ maxLen := by decide
/-- Numbers and lengths of values that came in. -/
def InJ (l : List JV) : Prop := ∀ x ∈ l, (x.2.1.length ≤ 140737488355328 ∧ x.2.2.1.length ≤ 140737488355328) ∧ (Lit.int .i64 x.1).wf = true ∧ (Lit.int .i64 x.2.2.2).wf = true
theorem wf_i64 {n : Int} (h : (Lit.int .i64 n).wf = true) : -9223372036854775808 ≤ n ∧ n ≤ 9223372036854775807 := by
  simp [Lit.wf, IntKind.min, IntKind.max, IntKind.bits, IntKind.signed] at h
  omega
theorem InJ.ok {l : List JV} (h : InJ l) : OkJ l := fun x hx => ⟨(h x hx).1.1, (h x hx).1.2, (wf_i64 (h x hx).2.2).2⟩
theorem InJ.small {l : List JV} (h : InJ l) : SmallJ l := fun x hx => (h x hx).1
/-- Few: the contract as the laws use it. -/
theorem fewC_ch (h : Heap) (l : List JV) (a : Option Addr) (cap : Nat) (hB : Jvs h a l) (hl : l.length ≤ maxLen) (hz : InJ l) : CH Tryd.prog 8 #[.slice a l.length cap] h fun v h' => v = .bool (fewJ l) ∧ h = h' :=
  (few_ch h l a l.length cap rfl hB hl hz.small).mono fun _ _ ⟨q1, q2⟩ => ⟨q1, q2.symm⟩
/-- Values laid over a row's memory. -/
theorem HO.wipe {ρ : Operand → Value} {h : Heap} {d : Option Tmp} {ty : TypeId} {pos : String} {af : Array Edge} {gd : Option (Nat × Bool)} {K : Value → Heap → Prop} {x y : Operand} {g i : Nat} {cur : List Value} (hx : ρ x = .pointer (some ⟨g, i * 4, none⟩)) (hy : ρ y = .agg (encJ zJ).toArray) (hb : h[g]? = some (.cells cur.toArray 37 (0, 0))) (hi : i * 4 + 4 ≤ cur.length)
    (k : ∀ (h' : Heap) (cur' : List Value), h'.size = h.size → (∀ j, j ≠ g → h'[j]? = h[j]?) → h'[g]? = some (.cells cur'.toArray 37 (0, 0)) → cur'.length = cur.length → K undef h') : HO Tryd.prog ⟨d, .store 37 x y, ty, pos, af, gd⟩ ρ h K :=
  HO.storeAgg sz37 hx hy (encJ_one zJ) hb rfl hi fun h' w => k h' _ w.size w.old w.new (by simp only [List.length_append, List.length_take, List.length_drop, encJ_len]; omega)
theorem run_bz (w : World) : (Instr.build 37 #[]).run Tryd.prog w = .ok (.agg (encJ zJ).toArray) w := by kernel_rfl
theorem Runs.zeroJ {ρ : Operand → Value} {h : Heap} {d : Option Tmp} {ty : TypeId} {pos : String} {af : Array Edge} {gd : Option (Nat × Bool)} : Runs Tryd.prog ⟨d, .build 37 #[], ty, pos, af, gd⟩ ρ h (.agg (encJ zJ).toArray) :=
  Runs.build fun w => by
    have e : (#[] : Array (Nat × Operand)).map (fun (i, x) => (i, ρ x)) = #[] := by simp
    rw [e]
    exact run_bz w
theorem same_self {A B : List JV} (h : A = B) : (A == B) = true := by rw [h]; simp
theorem sameC_ch (h : Heap) (A B : List JV) (a b : Option Addr) (c d : Nat) (hA : Jvs h a A) (hB : Jvs h b B) (hlA : A.length ≤ 1000000) (hlB : B.length ≤ 1000000) (he : A = B) : CH Tryd.prog 12 #[.slice a A.length c, .slice b B.length d] h fun v h' => v = .bool true ∧ h = h' :=
  (same_ch h A B a b A.length B.length c d rfl rfl hA hB hlA hlB).mono fun _ _ ⟨q1, q2⟩ => ⟨by rw [q1, same_self he], q2.symm⟩
theorem cutO_le (l : List JV) (at0 : Int) : (cutO l at0).length ≤ l.length := by
  unfold cutO
  split
  · rw [namedO_len, List.length_drop, List.length_take]; omega
  · exact Nat.zero_le _
set_option maxRecDepth 10000 in
set_option maxHeartbeats 4000000 in
theorem lawLooks_ch (h : Heap) (l : List JV) (a : Option Addr) (cap : Nat) (at0 k : Int) (key : List UInt8) (hB : Jvs h a l) (hcap : l.length ≤ cap) (hl : l.length ≤ maxLen) (hz : InJ l) (hP : Plc h) :
    CH Tryd.prog 5 #[.slice a l.length cap, I64 at0, I64 k, .string (strOf key)] h fun v h' => v = .bool true ∧ Ext h h' := by
  refine CH.of_body Tryd.func5 rfl rfl rfl ?_
  intro f hf
  have p0 : f 0 = .slice a l.length cap := by rw [hf]; exact fr0_at rfl
  have p1 : f 1 = I64 at0 := by rw [hf]; exact fr0_at rfl
  have p2 : f 2 = I64 k := by rw [hf]; exact fr0_at rfl
  have p3 : f 3 = .string (strOf key) := by rw [hf]; exact fr0_at rfl
  -- region 0
  repeat refine HW.seq ?_
  refine HW.region ?_
  refine HL.still (Runs.assign rfl) ?_
  intro u8 e8
  refine HL.nil ?_
  -- region 1
  repeat refine HW.seq ?_
  refine HW.region ?_
  refine HL.one (HO.call Tryd.func7 bd7 nm7 (args0) rfl ((small_ch h hP).mono ?_))
  rintro _ h1 ⟨rfl, X1⟩
  intro u14 e14
  refine HL.still (Runs.assign e14) ?_
  intro u9 e9
  refine HL.nil ?_
  have g9 : u9 = .bool true := e9
  -- region 2
  repeat refine HW.seq ?_
  refine HW.region ?_
  refine HL.still (Runs.move p0) ?_
  intro u15 e15
  refine HL.one (HO.call Tryd.func8 bd8 nm8 (args1 e15) rfl ((fewC_ch h1 l a cap (hB.ext X1) hl hz).mono ?_))
  rintro _ h2 ⟨rfl, rfl⟩
  intro u16 e16
  refine HL.still (Runs.assign e16) ?_
  intro u10 e10
  refine HL.nil ?_
  have g10 : u10 = .bool (fewJ l) := e10
  cases hfw : fewJ l with
  | false =>
    rw [hfw] at g10
    -- region 3
    repeat refine HW.seq ?_
    refine HW.region ?_
    refine HL.still (Runs.move g10) ?_
    intro u17 e17
    refine HL.still (Runs.notb e17 (u := true) rfl) ?_
    intro u18 e18
    refine HL.still (Runs.move e18) ?_
    intro u19 e19
    refine HL.skipG rfl rfl e19 ?_
    intro u20 e20
    refine HL.skipG rfl rfl e19 ?_
    intro u21 e21
    refine HL.skipG rfl rfl e19 ?_
    intro u22 e22
    refine HL.still (Runs.pick e19 rfl) ?_
    intro u23 e23
    refine HL.nil ?_
    refine HW.yes e23 ?_
    -- region 4
    repeat refine HW.seq ?_
    refine HW.region ?_
    refine HL.still (Runs.move g9) ?_
    intro u24 e24
    refine HL.still (Runs.assign e24) ?_
    intro u8 e8
    refine HL.nil ?_
    refine HW.ret ?_
    exact RT.one rfl e8 ⟨rfl, X1⟩
  | true =>
    rw [hfw] at g10
    obtain ⟨hl80, _⟩ := fewJ_of hfw
    by_cases hk : key.length > 300
    · skip
      -- region 3
      repeat refine HW.seq ?_
      refine HW.region ?_
      refine HL.still (Runs.move g10) ?_
      intro u17 e17
      refine HL.still (Runs.notb e17 (u := false) rfl) ?_
      intro u18 e18
      refine HL.still (Runs.move e18) ?_
      intro u19 e19
      refine HL.stillG rfl rfl e19 (Runs.move p3) ?_
      intro u20 e20
      refine HL.stillG rfl rfl e19 (Runs.lenS rfl Tryd.underlying9 e20) ?_
      intro u21 e21
      refine HL.stillG rfl rfl e19 (Runs.gtr e21 rfl (t := true) (decide_eq_true (by omega))) ?_
      intro u22 e22
      refine HL.still (Runs.pick e19 e22) ?_
      intro u23 e23
      refine HL.nil ?_
      refine HW.yes e23 ?_
      -- region 4
      repeat refine HW.seq ?_
      refine HW.region ?_
      refine HL.still (Runs.move g9) ?_
      intro u24 e24
      refine HL.still (Runs.assign e24) ?_
      intro u8 e8
      refine HL.nil ?_
      refine HW.ret ?_
      exact RT.one rfl e8 ⟨rfl, X1⟩
    · have hOk := hz.ok
      have hcl := cutO_le l at0
      -- region 3
      repeat refine HW.seq ?_
      refine HW.region ?_
      refine HL.still (Runs.move g10) ?_
      intro u17 e17
      refine HL.still (Runs.notb e17 (u := false) rfl) ?_
      intro u18 e18
      refine HL.still (Runs.move e18) ?_
      intro u19 e19
      refine HL.stillG rfl rfl e19 (Runs.move p3) ?_
      intro u20 e20
      refine HL.stillG rfl rfl e19 (Runs.lenS rfl Tryd.underlying9 e20) ?_
      intro u21 e21
      refine HL.stillG rfl rfl e19 (Runs.gtr e21 rfl (t := false) (decide_eq_false (by omega))) ?_
      intro u22 e22
      refine HL.still (Runs.pick e19 e22) ?_
      intro u23 e23
      refine HL.nil ?_
      refine HW.no e23 ?_
      refine HW.skip ?_
      -- region 5
      repeat refine HW.seq ?_
      refine HW.region ?_
      refine HL.still (Runs.move p0) ?_
      intro u25 e25
      refine HL.still (Runs.move p1) ?_
      intro u26 e26
      refine HL.one (HO.call Tryd.func13 bd13 nm13 (args2 e25 e26) rfl ((cut_ch h1 l a l.length cap at0 rfl hcap (hB.ext X1) (hP.ext X1) (by omega) hOk).mono ?_))
      rintro _ h3 ⟨ac, cc, rfl, Jc, X3⟩
      intro u27 e27
      refine HL.still (Runs.assign e27) ?_
      intro u11 e11
      refine HL.nil ?_
      have g11 := e11
      have X03 : Ext h h3 := X1.ext X3 (Nat.le_refl _)
      -- region 6
      repeat refine HW.seq ?_
      refine HW.region ?_
      refine HL.still (Runs.move g11) ?_
      intro u28 e28
      refine HL.still (Runs.move p0) ?_
      intro u29 e29
      refine HL.still (Runs.move p1) ?_
      intro u30 e30
      refine HL.one (HO.call Tryd.func19 bd19 nm19 (args2 e29 e30) rfl ((cutR_ch h3 l a l.length cap at0 rfl hcap (hB.ext X03) (by omega) hOk).mono ?_))
      rintro _ h4 ⟨ad, cd, rfl, Jd, X4⟩
      intro u31 e31
      refine HL.one (HO.call Tryd.func12 bd12 nm12 (args2 e28 e31) rfl ((sameC_ch h4 (cutO l at0) (cutO l at0) ac ad cc cd (Jc.ext X4).jvs Jd.jvs (by omega) (by omega) rfl).mono ?_))
      rintro _ h5 ⟨rfl, rfl⟩
      intro u32 e32
      refine HL.still (Runs.assign e32) ?_
      intro u12 e12
      refine HL.nil ?_
      have g12 : u12 = .bool true := e12
      have X04 : Ext h h4 := X03.ext X4 (Nat.le_refl _)
      have Jc4 := Jc.ext X4
      have hcc := Jc4.2
      -- region 7
      repeat refine HW.seq ?_
      refine HW.region ?_
      refine HL.still (Runs.assign rfl) ?_
      intro u13 e13
      refine HL.nil ?_
      have hsz : h.size ≤ h1.size := X1.size
      refine HW.mono (N := fun f v => f 0 = .slice a l.length cap ∧ f 1 = I64 at0 ∧ f 2 = I64 k ∧ f 3 = .string (strOf key) ∧ f 9 = .bool true ∧ f 12 = .bool true ∧ Ext h v) ?_ ?_ (fun _ _ _ q => q) (fun _ _ q => q)
      · refine HW.block ?_
        refine HW.loop (fun m f u => ∃ i : Nat, i ≤ (cutO l at0).length ∧ m = (cutO l at0).length - i ∧ f 13 = I64 i ∧ f 0 = .slice a l.length cap ∧ f 1 = I64 at0 ∧ f 2 = I64 k ∧ f 3 = .string (strOf key) ∧ f 9 = .bool true ∧ f 12 = .bool true ∧ f 11 = .slice ac (cutO l at0).length cc ∧ Ext h u ∧ ∀ g, ac = some ⟨g, 0, none⟩ → ∃ cur : List Value, u[g]? = some (.cells cur.toArray 37 (0, 0)) ∧ cur.length = cc * 4) (cutO l at0).length
          ⟨0, Nat.zero_le _, rfl, e13, p0, p1, p2, p3, g9, g12, g11, X04, fun g hg => by
            subst hg
            obtain ⟨cur, q1, q2, _⟩ := Jc4.blkAt
            exact ⟨cur, q1, q2⟩⟩ ?_
        clear e8 e9 g9 e10 g10 e11 g11 e12 g12 e13 p0 p1 p2 p3 e23 X03 X04
        rintro m f u ⟨i, hi, hm, f13, f0, f1, f2, f3, f9, f12, f11, hX, hblk⟩
        by_cases hlt : i < (cutO l at0).length
        · obtain ⟨g, rfl, hg⟩ : ∃ g, ac = some ⟨g, 0, none⟩ ∧ h1.size ≤ g := by
            rcases Jc4.blk with ⟨_, q⟩ | ⟨g, q, q1, _⟩
            · rw [q] at hlt; cases hlt
            · exact ⟨g, q, q1⟩
          obtain ⟨cur, hb, hcur⟩ := hblk g rfl
          -- region 8
          repeat refine HW.seq ?_
          refine HW.region ?_
          refine HL.still (Runs.move f13) ?_
          intro u33 e33
          refine HL.still (Runs.move f11) ?_
          intro u34 e34
          refine HL.still (Runs.lenSl rfl Tryd.underlying22 e34) ?_
          intro u35 e35
          refine HL.still (Runs.lss e33 e35 rfl) ?_
          intro u36 e36
          refine HL.nil ?_
          repeat refine HW.seq ?_
          refine HW.yes ?_ ?_
          exact e36.trans (congrArg Value.bool (decide_eq_true (by omega)))
          refine HW.skip ?_
          repeat refine HW.seq ?_
          refine HW.block ?_
          -- region 10
          repeat refine HW.seq ?_
          refine HW.region ?_
          refine HL.still (Runs.move f11) ?_
          intro u39 e39
          refine HL.still (Runs.move f13) ?_
          intro u40 e40
          refine HL.still Runs.zeroJ ?_
          intro u41 e41
          refine HL.still (Runs.ixSl (o' := i * 4) Tryd.underlying22 sz37 e39 e40 (by omega) (by omega) (by omega)) ?_
          intro u42 e42
          refine HL.zero (HO.wipe (i := i) e42 e41 hb (by omega) ?_)
          intro h6 cur6 z6 o6 b6 l6
          refine HL.nil ?_
          -- region 9
          repeat refine HW.seq ?_
          refine HW.region ?_
          refine HL.still (Runs.move f13) ?_
          intro u37 e37
          refine HL.still (Runs.add e37 rfl (i64w (by omega))) ?_
          intro u38 e38
          refine HL.still (Runs.assign e38) ?_
          intro u13 e13
          refine HL.nil ?_
          exact ⟨(cutO l at0).length - (i + 1), by omega, i + 1, by omega, rfl, e13, f0, f1, f2, f3, f9, f12, f11, ⟨by rw [z6]; exact hX.size, fun j hj => (o6 j (by omega)).trans (hX.old j hj)⟩, fun g' hg' => by cases hg'; exact ⟨cur6, b6, by rw [l6]; exact hcur⟩⟩
        · skip
          -- region 8
          repeat refine HW.seq ?_
          refine HW.region ?_
          refine HL.still (Runs.move f13) ?_
          intro u33 e33
          refine HL.still (Runs.move f11) ?_
          intro u34 e34
          refine HL.still (Runs.lenSl rfl Tryd.underlying22 e34) ?_
          intro u35 e35
          refine HL.still (Runs.lss e33 e35 rfl) ?_
          intro u36 e36
          refine HL.nil ?_
          repeat refine HW.seq ?_
          refine HW.no ?_ ?_
          exact e36.trans (congrArg Value.bool (decide_eq_false (by omega)))
          refine HW.exitHere ?_
          exact ⟨f0, f1, f2, f3, f9, f12, hX⟩
      clear e8 e9 g9 e10 g10 e11 g11 e12 g12 e13 p0 p1 p2 p3 e23 X03 X04 Jc Jd Jc4
      rintro f v ⟨p0, p1, p2, p3, g9, g12, X⟩
      have A1 := get_ch v l a l.length cap at0 key rfl (hB.ext X) (hP.ext X) (by omega) hOk
      have A2 : ∀ u, Ext v u → CH Tryd.prog 20 #[.slice a l.length cap, I64 at0, .string (strOf key)] u fun w h' => w = I64 (getO l at0 key) ∧ Ext u h' := fun u Y => getR_ch u l a l.length cap at0 key rfl (hB.ext (X.ext Y (Nat.le_refl _))) (by omega) hOk
      have A3 : ∀ u, Ext v u → CH Tryd.prog 18 #[.slice a l.length cap, I64 at0, I64 k] u fun w h' => w = I64 (itemO l at0 k) ∧ Ext u h' := fun u Y => item_ch u l a l.length cap at0 k rfl (hB.ext (X.ext Y (Nat.le_refl _))) (hP.ext (X.ext Y (Nat.le_refl _))) (by omega) hOk
      have A4 : ∀ u, Ext v u → CH Tryd.prog 21 #[.slice a l.length cap, I64 at0, I64 k] u fun w h' => w = I64 (itemO l at0 k) ∧ Ext u h' := fun u Y => itemR_ch u l a l.length cap at0 k rfl (hB.ext (X.ext Y (Nat.le_refl _))) (by omega) hOk
      have A5 : ∀ u, Ext v u → CH Tryd.prog 13 #[.slice a l.length cap, I64 at0] u fun w h' => ∃ a' c', w = .slice a' (cutO l at0).length c' ∧ Js h' u.size a' c' (cutO l at0) ∧ Ext u h' := fun u Y => cut_ch u l a l.length cap at0 rfl hcap (hB.ext (X.ext Y (Nat.le_refl _))) (hP.ext (X.ext Y (Nat.le_refl _))) (by omega) hOk
      have A6 : ∀ u, Ext v u → CH Tryd.prog 19 #[.slice a l.length cap, I64 at0] u fun w h' => ∃ a' c', w = .slice a' (cutO l at0).length c' ∧ Js h' u.size a' c' (cutO l at0) ∧ Ext u h' := fun u Y => cutR_ch u l a l.length cap at0 rfl hcap (hB.ext (X.ext Y (Nat.le_refl _))) (by omega) hOk
      -- region 11
      repeat refine HW.seq ?_
      refine HW.region ?_
      refine HL.still (Runs.move g9) ?_
      intro u43 e43
      refine HL.still (Runs.move e43) ?_
      intro u44 e44
      refine HL.stillG rfl rfl e44 (Runs.move g12) ?_
      intro u45 e45
      refine HL.still (Runs.pick e44 e45) ?_
      intro u46 e46
      refine HL.still (Runs.move e46) ?_
      intro u47 e47
      refine HL.stillG rfl rfl e47 (Runs.move p0) ?_
      intro u48 e48
      refine HL.stillG rfl rfl e47 (Runs.move p1) ?_
      intro u49 e49
      refine HL.stillG rfl rfl e47 (Runs.move p3) ?_
      intro u50 e50
      refine HL.oneG rfl rfl e47 (HO.call Tryd.func14 bd14 nm14 (args3 e48 e49 e50) rfl ((A1).mono ?_))
      rintro _ b1 ⟨rfl, Y1⟩
      intro u51 e51
      refine HL.stillG rfl rfl e47 (Runs.move p0) ?_
      intro u52 e52
      refine HL.stillG rfl rfl e47 (Runs.move p1) ?_
      intro u53 e53
      refine HL.stillG rfl rfl e47 (Runs.move p3) ?_
      intro u54 e54
      refine HL.oneG rfl rfl e47 (HO.call Tryd.func20 bd20 nm20 (args3 e52 e53 e54) rfl ((A2 b1 Y1).mono ?_))
      rintro _ b2 ⟨rfl, Y2⟩
      intro u55 e55
      refine HL.stillG rfl rfl e47 (Runs.eql e51 e55 (t := true) (by simp)) ?_
      intro u56 e56
      refine HL.still (Runs.pick e47 e56) ?_
      intro u57 e57
      refine HL.still (Runs.move e57) ?_
      intro u58 e58
      refine HL.stillG rfl rfl e58 (Runs.move p0) ?_
      intro u59 e59
      refine HL.stillG rfl rfl e58 (Runs.move p1) ?_
      intro u60 e60
      refine HL.stillG rfl rfl e58 (Runs.move p2) ?_
      intro u61 e61
      refine HL.oneG rfl rfl e58 (HO.call Tryd.func18 bd18 nm18 (args3 e59 e60 e61) rfl ((A3 b2 (Y1.ext Y2 (Nat.le_refl _))).mono ?_))
      rintro _ b3 ⟨rfl, Y3⟩
      intro u62 e62
      refine HL.stillG rfl rfl e58 (Runs.move p0) ?_
      intro u63 e63
      refine HL.stillG rfl rfl e58 (Runs.move p1) ?_
      intro u64 e64
      refine HL.stillG rfl rfl e58 (Runs.move p2) ?_
      intro u65 e65
      refine HL.oneG rfl rfl e58 (HO.call Tryd.func21 bd21 nm21 (args3 e63 e64 e65) rfl ((A4 b3 ((Y1.ext Y2 (Nat.le_refl _)).ext Y3 (Nat.le_refl _))).mono ?_))
      rintro _ b4 ⟨rfl, Y4⟩
      intro u66 e66
      refine HL.stillG rfl rfl e58 (Runs.eql e62 e66 (t := true) (by simp)) ?_
      intro u67 e67
      refine HL.still (Runs.pick e58 e67) ?_
      intro u68 e68
      refine HL.still (Runs.move e68) ?_
      intro u69 e69
      refine HL.stillG rfl rfl e69 (Runs.move p0) ?_
      intro u70 e70
      refine HL.stillG rfl rfl e69 (Runs.move p1) ?_
      intro u71 e71
      refine HL.oneG rfl rfl e69 (HO.call Tryd.func13 bd13 nm13 (args2 e70 e71) rfl ((A5 b4 (((Y1.ext Y2 (Nat.le_refl _)).ext Y3 (Nat.le_refl _)).ext Y4 (Nat.le_refl _))).mono ?_))
      rintro _ b5 ⟨a5, c5, rfl, J5, Y5⟩
      intro u72 e72
      refine HL.stillG rfl rfl e69 (Runs.move p0) ?_
      intro u73 e73
      refine HL.stillG rfl rfl e69 (Runs.move p1) ?_
      intro u74 e74
      refine HL.oneG rfl rfl e69 (HO.call Tryd.func19 bd19 nm19 (args2 e73 e74) rfl ((A6 b5 ((((Y1.ext Y2 (Nat.le_refl _)).ext Y3 (Nat.le_refl _)).ext Y4 (Nat.le_refl _)).ext Y5 (Nat.le_refl _))).mono ?_))
      rintro _ b6 ⟨a6, c6, rfl, J6, Y6⟩
      intro u75 e75
      refine HL.oneG rfl rfl e69 (HO.call Tryd.func12 bd12 nm12 (args2 e72 e75) rfl ((sameC_ch b6 (cutO l at0) (cutO l at0) a5 a6 c5 c6 (J5.ext Y6).jvs J6.jvs (by omega) (by omega) rfl).mono ?_))
      rintro _ b7 ⟨rfl, rfl⟩
      intro u76 e76
      refine HL.still (Runs.pick e69 e76) ?_
      intro u77 e77
      refine HL.still (Runs.assign e77) ?_
      intro u8 e8
      refine HL.nil ?_
      refine HW.ret ?_
      exact RT.one rfl e8 ⟨rfl, X.ext (((((Y1.ext Y2 (Nat.le_refl _)).ext Y3 (Nat.le_refl _)).ext Y4 (Nat.le_refl _)).ext Y5 (Nat.le_refl _)).ext Y6 (Nat.le_refl _)) (Nat.le_refl _)⟩
end Go.Proofs.YtjopikfkgjbcgaaDoor
