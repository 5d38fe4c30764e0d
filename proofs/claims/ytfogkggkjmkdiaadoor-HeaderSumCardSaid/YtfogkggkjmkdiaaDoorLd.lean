/- onionskinlaw05.OctalBack returns true. -/
import Derived.Test.YtfogkggkjmkdiaaDoorLc
namespace Go.Proofs.YtfogkggkjmkdiaaDoor
set_option linter.unnecessarySimpa false
set_option linter.unusedSimpArgs false
set_option linter.unusedVariables false
open Go.RowKit
theorem writeO_len (n size : Int) : (writeO n size).1.length ≤ 12 := by
  cases e : (writeO n size).2 with
  | false => rw [writeO_no e]; decide
  | true =>
    have h1 := (write_back n size e).2.1
    rw [writeO_may] at e
    have h2 := of_decide_eq_true e
    omega
theorem shr8 (N m : Nat) (hN : N ≤ 4611686018427387904) (hm : m < 8) : ((N : Int)).fdiv (2 ^ (min ((8 * m : Nat) : Int).toNat IntKind.i64.bits)) = ((N / 2 ^ (8 * m) : Nat) : Int) := by
  have e : min ((8 * m : Nat) : Int).toNat IntKind.i64.bits = 8 * m := by simp [IntKind.bits]; omega
  rw [e, Int.fdiv_eq_ediv_of_nonneg _ (Int.pow_nonneg (by decide))]
  simp
set_option maxRecDepth 10000 in
theorem lawBack_ch (h : Heap) (n size : Int) (hwn : (Lit.int .i64 n).wf = true) (hws : (Lit.int .i64 size).wf = true) :
    CH Tryd.prog 5 #[.int .i64 n, .int .i64 size] h fun v h' => v = .bool true ∧ Ext h h' := by
  refine CH.of_body Tryd.func5 rfl rfl rfl ?_
  intro f hf
  have p0 : f 0 = .int .i64 n := by rw [hf]; exact fr0_at rfl
  have p1 : f 1 = .int .i64 size := by rw [hf]; exact fr0_at rfl
  -- region 0
  repeat refine HW.seq ?_
  refine HW.region ?_
  refine HL.still (Runs.assign rfl) ?_
  intro u4 e4
  refine HL.nil ?_
  -- region 1
  repeat refine HW.seq ?_
  refine HW.region ?_
  refine HL.one (HO.call Tryd.func13 bd13 nm13 (args0) rfl ((small5_ch _).mono ?_))
  rintro _ h1 ⟨rfl, E1⟩
  intro u11 e11
  refine HL.still (Runs.assign e11) ?_
  intro u5 e5
  refine HL.nil ?_
  -- region 2
  repeat refine HW.seq ?_
  refine HW.region ?_
  refine HL.still (Runs.move p0) ?_
  intro u13 e13
  refine HL.still (Runs.move p1) ?_
  intro u14 e14
  refine HL.one (HO.call Tryd.func16 bd16 nm16 (args2 e13 e14) rfl ((write_ch h1 n size).mono ?_))
  rintro _ h2 ⟨ax, cx, rfl, bx, kx, E2⟩
  intro u15 e15
  refine HL.still (Runs.move e15) ?_
  intro u12 e12
  refine HL.still (Runs.extr e12 rfl) ?_
  intro u16 e16
  refine HL.still (Runs.extr e12 rfl) ?_
  intro u17 e17
  refine HL.still (Runs.assign e16) ?_
  intro u6 e6
  refine HL.still (Runs.assign e17) ?_
  intro u7 e7
  refine HL.nil ?_
  have hlen := writeO_len n size
  -- region 3
  repeat refine HW.seq ?_
  refine HW.region ?_
  refine HL.still (Runs.move e6) ?_
  intro u19 e19
  refine HL.one (HO.call Tryd.func14 bd14 nm14 (args1 e19) rfl ((read_ch h2 (writeO n size).1 ax cx bx kx (by omega)).mono ?_))
  rintro _ h3 ⟨rfl, E3⟩
  intro u20 e20
  refine HL.still (Runs.move e20) ?_
  intro u18 e18
  refine HL.still (Runs.extr e18 rfl) ?_
  intro u21 e21
  refine HL.still (Runs.extr e18 rfl) ?_
  intro u22 e22
  refine HL.still (Runs.assign e21) ?_
  intro u8 e8
  refine HL.still (Runs.assign e22) ?_
  intro u9 e9
  refine HL.nil ?_
  have X3 : Ext h h3 := (E1.ext E2 (Nat.le_refl _)).ext E3 (Nat.le_refl _)
  -- region 4
  repeat refine HW.seq ?_
  refine HW.region ?_
  refine HL.still (Runs.move p0) ?_
  intro u23 e23
  refine HL.still (Runs.geq e23 rfl rfl) ?_
  intro u24 e24
  refine HL.still (Runs.move e24) ?_
  intro u25 e25
  refine HL.anyG rfl rfl e25 (fun hg => Runs.move p0) ?_
  intro u26 e26
  refine HL.anyG rfl rfl e25 (fun hg => Runs.leq (e26.trans (if_pos hg)) rfl rfl) ?_
  intro u27 e27
  refine HL.still (Runs.pick e25 (and_pick e27)) ?_
  intro u28 e28
  refine HL.still (Runs.move e28) ?_
  intro u29 e29
  refine HL.anyG rfl rfl e29 (fun hg => Runs.move p1) ?_
  intro u30 e30
  refine HL.anyG rfl rfl e29 (fun hg => Runs.geq (e30.trans (if_pos hg)) rfl rfl) ?_
  intro u31 e31
  refine HL.still (Runs.pick e29 (and_pick e31)) ?_
  intro u32 e32
  refine HL.still (Runs.move e32) ?_
  intro u33 e33
  refine HL.anyG rfl rfl e33 (fun hg => Runs.move p1) ?_
  intro u34 e34
  refine HL.anyG rfl rfl e33 (fun hg => Runs.leq (e34.trans (if_pos hg)) rfl rfl) ?_
  intro u35 e35
  refine HL.still (Runs.pick e33 (and_pick e35)) ?_
  intro u36 e36
  refine HL.still (Runs.assign e36) ?_
  intro u10 e10
  refine HL.nil ?_
  -- region 5
  repeat refine HW.seq ?_
  refine HW.region ?_
  refine HL.still (Runs.move e10) ?_
  intro u37 e37
  refine HL.still (Runs.move e37) ?_
  intro u38 e38
  refine HL.anyG rfl rfl e38 (fun hg => Runs.move p1) ?_
  intro u39 e39
  refine HL.anyG rfl rfl e38 (fun hg => Runs.lss (e39.trans (if_pos hg)) rfl rfl) ?_
  intro u40 e40
  refine HL.still (Runs.pick e38 (and_pick e40)) ?_
  intro u41 e41
  refine HL.nil ?_
  have g6 : u6 = .slice ax (writeO n size).1.length cx := e6
  have g7 : u7 = .bool (writeO n size).2 := e7
  have g8 : u8 = I64 ((readO (writeO n size).1).1 : Int) := e8
  have g9 : u9 = .bool (readO (writeO n size).1).2 := e9
  repeat refine HW.seq ?_
  refine HW.mono (N := fun f g' => g' = h3 ∧ f 0 = .int .i64 n ∧ f 1 = .int .i64 size ∧ f 5 = .bool true ∧ f 6 = u6 ∧ f 7 = u7 ∧ f 8 = u8 ∧ f 9 = u9 ∧ f 10 = .bool (writeO n size).2) ?_ ?_ (fun _ _ _ h => h) (fun _ _ h => h)
  · by_cases hc : ((((decide (n ≥ 0) && decide (n ≤ 4611686018427387904)) && decide (size ≥ 2)) && decide (size ≤ 12)) && decide (size < 9)) = true
    · have e41' := e41.trans (congrArg Value.bool hc)
      refine HW.yes e41' ?_
      simp only [Bool.and_eq_true, decide_eq_true_eq] at hc
      obtain ⟨N, rfl⟩ : ∃ N : Nat, n = (N : Int) := ⟨n.toNat, by omega⟩
      obtain ⟨m, rfl⟩ : ∃ m : Nat, size = (m : Int) + 1 := ⟨(size - 1).toNat, by omega⟩
      -- region 6
      repeat refine HW.seq ?_
      refine HW.region ?_
      refine HL.still (Runs.move p0) ?_
      intro u42 e42
      refine HL.still (Runs.move p1) ?_
      intro u43 e43
      refine HL.still (Runs.sub e43 rfl (c := (m : Int)) (by rw [i64w (by omega)]; omega)) ?_
      intro u44 e44
      refine HL.still (Runs.conv Tryd.underlying3 Tryd.underlying31 e44 (u64w (by omega))) ?_
      intro u45 e45
      refine HL.still (Runs.mul rfl e45 (c := ((8 * m : Nat) : Int)) (by rw [u64w (by omega)]; omega)) ?_
      intro u46 e46
      refine HL.still (Runs.shr e42 e46 (by omega) (shr8 N m (by omega) (by omega))) ?_
      intro u47 e47
      refine HL.still (Runs.eql e47 rfl rfl) ?_
      intro u48 e48
      refine HL.still (Runs.assign e48) ?_
      intro u10 e10
      refine HL.nil ?_
      refine ⟨rfl, p0, p1, e5, rfl, rfl, rfl, rfl, e10.trans (congrArg Value.bool ?_)⟩
      rw [writeO_may]
      unfold mayO
      have e1 : ((m : Int) + 1 - 1).toNat = m := by omega
      have e2 : ((N : Int)).toNat = N := by omega
      rw [e1, e2]
      by_cases hz : N / 2 ^ (8 * m) = 0
      · rw [hz]
        exact (decide_eq_true (by omega)).symm
      · rw [decide_eq_false (by omega)]
        exact beq_eq_false_iff_ne.2 (by omega)
    · have hc' := Bool.eq_false_iff.2 hc
      refine HW.no (e41.trans (congrArg Value.bool hc')) ?_
      refine HW.skip ?_
      refine ⟨rfl, p0, p1, e5, rfl, rfl, rfl, rfl, e10.trans (congrArg Value.bool ?_)⟩
      rw [writeO_may]
      unfold mayO
      simp only [Bool.and_eq_true, decide_eq_true_eq] at hc
      by_cases hs : size < 9
      · rw [decide_eq_false (p := _ ∧ _) (by omega), Bool.eq_false_iff]
        simp only [ne_eq, Bool.and_eq_true, decide_eq_true_eq]
        omega
      · rw [← Bool.decide_and, ← Bool.decide_and, ← Bool.decide_and]
        apply decide_eq_decide.2
        omega
  · clear e5 e6 e7 e8 e9 e10
    rintro f g ⟨rfl, f0, f1, f5, f6, f7, f8, f9, f10⟩
    have f6 := f6.trans g6
    have f7 := f7.trans g7
    have f8 := f8.trans g8
    have f9 := f9.trans g9
    -- region 7
    repeat refine HW.seq ?_
    refine HW.region ?_
    refine HL.still (Runs.move f7) ?_
    intro u49 e49
    refine HL.still (Runs.move f10) ?_
    intro u50 e50
    refine HL.still (Runs.neqB Tryd.underlying4 e49 e50 (b := false) (by simp)) ?_
    intro u51 e51
    refine HL.nil ?_
    repeat refine HW.seq ?_
    refine HW.no ?_ ?_
    exact e51
    refine HW.skip ?_
    cases hok : (writeO n size).2 with
    | true =>
      obtain ⟨hr, hl, h0⟩ := write_back n size hok
      rw [hok] at f7
      rw [hr] at f8 f9
      -- region 9
      repeat refine HW.seq ?_
      refine HW.region ?_
      refine HL.still (Runs.move f5) ?_
      intro u52 e52
      refine HL.still (Runs.move e52) ?_
      intro u53 e53
      refine HL.stillG rfl rfl e53 (Runs.move f7) ?_
      intro u54 e54
      refine HL.stillG rfl rfl e53 (Runs.notb e54 (t := true) (u := false) rfl) ?_
      intro u55 e55
      refine HL.stillG rfl rfl e53 (Runs.move e55) ?_
      intro u56 e56
      refine HL.stillG rfl rfl e56 (Runs.move f9) ?_
      intro u57 e57
      refine HL.stillG rfl rfl e56 (Runs.move e57) ?_
      intro u58 e58
      refine HL.stillG rfl rfl e58 (Runs.move f8) ?_
      intro u59 e59
      refine HL.stillG rfl rfl e58 (Runs.move f0) ?_
      intro u60 e60
      refine HL.stillG rfl rfl e58 (Runs.eql e59 e60 (t := true) (by simp; omega)) ?_
      intro u61 e61
      refine HL.stillG rfl rfl e56 (Runs.pick e58 e61) ?_
      intro u62 e62
      refine HL.stillG rfl rfl e56 (Runs.move e62) ?_
      intro u63 e63
      refine HL.stillG rfl rfl e63 (Runs.move f6) ?_
      intro u64 e64
      refine HL.stillG rfl rfl e63 (Runs.lenSl rfl Tryd.underlying22 e64) ?_
      intro u65 e65
      refine HL.stillG rfl rfl e63 (Runs.move f1) ?_
      intro u66 e66
      refine HL.stillG rfl rfl e63 (Runs.eql e65 e66 (t := true) (by simp; omega)) ?_
      intro u67 e67
      refine HL.stillG rfl rfl e56 (Runs.pick e63 e67) ?_
      intro u68 e68
      refine HL.stillG rfl rfl e53 (Runs.pick e56 e68) ?_
      intro u69 e69
      refine HL.still (Runs.pick e53 e69) ?_
      intro u70 e70
      refine HL.still (Runs.move e70) ?_
      intro u71 e71
      refine HL.stillG rfl rfl e71 (Runs.move f7) ?_
      intro u72 e72
      refine HL.stillG rfl rfl e71 (Runs.move e72) ?_
      intro u73 e73
      refine HL.skipG rfl rfl e73 ?_
      intro u74 e74
      refine HL.skipG rfl rfl e73 ?_
      intro u75 e75
      refine HL.skipG rfl rfl e73 ?_
      intro u76 e76
      refine HL.stillG rfl rfl e71 (Runs.pick e73 rfl) ?_
      intro u77 e77
      refine HL.still (Runs.pick e71 e77) ?_
      intro u78 e78
      refine HL.still (Runs.assign e78) ?_
      intro u4 e4
      refine HL.nil ?_
      refine HW.ret ?_
      exact RT.one rfl e4 ⟨rfl, X3⟩
    | false =>
      rw [hok] at f7
      rw [writeO_no hok] at f6
      -- region 9
      repeat refine HW.seq ?_
      refine HW.region ?_
      refine HL.still (Runs.move f5) ?_
      intro u52 e52
      refine HL.still (Runs.move e52) ?_
      intro u53 e53
      refine HL.stillG rfl rfl e53 (Runs.move f7) ?_
      intro u54 e54
      refine HL.stillG rfl rfl e53 (Runs.notb e54 (t := false) (u := true) rfl) ?_
      intro u55 e55
      refine HL.stillG rfl rfl e53 (Runs.move e55) ?_
      intro u56 e56
      refine HL.skipG rfl rfl e56 ?_
      intro u57 e57
      refine HL.skipG rfl rfl e56 ?_
      intro u58 e58
      refine HL.skipU rfl rfl e58 ?_
      intro u59 e59
      refine HL.skipU rfl rfl e58 ?_
      intro u60 e60
      refine HL.skipU rfl rfl e58 ?_
      intro u61 e61
      refine HL.skipG rfl rfl e56 ?_
      intro u62 e62
      refine HL.skipG rfl rfl e56 ?_
      intro u63 e63
      refine HL.skipU rfl rfl e63 ?_
      intro u64 e64
      refine HL.skipU rfl rfl e63 ?_
      intro u65 e65
      refine HL.skipU rfl rfl e63 ?_
      intro u66 e66
      refine HL.skipU rfl rfl e63 ?_
      intro u67 e67
      refine HL.skipG rfl rfl e56 ?_
      intro u68 e68
      refine HL.stillG rfl rfl e53 (Runs.pick e56 rfl) ?_
      intro u69 e69
      refine HL.still (Runs.pick e53 e69) ?_
      intro u70 e70
      refine HL.still (Runs.move e70) ?_
      intro u71 e71
      refine HL.stillG rfl rfl e71 (Runs.move f7) ?_
      intro u72 e72
      refine HL.stillG rfl rfl e71 (Runs.move e72) ?_
      intro u73 e73
      refine HL.stillG rfl rfl e73 (Runs.move f6) ?_
      intro u74 e74
      refine HL.stillG rfl rfl e73 (Runs.lenSl rfl Tryd.underlying22 e74) ?_
      intro u75 e75
      refine HL.stillG rfl rfl e73 (Runs.eql e75 rfl (t := true) rfl) ?_
      intro u76 e76
      refine HL.stillG rfl rfl e71 (Runs.pick e73 e76) ?_
      intro u77 e77
      refine HL.still (Runs.pick e71 e77) ?_
      intro u78 e78
      refine HL.still (Runs.assign e78) ?_
      intro u4 e4
      refine HL.nil ?_
      refine HW.ret ?_
      exact RT.one rfl e4 ⟨rfl, X3⟩
end Go.Proofs.YtfogkggkjmkdiaaDoor
