/- onionskinref06.Print. -/
import Derived.Test.YtfogkggkjmkdiaaDoorHe
namespace Go.Proofs.YtfogkggkjmkdiaaDoor
set_option linter.unnecessarySimpa false
set_option linter.unusedSimpArgs false
set_option linter.unusedVariables false
open Go.RowKit
theorem nums_cell (x : Hd) {k : Nat} (hk : k < 7) : (x.nums.map I64)[k]? = some (I64 (x.nums.getD k 0)) := getD_map I64 x.nums k 0 hk
theorem long_mix (a b c d : Bool) : ((a || b) || (c || d)) = ((a || c) || (b || d)) := by cases a <;> cases b <;> cases c <;> cases d <;> rfl
theorem fAtC_eq : fAtC = [100, 108, 116, 124, 136, 329, 337].map I64 := rfl
/-- What a written number is told as. -/
def Wv (x : Hd) (k : Nat) (v : Value) (hh : Heap) : Prop := ∃ a c, v = .tuple #[.slice a (wr x k).length c, .bool (wrOk x k)] ∧ Byt hh a (wr x k)
def Ws (x : Hd) (k : Nat) (v : Value) (hh : Heap) : Prop := ∃ a c, v = .slice a (wr x k).length c ∧ Byt hh a (wr x k)
theorem Wv.mk {x : Hd} {k M : Nat} : Stable (Mk M) (Wv x k) := fun _ _ _ hm ⟨a, c, q1, q2⟩ => ⟨a, c, q1, q2.mk hm⟩
theorem Ws.mk {x : Hd} {k M : Nat} : Stable (Mk M) (Ws x k) := fun _ _ _ hm ⟨a, c, q1, q2⟩ => ⟨a, c, q1, q2.mk hm⟩
set_option maxRecDepth 10000 in
theorem rprint_ch (h : Heap) (x : Hd) (hn : x.name.length ≤ maxLen) (hk : x.link.length ≤ maxLen) :
    CH Tryd.prog 27 #[.agg x.cells.toArray] h fun v h' => ∃ a c, v = .tuple #[.slice a (printO x).1.length c, .bool (printO x).2] ∧ Byt h' a (printO x).1 ∧ (printO x).1.length ≤ c ∧ Ext h h' := by
  refine CH.of_body Tryd.func27 rfl rfl rfl ?_
  intro f hf
  have p0 : f 0 = .agg x.cells.toArray := by rw [hf]; exact fr0_at rfl
  -- region 0
  repeat refine HW.seq ?_
  refine HW.region ?_
  refine HL.one (HO.box p0 ?_)
  intro h1 w1
  intro u1 e1
  refine HL.still (Runs.assign rfl) ?_
  intro u2 e2
  refine HL.still (Runs.assign rfl) ?_
  intro u3 e3
  refine HL.nil ?_
  have z1 := w1.size
  have X1 : Ext h h1 := w1.ext
  repeat refine HW.seq ?_
  refine HW.mono (N := fun f' g => g = h1 ∧ f' 4 = .bool (x.name.contains 0 || x.link.contains 0) ∧ f' 1 = .pointer (some ⟨h.size, 0, none⟩)) ?_ ?_ (fun _ _ _ h => h) (fun _ _ h => h)
  · cases hl1 : x.name.contains 0 with
    | true =>
      -- region 1
      repeat refine HW.seq ?_
      refine HW.region ?_
      refine HL.still (Runs.fld (o' := 0) Tryd.underlying36 rfl sz9 (by decide) e1 (by rfl)) ?_
      intro u14 e14
      refine HL.still (Runs.load Tryd.underlying9 rfl e14 ((cellH_of w1.new 0).trans rfl)) ?_
      intro u15 e15
      refine HL.one (HO.call Tryd.func42 bd42 nm42 (args1 e15) rfl ((has0_ch h1 x.name hn).mono ?_))
      rintro _ h2 ⟨rfl, hh2⟩
      intro u16 e16
      refine HL.still (Runs.move (e16.trans (congrArg Value.bool hl1))) ?_
      intro u17 e17
      refine HL.skipG rfl rfl e17 ?_
      intro u18 e18
      refine HL.skipG rfl rfl e17 ?_
      intro u19 e19
      refine HL.skipG rfl rfl e17 ?_
      intro u20 e20
      refine HL.still (Runs.pick e17 rfl) ?_
      intro u21 e21
      refine HL.still (Runs.assign e21) ?_
      intro u4 e4
      refine HL.nil ?_
      exact ⟨hh2, e4, e1⟩
    | false =>
      -- region 1
      repeat refine HW.seq ?_
      refine HW.region ?_
      refine HL.still (Runs.fld (o' := 0) Tryd.underlying36 rfl sz9 (by decide) e1 (by rfl)) ?_
      intro u14 e14
      refine HL.still (Runs.load Tryd.underlying9 rfl e14 ((cellH_of w1.new 0).trans rfl)) ?_
      intro u15 e15
      refine HL.one (HO.call Tryd.func42 bd42 nm42 (args1 e15) rfl ((has0_ch h1 x.name hn).mono ?_))
      rintro _ h2 ⟨rfl, hh2⟩
      intro u16 e16
      refine HL.still (Runs.move (e16.trans (congrArg Value.bool hl1))) ?_
      intro u17 e17
      refine HL.stillG rfl rfl e17 (Runs.fld (o' := 7) Tryd.underlying36 rfl sz9 (by decide) e1 (by rfl)) ?_
      intro u18 e18
      refine HL.stillG rfl rfl e17 (Runs.load Tryd.underlying9 rfl e18 ((cellH_of (hh2 ▸ w1.new) 7).trans rfl)) ?_
      intro u19 e19
      refine HL.oneG rfl rfl e17 (HO.call Tryd.func42 bd42 nm42 (args1 e19) rfl ((has0_ch h2 x.link hk).mono ?_))
      rintro _ h3 ⟨rfl, hh3⟩
      intro u20 e20
      refine HL.still (Runs.pick e17 e20) ?_
      intro u21 e21
      refine HL.still (Runs.assign e21) ?_
      intro u4 e4
      refine HL.nil ?_
      exact ⟨by rw [hh3, hh2], e4, e1⟩
  clear e1 e2 e3
  rintro f g ⟨hg, f4, f1⟩
  subst hg
  -- region 2
  repeat refine HW.seq ?_
  refine HW.region ?_
  refine HL.still (Runs.fld (o' := 0) Tryd.underlying36 rfl sz9 (by decide) f1 (by rfl)) ?_
  intro u22 e22
  refine HL.still (Runs.load Tryd.underlying9 rfl e22 ((cellH_of w1.new 0).trans (show _ = some (Value.string (strOf x.name)) from rfl))) ?_
  intro u23 e23
  refine HL.still (Runs.lenS rfl Tryd.underlying9 e23) ?_
  intro u24 e24
  refine HL.still (Runs.gtr e24 rfl rfl) ?_
  intro u25 e25
  refine HL.still (Runs.move e25) ?_
  intro u26 e26
  refine HL.anyG rfl rfl e26 (fun hg => Runs.fld (o' := 7) Tryd.underlying36 rfl sz9 (by decide) f1 (by rfl)) ?_
  intro u27 e27
  refine HL.anyG rfl rfl e26 (fun hg => Runs.load Tryd.underlying9 rfl (e27.trans (if_pos hg)) ((cellH_of w1.new 7).trans (show _ = some (Value.string (strOf x.link)) from rfl))) ?_
  intro u28 e28
  refine HL.anyG rfl rfl e26 (fun hg => Runs.lenS rfl Tryd.underlying9 (e28.trans (if_pos hg))) ?_
  intro u29 e29
  refine HL.anyG rfl rfl e26 (fun hg => Runs.gtr (e29.trans (if_pos hg)) rfl rfl) ?_
  intro u30 e30
  refine HL.still (Runs.pick e26 (or_pick e30)) ?_
  intro u31 e31
  refine HL.still (Runs.move e31) ?_
  intro u32 e32
  refine HL.anyG rfl rfl e32 (fun hg => Runs.move f4) ?_
  intro u33 e33
  refine HL.still (Runs.pick e32 (or_pick e33)) ?_
  intro u34 e34
  refine HL.nil ?_
  have hmix : ((decide ((x.name.length : Int) > 100) || decide ((x.link.length : Int) > 100)) || (x.name.contains 0 || x.link.contains 0)) = (longO x.name || longO x.link) := by
    rw [long_mix]
    unfold longO
    rw [show decide ((x.name.length : Int) > 100) = decide (x.name.length > 100) from decide_eq_decide.2 (by omega), show decide ((x.link.length : Int) > 100) = decide (x.link.length > 100) from decide_eq_decide.2 (by omega)]
  cases hlo : (longO x.name || longO x.link) with
  | true =>
    repeat refine HW.seq ?_
    refine HW.yes (e34.trans (congrArg Value.bool (hmix.trans hlo))) ?_
    -- region 3
    repeat refine HW.seq ?_
    refine HW.region ?_
    refine HL.still (Runs.assign rfl) ?_
    intro u2 e2
    refine HL.still (Runs.assign rfl) ?_
    intro u3 e3
    refine HL.nil ?_
    refine HW.ret ?_
    have hno : okO x = false := by unfold okO; rw [hlo]; rfl
    rw [printO_no hno]
    exact RT.two rfl e2 e3 ⟨none, 0, rfl, .inl rfl, Nat.le_refl _, X1⟩
  | false =>
  repeat refine HW.seq ?_
  refine HW.no (e34.trans (congrArg Value.bool (hmix.trans hlo))) ?_
  refine HW.skip ?_
  have hl12 := Bool.or_eq_false_iff.1 hlo
  have ln := (longO_no hl12.1).1
  have ll := (longO_no hl12.2).1
  have hm := magic_len
  have hzl := zeros_len
  -- region 4
  repeat refine HW.seq ?_
  refine HW.region ?_
  refine HL.one (HO.makeB Tryd.underlying22 in5 rfl rfl (n := 512) (by decide) ?_)
  intro h2 w2
  intro u35 e35
  refine HL.still (Runs.assign e35) ?_
  intro u5 e5
  refine HL.nil ?_
  have z2 := w2.size
  rw [zeros_eq] at w2
  have hA2 := w2.keep w1.new
  have X2 : Ext h h2 := X1.nw w2 (Nat.le_refl _)
  -- region 5
  repeat refine HW.seq ?_
  refine HW.region ?_
  refine HL.still (Runs.move e5) ?_
  intro u36 e36
  refine HL.still (Runs.fld (o' := 0) Tryd.underlying36 rfl sz9 (by decide) f1 (by rfl)) ?_
  intro u37 e37
  refine HL.still (Runs.load Tryd.underlying9 rfl e37 ((cellH_of hA2 0).trans (show _ = some (Value.string (strOf x.name)) from rfl))) ?_
  intro u38 e38
  refine HL.one (HO.ofStrB Tryd.underlying9 Tryd.underlying22 Tryd.underlying5 e38 fun cp3 h3 z3 X3 b3 k3 => ?_)
  intro u39 e39
  refine HL.one (HO.call Tryd.func43 bd43 nm43 (args3 e36 rfl e39) rfl ((lay_ch' h3 zeros x.name _ _ _ _ _ _ 0 _ hzl.symm ((byt_block w2.new).ext X3) (by rw [hzl]; exact Nat.le_refl _) b3 rfl rfl (by omega) hzl).mono ?_))
  rintro _ h4 ⟨a4, c4, rfl, b4, l4, k4, E4⟩
  intro u40 e40
  refine HL.still (Runs.assign e40) ?_
  intro u5 e5
  refine HL.nil ?_
  have X24 : Ext h2 h4 := X3.ext E4 (Nat.le_refl _)
  have hA4 := X24.keepE hA2
  have X4 : Ext h h4 := X2.ext X24 (Nat.le_refl _)
  -- region 6
  repeat refine HW.seq ?_
  refine HW.region ?_
  refine HL.still (Runs.build7 100 108 116 124 136 329 337 rfl rfl rfl rfl rfl rfl rfl) ?_
  intro u41 e41
  refine HL.one (HO.alloc zr52 ?_)
  intro h5 w5
  intro u6 e6
  refine HL.zero (HO.storeAll sz52 e6 e41 one_C.1 w5.new rfl rfl ?_)
  intro h6 w6
  refine HL.nil ?_
  have z5 := w5.size
  have z6 := w6.size
  have X6 : Ext h4 h6 := w5.ext.wr w6 (Nat.le_refl _)
  -- region 7
  repeat refine HW.seq ?_
  refine HW.region ?_
  refine HL.still (Runs.build7 8 8 8 12 12 8 8 rfl rfl rfl rfl rfl rfl rfl) ?_
  intro u42 e42
  refine HL.one (HO.alloc zr52 ?_)
  intro h7 w7
  intro u7 e7
  refine HL.zero (HO.storeAll sz52 e7 e42 one_C.2 w7.new rfl rfl ?_)
  intro h8 w8
  refine HL.nil ?_
  have z7 := w7.size
  have z8 := w8.size
  have X8 : Ext h6 h8 := w7.ext.wr w8 (Nat.le_refl _)
  have hA8 := X8.keepE (X6.keepE hA4)
  -- region 8
  repeat refine HW.seq ?_
  refine HW.region ?_
  refine HL.still (Runs.fld (o' := 1) Tryd.underlying36 rfl sz3 (by decide) f1 (by rfl)) ?_
  intro u43 e43
  refine HL.still (Runs.load Tryd.underlying3 rfl e43 ((cellH_of hA8 1).trans rfl)) ?_
  intro u44 e44
  refine HL.still (Runs.fld (o' := 2) Tryd.underlying36 rfl sz3 (by decide) f1 (by rfl)) ?_
  intro u45 e45
  refine HL.still (Runs.load Tryd.underlying3 rfl e45 ((cellH_of hA8 2).trans rfl)) ?_
  intro u46 e46
  refine HL.still (Runs.fld (o' := 3) Tryd.underlying36 rfl sz3 (by decide) f1 (by rfl)) ?_
  intro u47 e47
  refine HL.still (Runs.load Tryd.underlying3 rfl e47 ((cellH_of hA8 3).trans rfl)) ?_
  intro u48 e48
  refine HL.still (Runs.fld (o' := 4) Tryd.underlying36 rfl sz3 (by decide) f1 (by rfl)) ?_
  intro u49 e49
  refine HL.still (Runs.load Tryd.underlying3 rfl e49 ((cellH_of hA8 4).trans rfl)) ?_
  intro u50 e50
  refine HL.still (Runs.fld (o' := 5) Tryd.underlying36 rfl sz3 (by decide) f1 (by rfl)) ?_
  intro u51 e51
  refine HL.still (Runs.load Tryd.underlying3 rfl e51 ((cellH_of hA8 5).trans rfl)) ?_
  intro u52 e52
  refine HL.still (Runs.fld (o' := 8) Tryd.underlying36 rfl sz3 (by decide) f1 (by rfl)) ?_
  intro u53 e53
  refine HL.still (Runs.load Tryd.underlying3 rfl e53 ((cellH_of hA8 8).trans rfl)) ?_
  intro u54 e54
  refine HL.still (Runs.fld (o' := 9) Tryd.underlying36 rfl sz3 (by decide) f1 (by rfl)) ?_
  intro u55 e55
  refine HL.still (Runs.load Tryd.underlying3 rfl e55 ((cellH_of hA8 9).trans rfl)) ?_
  intro u56 e56
  refine HL.still (Runs.build7 x.mode x.uid x.gid x.size x.mtime x.major x.minor e44 e46 e48 e50 e52 e54 e56) ?_
  intro u57 e57
  refine HL.one (HO.alloc zr52 ?_)
  intro h9 w9
  intro u8 e8
  refine HL.zero (HO.storeAll sz52 e8 e57 (one_ints x.nums) w9.new rfl rfl ?_)
  intro h10 w10
  refine HL.nil ?_
  have z9 := w9.size
  have z10 := w10.size
  have X10 : Ext h8 h10 := w9.ext.wr w10 (Nat.le_refl _)
  have X4' : Ext h4 h10 := (X6.ext X8 (Nat.le_refl _)).ext X10 (Nat.le_refl _)
  have hb6 : h10[h4.size]? = some (.cells fAtC.toArray 52 (0, 0)) := X10.keepE (X8.keepE w6.new)
  have hb7 : h10[h6.size]? = some (.cells fSzC.toArray 52 (0, 0)) := X10.keepE w8.new
  have hb8 : h10[h8.size]? = some (.cells (x.nums.map I64).toArray 52 (0, 0)) := w10.new
  obtain ⟨R1, hR1⟩ : ∃ R, R = over zeros 0 x.name := ⟨_, rfl⟩
  rw [← hR1] at b4 l4
  -- region 9
  repeat refine HW.seq ?_
  refine HW.region ?_
  refine HL.still (Runs.assign rfl) ?_
  intro u9 e9
  refine HL.nil ?_
  repeat refine HW.seq ?_
  refine HW.block ?_
  refine HW.loop (fun m f u => ∃ k : Nat, k ≤ 7 ∧ m = 7 - k ∧ f 9 = I64 k ∧ f 1 = .pointer (some ⟨h.size, 0, none⟩) ∧ f 6 = .pointer (some ⟨h4.size, 0, none⟩) ∧ f 7 = .pointer (some ⟨h6.size, 0, none⟩) ∧ f 8 = .pointer (some ⟨h8.size, 0, none⟩) ∧ wrsOk x k = true ∧ Ext h10 u ∧ ∃ a' c', f 5 = .slice a' 512 c' ∧ Byt u a' (numOver x R1 k) ∧ 512 ≤ c') 7
    ⟨0, Nat.zero_le _, rfl, e9, f1, e6, e7, e8, rfl, Bel.refl _ _, a4, c4, e5, b4.ext X4', k4⟩ ?_
  clear e5 e6 e7 e8 e9 b4 f1 f4
  rintro m f u ⟨k, hk', hm', f9, f1, f6, f7, f8, hok, hX, a', c', f5, hB, hc'⟩
  have hA := hX.keepE (X10.keepE hA8)
  have hb6 := hX.keepE hb6
  have hb7 := hX.keepE hb7
  have hb8 := hX.keepE hb8
  have hXh : Ext h u := (X4.ext X4' (Nat.le_refl _)).ext hX (Nat.le_refl _)
  have hnl := numOver_len hok hk' l4
  by_cases hlt : k < 7
  · have hat := at_sz k hlt
    -- region 10
    repeat refine HW.seq ?_
    refine HW.region ?_
    refine HL.still (Runs.move f9) ?_
    intro u58 e58
    refine HL.still (Runs.lss e58 rfl rfl) ?_
    intro u59 e59
    refine HL.nil ?_
    repeat refine HW.seq ?_
    refine HW.yes ?_ ?_
    exact e59.trans (congrArg Value.bool (decide_eq_true (by omega)))
    refine HW.skip ?_
    repeat refine HW.seq ?_
    refine HW.block ?_
    -- region 12
    repeat refine HW.seq ?_
    refine HW.grow #[0, 1, 3, 0, 8, 24, 63, 127, 255, 255, 511, 2047] (Mk u.size) mixed (by kernel_rfl) (Mk.refl _) Mk.trans ?_
    refine HM.still (Mk.refl _) (fun f h K => Runs.move ((K.keep (by kernel_rfl)).trans f9)) ?_
    refine HM.still (Mk.refl _) (fun f h K => Runs.ixArr (o' := k) Tryd.underlying52 sz3 ((K.keep (by kernel_rfl)).trans f8) (K.at 0 63 rfl rfl) (by omega) (by omega) (by omega)) ?_
    refine HM.still (Mk.refl _) (fun f h K => Runs.load Tryd.underlying3 rfl (K.at 1 64 rfl rfl) (K.grown.cell (cell_list hb8 (nums_cell x hlt)))) ?_
    refine HM.still (Mk.refl _) (fun f h K => Runs.move ((K.keep (by kernel_rfl)).trans f9)) ?_
    refine HM.still (Mk.refl _) (fun f h K => Runs.ixArr (o' := k) Tryd.underlying52 sz3 ((K.keep (by kernel_rfl)).trans f7) (K.at 3 66 rfl rfl) (by omega) (by omega) (by omega)) ?_
    refine HM.still (Mk.refl _) (fun f h K => Runs.load Tryd.underlying3 rfl (K.at 4 67 rfl rfl) (K.grown.cell (cell_list hb7 (fSzC_at k hlt)))) ?_
    refine HM.one (Wv x k) Wv.mk (fun f hh K => HO.call Tryd.func17 bd17 nm17 (args2 (K.at 2 65 rfl rfl) (K.at 5 68 rfl rfl)) rfl ((rwrite_ch hh _ _).mono fun _ _ ⟨a, c, q1, q2, q3, q4⟩ => ⟨Mk.of_ext q4 K.grown.size, a, c, q1, q2⟩)) ?_
    refine HM.one (Wv x k) Wv.mk (fun f hh K => HO.moveK ⟨Mk.refl _ _, K.at 6 69 rfl rfl⟩) ?_
    refine HM.one (Ws x k) Ws.mk (fun f hh K => by obtain ⟨a, c, q1, q2⟩ := K.at 7 62 rfl rfl; exact HO.extrK q1 rfl ⟨Mk.refl _ _, a, c, rfl, q2⟩) ?_
    refine HM.one (fun v _ => v = .bool (wrOk x k)) (fun _ _ _ _ e => e) (fun f hh K => by obtain ⟨a, c, q1, q2⟩ := K.at 7 62 rfl rfl; exact HO.extrK q1 rfl ⟨Mk.refl _ _, rfl⟩) ?_
    refine HM.one (Ws x k) Ws.mk (fun f hh K => HO.assignK ⟨Mk.refl _ _, K.at 8 70 rfl rfl⟩) ?_
    refine HM.one (fun v _ => v = .bool (wrOk x k)) (fun _ _ _ _ e => e) (fun f hh K => HO.assignK ⟨Mk.refl _ _, K.at 9 71 rfl rfl⟩) ?_
    intro f' u' hR V O
    have hE : Ext u u' := hR.ext rfl
    obtain ⟨aw, cw, g10, bw⟩ := last_at V 10 10 rfl
    have g11 : f' 11 = .bool (wrOk x k) := last_at V 11 11 rfl
    have f1 : f' 1 = _ := (last_keep O (by kernel_rfl)).trans f1
    have f5 : f' 5 = _ := (last_keep O (by kernel_rfl)).trans f5
    have f6 : f' 6 = _ := (last_keep O (by kernel_rfl)).trans f6
    have f7 : f' 7 = _ := (last_keep O (by kernel_rfl)).trans f7
    have f8 : f' 8 = _ := (last_keep O (by kernel_rfl)).trans f8
    have f9 : f' 9 = _ := (last_keep O (by kernel_rfl)).trans ((upd_ne _ _ _ _ (by decide)).trans ((upd_ne _ _ _ _ (by decide)).trans f9))
    have hX' := hX.ext hE (Nat.le_refl _)
    cases hw : wrOk x k with
    | false =>
      rw [hw] at g11
      -- region 13
      repeat refine HW.seq ?_
      refine HW.region ?_
      refine HL.still (Runs.move g11) ?_
      intro u72 e72
      refine HL.still (Runs.notb e72 (u := true) rfl) ?_
      intro u73 e73
      refine HL.nil ?_
      repeat refine HW.seq ?_
      refine HW.yes ?_ ?_
      exact e73
      -- region 14
      repeat refine HW.seq ?_
      refine HW.region ?_
      refine HL.still (Runs.assign rfl) ?_
      intro u2 e2
      refine HL.still (Runs.assign rfl) ?_
      intro u3 e3
      refine HL.nil ?_
      refine HW.ret ?_
      have hno : okO x = false := by
        unfold okO
        rw [wrsOk_no (k := k + 1) (n := 7) (by rw [wrsOk, hw, Bool.and_false]) (by omega), Bool.and_false]
      rw [printO_no hno]
      exact RT.two rfl e2 e3 ⟨none, 0, rfl, .inl rfl, Nat.le_refl _, hXh.ext hE (Nat.le_refl _)⟩
    | true =>
      rw [hw] at g11
      have hwl := wr_len x k hw
      -- region 13
      repeat refine HW.seq ?_
      refine HW.region ?_
      refine HL.still (Runs.move g11) ?_
      intro u72 e72
      refine HL.still (Runs.notb e72 (u := false) rfl) ?_
      intro u73 e73
      refine HL.nil ?_
      repeat refine HW.seq ?_
      refine HW.no ?_ ?_
      exact e73
      refine HW.skip ?_
      -- region 15
      repeat refine HW.seq ?_
      refine HW.region ?_
      refine HL.still (Runs.move f5) ?_
      intro u74 e74
      refine HL.still (Runs.move f9) ?_
      intro u75 e75
      refine HL.still (Runs.ixArr (o' := k) Tryd.underlying52 sz3 f6 e75 (by omega) (by omega) (by omega)) ?_
      intro u76 e76
      refine HL.still (Runs.load Tryd.underlying3 rfl e76 (cell_list (hE.keepE hb6) (fAtC_at k hlt))) ?_
      intro u77 e77
      refine HL.still (Runs.move g10) ?_
      intro u78 e78
      refine HL.one (HO.call Tryd.func43 bd43 nm43 (args3 e74 e77 e78) rfl ((lay_ch' u' (numOver x R1 k) (wr x k) _ _ _ _ _ _ (fAt.getD k 0) _ hnl.symm (hB.ext hE) (by omega) bw rfl rfl (by omega) hnl).mono ?_))
      rintro _ h12 ⟨a12, c12, rfl, b12, l12, k12, E12⟩
      intro u79 e79
      refine HL.still (Runs.assign e79) ?_
      intro u5 e5
      refine HL.nil ?_
      -- region 11
      repeat refine HW.seq ?_
      refine HW.region ?_
      refine HL.still (Runs.move f9) ?_
      intro u60 e60
      refine HL.still (Runs.add e60 rfl (i64w (by omega))) ?_
      intro u61 e61
      refine HL.still (Runs.assign e61) ?_
      intro u9 e9
      refine HL.nil ?_
      exact ⟨7 - (k + 1), by omega, k + 1, by omega, rfl, e9, f1, f6, f7, f8, by rw [wrsOk, hok, hw]; rfl, hX'.ext E12 (Nat.le_refl _), a12, c12, e5, b12, k12⟩
  have hk7 : k = 7 := by omega
  subst hk7
  have hyes : okO x = true := by unfold okO; rw [hlo, hok]; rfl
  have hOk := okO_spec hyes
  -- region 10
  repeat refine HW.seq ?_
  refine HW.region ?_
  refine HL.still (Runs.move f9) ?_
  intro u58 e58
  refine HL.still (Runs.lss e58 rfl rfl) ?_
  intro u59 e59
  refine HL.nil ?_
  repeat refine HW.seq ?_
  refine HW.no ?_ ?_
  exact e59.trans (congrArg Value.bool (decide_eq_false (by omega)))
  refine HW.exitHere ?_
  have o1 := one_len x.typ
  -- region 16
  repeat refine HW.seq ?_
  refine HW.region ?_
  refine HL.still (Runs.move f5) ?_
  intro u80 e80
  refine HL.still (Runs.fld (o' := 6) Tryd.underlying36 rfl sz5 (by decide) f1 (by rfl)) ?_
  intro u81 e81
  refine HL.still (Runs.load Tryd.underlying5 rfl e81 ((cellH_of hA 6).trans (show _ = some (B8 x.typ) from rfl))) ?_
  intro u82 e82
  refine HL.one (HO.bytes1 x.typ e82 ?_)
  intro h11 w11
  intro u83 e83
  refine HL.one (HO.call Tryd.func43 bd43 nm43 (args3 e80 rfl e83) rfl ((lay_ch' h11 (numOver x R1 7) [x.typ] _ _ _ _ _ _ 156 _ hnl.symm (hB.ext w11.ext) (by omega) (byt_block w11.new) rfl rfl (by rw [o1]; omega) hnl).mono ?_))
  rintro _ h12 ⟨a12, c12, rfl, b12, l12, k12, E12⟩
  intro u84 e84
  refine HL.still (Runs.assign e84) ?_
  intro u5 e5
  refine HL.nil ?_
  have X12 : Ext u h12 := w11.ext.ext E12 (Nat.le_refl _)
  have hA12 := X12.keepE hA
  -- region 17
  repeat refine HW.seq ?_
  refine HW.region ?_
  refine HL.still (Runs.move e5) ?_
  intro u85 e85
  refine HL.still (Runs.fld (o' := 7) Tryd.underlying36 rfl sz9 (by decide) f1 (by rfl)) ?_
  intro u86 e86
  refine HL.still (Runs.load Tryd.underlying9 rfl e86 ((cellH_of hA12 7).trans (show _ = some (Value.string (strOf x.link)) from rfl))) ?_
  intro u87 e87
  refine HL.one (HO.ofStrB Tryd.underlying9 Tryd.underlying22 Tryd.underlying5 e87 fun cp13 h13 z13 X13 b13 k13 => ?_)
  intro u88 e88
  refine HL.one (HO.call Tryd.func43 bd43 nm43 (args3 e85 rfl e88) rfl ((lay_ch' h13 _ x.link _ _ _ _ _ _ 157 _ l12.symm (b12.ext X13) (by omega) b13 rfl rfl (by omega) l12).mono ?_))
  rintro _ h14 ⟨a14, c14, rfl, b14, l14, k14, E14⟩
  intro u89 e89
  refine HL.still (Runs.assign e89) ?_
  intro u5 e5
  refine HL.nil ?_
  have X14 : Ext h12 h14 := X13.ext E14 (Nat.le_refl _)
  -- region 18
  repeat refine HW.seq ?_
  refine HW.region ?_
  refine HL.still (Runs.move e5) ?_
  intro u90 e90
  refine HL.one (HO.buildSlice (e := 5) (cells := magic.map B8) (fun w => by kernel_rfl) fun h15 w15 => ?_)
  intro u91 e91
  refine HL.one (HO.mark Tryd.underlying22 Tryd.underlying5 e91 w15.new ?_)
  intro h16 fr16 w16 q16
  intro u92 e92
  refine HL.one (HO.call Tryd.func43 bd43 nm43 (args3 e90 rfl e92) rfl ((lay_ch' h16 _ magic _ _ _ _ _ _ 257 _ l14.symm (b14.ext (w15.ext.wr w16 (Nat.le_refl _))) (by omega) (byt_block w16.new) rfl rfl (by omega) l14).mono ?_))
  rintro _ h17 ⟨a17, c17, rfl, b17, l17, k17, E17⟩
  intro u93 e93
  refine HL.still (Runs.assign e93) ?_
  intro u5 e5
  refine HL.nil ?_
  have X17 : Ext h14 h17 := (w15.ext.wr w16 (Nat.le_refl _)).ext E17 (Nat.le_refl _)
  obtain ⟨R5, hR5⟩ : ∃ R, R = refBody x := ⟨_, rfl⟩
  have hR5' : over (over (over (numOver x R1 7) 156 [x.typ]) 157 x.link) 257 magic = R5 := by rw [hR5, hR1]; rfl
  rw [hR5'] at b17 l17
  have s7 := sum7_len R5 l17
  -- region 19
  repeat refine HW.seq ?_
  refine HW.region ?_
  refine HL.still (Runs.move e5) ?_
  intro u95 e95
  refine HL.one (HO.call Tryd.func19 bd19 nm19 (args1 e95) rfl ((rcheck_n h17 R5 _ _ _ l17.symm b17 (by omega)).mono ?_))
  rintro _ h18 ⟨rfl, hh18⟩
  intro u96 e96
  refine HL.one (HO.call Tryd.func17 bd17 nm17 (args2 e96 rfl) rfl ((rwrite_ch h18 (checkO R5) 7).mono ?_))
  rintro _ h19 ⟨aw, cw, rfl, bw, kw, E19⟩
  intro u97 e97
  refine HL.still (Runs.move e97) ?_
  intro u94 e94
  refine HL.still (Runs.extr e94 rfl) ?_
  intro u98 e98
  refine HL.still (Runs.extr e94 rfl) ?_
  intro u99 e99
  refine HL.still (Runs.assign e98) ?_
  intro u12 e12
  refine HL.still (Runs.assign e99) ?_
  intro u13 e13
  refine HL.nil ?_
  rw [hh18] at E19
  have g12 : u12 = .slice aw (sum7 R5).length cw := e12
  have bw' : Byt h19 aw (sum7 R5) := bw
  -- region 20
  repeat refine HW.seq ?_
  refine HW.region ?_
  refine HL.still (Runs.move e5) ?_
  intro u100 e100
  refine HL.still (Runs.move g12) ?_
  intro u101 e101
  refine HL.one (HO.call Tryd.func43 bd43 nm43 (args3 e100 rfl e101) rfl ((lay_ch' h19 R5 (sum7 R5) _ _ _ _ _ _ 148 _ l17.symm (b17.ext E19) (by omega) bw' rfl rfl (by omega) l17).mono ?_))
  rintro _ h20 ⟨a20, c20, rfl, b20, l20, k20, E20⟩
  intro u102 e102
  refine HL.still (Runs.assign e102) ?_
  intro u5 e5
  refine HL.nil ?_
  have o2 := one_len 32
  -- region 21
  repeat refine HW.seq ?_
  refine HW.region ?_
  refine HL.still (Runs.move e5) ?_
  intro u103 e103
  refine HL.one (HO.bytes1 32 rfl ?_)
  intro h21 w21
  intro u104 e104
  refine HL.one (HO.call Tryd.func43 bd43 nm43 (args3 e103 rfl e104) rfl ((lay_ch' h21 _ [32] _ _ _ _ _ _ 155 _ l20.symm (b20.ext w21.ext) (by omega) (byt_block w21.new) rfl rfl (by rw [o2]; omega) l20).mono ?_))
  rintro _ h22 ⟨a22, c22, rfl, b22, l22, k22, E22⟩
  intro u105 e105
  refine HL.still (Runs.assign e105) ?_
  intro u2 e2
  refine HL.still (Runs.assign rfl) ?_
  intro u3 e3
  refine HL.nil ?_
  have hblk : over (over R5 148 (sum7 R5)) 155 [32] = blk x := by
    rw [over_two _ _ _ _ _ (by rw [o2]; omega) (by omega), hR5, blk, body_ref hOk]
  rw [hblk] at b22 l22
  refine HW.ret ?_
  rw [printO_yes hyes]
  refine RT.two rfl e2 e3 ⟨a22, c22, ?_, b22, by show (blk x).length ≤ c22; omega, ?_⟩
  · show _ = Value.tuple #[.slice a22 (blk x).length c22, .bool true]
    rw [l22]
  · exact ((((((hXh.ext X12 (Nat.le_refl _)).ext X14 (Nat.le_refl _)).ext X17 (Nat.le_refl _)).ext E19 (Nat.le_refl _)).ext E20 (Nat.le_refl _)).nw w21 (Nat.le_refl _)).ext E22 (Nat.le_refl _)
end Go.Proofs.YtfogkggkjmkdiaaDoor
