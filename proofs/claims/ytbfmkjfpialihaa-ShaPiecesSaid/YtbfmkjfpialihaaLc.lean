/- onionskinlaw01.ShaNothing returns true. -/
import Derived.Test.YtbfmkjfpialihaaWh
namespace Go.Proofs.Ytbfmkjfpialihaa
set_option linter.unnecessarySimpa false
set_option linter.unusedSimpArgs false
set_option linter.unusedVariables false
open Go.RowKit
theorem HashAt.exb {h h' : Heap} {b nb : Nat} {P : List UInt8} (x : HashAt h b P) (k : ExB nb h h') (hne : b ≠ nb) : HashAt h' b P := x.keep (k.old b x.lt hne)
theorem HashAt.ext {h h' : Heap} {b : Nat} {P : List UInt8} (x : HashAt h b P) (k : Ext h h') : HashAt h' b P := x.keep (k.old b x.lt)
theorem HashAt.mk {M : Nat} {h h' : Heap} {b : Nat} {P : List UInt8} (x : HashAt h b P) (k : Mk M h h') (hb : b < M) : HashAt h' b P := x.keep (k.old b hb)
theorem Src.of_nil {h : Heap} {nb : Nat} {a : Option Addr} : Src h nb a [] := .inl rfl
theorem lawNothing_ch (h : Heap) (xs : List UInt8) (a : Option Addr) (cap : Nat) (hsrc : Byt h a xs) (hcap : xs.length ≤ cap) :
    CH Try.prog 7 #[.slice a xs.length cap] h fun v h' => v = .bool true ∧ Ext h h' := by
  refine CH.of_body Try.func7 rfl rfl rfl ?_
  intro f hf
  have p0 : f 0 = .slice a xs.length cap := by rw [hf]; exact fr0_at rfl
  -- region 0
  repeat refine HW.seq ?_
  refine HW.region ?_
  refine HL.still (Runs.assign rfl) ?_
  intro u2 e2
  refine HL.nil ?_
  -- region 1
  repeat refine HW.seq ?_
  refine HW.region ?_
  refine HL.one (HO.call Try.func13 bd13 nm13 (args0) rfl ((small_ch _).mono ?_))
  rintro _ h1 ⟨rfl, E1⟩
  intro u7 e7
  refine HL.still (Runs.assign e7) ?_
  intro u3 e3
  refine HL.nil ?_
  -- region 2
  repeat refine HW.seq ?_
  refine HW.region ?_
  refine HL.one (HO.call Try.func16 bd16 nm16 (args0) rfl ((new_ch _).mono ?_))
  rintro _ h2 ⟨rfl, hX2, E2⟩
  intro u8 e8
  refine HL.still (Runs.assign e8) ?_
  intro u4 e4
  refine HL.nil ?_
  -- region 3
  repeat refine HW.seq ?_
  refine HW.region ?_
  refine HL.one (HO.call Try.func16 bd16 nm16 (args0) rfl ((new_ch _).mono ?_))
  rintro _ h3 ⟨rfl, hY3, E3⟩
  intro u9 e9
  refine HL.still (Runs.assign e9) ?_
  intro u5 e5
  refine HL.nil ?_
  have z1 := E1.size
  have z2 := E2.size
  have z3 := E3.size
  have l2 := hX2.lt
  have l3 := hY3.lt
  by_cases hbig : xs.length > 1000
  · skip
    -- region 4
    repeat refine HW.seq ?_
    refine HW.region ?_
    refine HL.still (Runs.move e4) ?_
    intro u10 e10
    refine HL.still (Runs.eqNil Try.underlying29 e10 rfl) ?_
    intro u11 e11
    refine HL.still (Runs.move e11) ?_
    intro u12 e12
    refine HL.stillG rfl rfl e12 (Runs.move e5) ?_
    intro u13 e13
    refine HL.stillG rfl rfl e12 (Runs.eqNil Try.underlying29 e13 rfl) ?_
    intro u14 e14
    refine HL.still (Runs.pick e12 e14) ?_
    intro u15 e15
    refine HL.still (Runs.move e15) ?_
    intro u16 e16
    refine HL.stillG rfl rfl e16 (Runs.move p0) ?_
    intro u17 e17
    refine HL.stillG rfl rfl e16 (Runs.lenSl rfl Try.underlying22 e17) ?_
    intro u18 e18
    refine HL.stillG rfl rfl e16 (Runs.gtr e18 rfl (t := true) (decide_eq_true (by omega))) ?_
    intro u19 e19
    refine HL.still (Runs.pick e16 e19) ?_
    intro u20 e20
    refine HL.nil ?_
    repeat refine HW.seq ?_
    refine HW.yes ?_ ?_
    exact e20
    -- region 5
    repeat refine HW.seq ?_
    refine HW.region ?_
    refine HL.still (Runs.move e3) ?_
    intro u21 e21
    refine HL.still (Runs.move e21) ?_
    intro u22 e22
    refine HL.stillG rfl rfl e22 (Runs.move e4) ?_
    intro u23 e23
    refine HL.stillG rfl rfl e22 (Runs.neqNil Try.underlying29 e23 rfl) ?_
    intro u24 e24
    refine HL.still (Runs.pick e22 e24) ?_
    intro u25 e25
    refine HL.still (Runs.move e25) ?_
    intro u26 e26
    refine HL.stillG rfl rfl e26 (Runs.move e5) ?_
    intro u27 e27
    refine HL.stillG rfl rfl e26 (Runs.neqNil Try.underlying29 e27 rfl) ?_
    intro u28 e28
    refine HL.still (Runs.pick e26 e28) ?_
    intro u29 e29
    refine HL.still (Runs.assign e29) ?_
    intro u2 e2
    refine HL.nil ?_
    refine HW.ret ?_
    exact RT.one rfl e2 ⟨rfl, (E1.ext E2 (Nat.le_refl _)).ext E3 (Nat.le_refl _)⟩
  · skip
    -- region 4
    repeat refine HW.seq ?_
    refine HW.region ?_
    refine HL.still (Runs.move e4) ?_
    intro u10 e10
    refine HL.still (Runs.eqNil Try.underlying29 e10 rfl) ?_
    intro u11 e11
    refine HL.still (Runs.move e11) ?_
    intro u12 e12
    refine HL.stillG rfl rfl e12 (Runs.move e5) ?_
    intro u13 e13
    refine HL.stillG rfl rfl e12 (Runs.eqNil Try.underlying29 e13 rfl) ?_
    intro u14 e14
    refine HL.still (Runs.pick e12 e14) ?_
    intro u15 e15
    refine HL.still (Runs.move e15) ?_
    intro u16 e16
    refine HL.stillG rfl rfl e16 (Runs.move p0) ?_
    intro u17 e17
    refine HL.stillG rfl rfl e16 (Runs.lenSl rfl Try.underlying22 e17) ?_
    intro u18 e18
    refine HL.stillG rfl rfl e16 (Runs.gtr e18 rfl (t := false) (decide_eq_false (by omega))) ?_
    intro u19 e19
    refine HL.still (Runs.pick e16 e19) ?_
    intro u20 e20
    refine HL.nil ?_
    repeat refine HW.seq ?_
    refine HW.no ?_ ?_
    exact e20
    refine HW.skip ?_
    have X3 : Ext h h3 := (E1.ext E2 (Nat.le_refl _)).ext E3 (Nat.le_refl _)
    have hX3 := hX2.ext E3
    -- region 6
    repeat refine HW.seq ?_
    refine HW.region ?_
    refine HL.still (Runs.move e4) ?_
    intro u30 e30
    refine HL.still (Runs.move p0) ?_
    intro u31 e31
    refine HL.one (HO.call Try.func17 bd17 nm17 (args2 e30 e31) rfl ((write_ch _ h1.size [] xs a cap hX3 (hsrc.src X3 (by omega)) hcap (by simp; omega)).mono ?_))
    rintro _ h4 ⟨rfl, hX4, E4⟩
    intro u32 e32
    refine HL.nil ?_
    rw [List.nil_append] at hX4
    have hY4 := hY3.exb E4 (by omega)
    have z4 := E4.size
    -- region 7
    repeat refine HW.seq ?_
    refine HW.region ?_
    refine HL.still (Runs.move e4) ?_
    intro u33 e33
    refine HL.one (HO.call Try.func18 bd18 nm18 (args1 e33) rfl ((hsum_ch _ h1.size xs hX4 (by omega)).mono ?_))
    rintro _ h5 ⟨rfl, E5⟩
    intro u34 e34
    refine HL.one (HO.alloc zr25 ?_)
    intro h6 w6
    intro u6 e6
    refine HL.zero (HO.storeAll sz25 e6 e34 (one_map B8 (fun _ => rfl) _) w6.new (by rw [List.length_map, SHA_len]) rfl ?_)
    intro h7 w7
    refine HL.nil ?_
    have z5 := E5.size
    have z6 := w6.size
    have z7 := w7.size
    have hX7 : HashAt h7 h1.size xs := ((hX4.ext E5).ext w6.ext).keep (w7.old _ (by omega))
    have hY7 : HashAt h7 h2.size [] := ((hY4.ext E5).ext w6.ext).keep (w7.old _ (by omega))
    have hD7 := w7.new
    have B4 : Bel h.size h h4 := bel_of_exb X3 E4 (Nat.le_refl _) (by omega)
    have B7 : Bel h.size h h7 := ((B4.ext E5 (Nat.le_refl _)).nw w6 (Nat.le_refl _)).wr w7 (by omega)
    -- region 8
    repeat refine HW.seq ?_
    refine HW.region ?_
    refine HL.still (Runs.move e4) ?_
    intro u35 e35
    refine HL.one (HO.call Try.func17 bd17 nm17 (args2 e35 rfl) rfl ((write_ch _ h1.size xs [] none 0 hX7 .of_nil (Nat.le_refl _) (by simp; omega)).mono ?_))
    rintro _ h8 ⟨rfl, hX8, E8⟩
    intro u36 e36
    refine HL.nil ?_
    rw [List.append_nil] at hX8
    have hY8 := hY7.exb E8 (by omega)
    have hD8 := E8.keep hD7 (by omega)
    have z8 := E8.size
    have B8' : Bel h.size h h8 := bel_of_exb B7 E8 (Nat.le_refl _) (by omega)
    -- region 9
    repeat refine HW.seq ?_
    refine HW.region ?_
    refine HL.still (Runs.move e4) ?_
    intro u37 e37
    refine HL.one (HO.bytes0 ?_)
    intro h9 w9
    intro u38 e38
    refine HL.one (HO.call Try.func17 bd17 nm17 (args2 e37 e38) rfl ((write_ch _ h1.size xs [] (some ⟨h8.size, 0, none⟩) 0 (hX8.ext w9.ext) .of_nil (Nat.le_refl _) (by simp; omega)).mono ?_))
    rintro _ h10 ⟨rfl, hX10, E10⟩
    intro u39 e39
    refine HL.nil ?_
    rw [List.append_nil] at hX10
    have z9 := w9.size
    have hY10 := (hY8.ext w9.ext).exb E10 (by omega)
    have hD10 := E10.keep (w9.keep hD8) (by omega)
    have z10 := E10.size
    have B10 : Bel h.size h h10 := bel_of_exb (B8'.nw w9 (Nat.le_refl _)) E10 (Nat.le_refl _) (by omega)
    have lX := hX10.lt
    have lY := hY10.lt
    have hS10 : Byt h10 a xs := by
      rcases hsrc with e | ⟨sb, so, q1, q2⟩
      · exact .inl e
      · exact .inr ⟨sb, so, q1, fun j hj => by rw [cellH_keep (B10.old sb (lt_of_cellH (q2 j hj)))]; exact q2 j hj⟩
    -- region 10
    repeat refine HW.seq ?_
    refine HW.grow #[0, 1, 3, 7, 3, 31, 63, 127, 255, 255, 767, 2047, 4095, 8191, 16383, 32767, 16383, 81919, 262143, 524287, 1048575, 2097151, 4194303, 8388607, 16777215, 33554431, 67108863, 134217727, 268435455, 536870911, 1073741823, 2147483647] (Mk h10.size) mixed (by kernel_rfl) (Mk.refl _) Mk.trans ?_
    refine HM.still (Mk.refl _) (fun f h K => Runs.move ((K.keep (by kernel_rfl)).trans e3)) ?_
    refine HM.still (Mk.refl _) (fun f h K => Runs.move (K.at 0 40 rfl rfl)) ?_
    refine HM.stillG (Mk.refl _) rfl rfl rfl (fun f h K => K.at 1 41 rfl rfl) (fun f h K => Runs.move ((K.keep (by kernel_rfl)).trans e4)) ?_
    refine HM.oneG (fun x _ => x = _) (fun _ _ _ _ e => e) rfl rfl rfl (fun f h K => K.at 1 41 rfl rfl) (fun f h K => HO.call Try.func18 bd18 nm18 (args1 (K.at 2 42 rfl rfl)) rfl ((hsum_ch h h1.size xs (hX10.mk K.grown lX) (by omega)).mono fun _ _ q => ⟨Mk.of_ext q.2 K.grown.size, q.1⟩)) ?_
    refine HM.stillG (Mk.refl _) rfl rfl rfl (fun f h K => K.at 1 41 rfl rfl) (fun f h K => Runs.loadAgg Try.underlying25 rfl sz25 ((K.keep (by kernel_rfl)).trans e6) (by rw [List.length_map, SHA_len]) (fun j v hj => K.grown.cell (load_blk hD10 j v hj))) ?_
    refine HM.stillG (Mk.refl _) rfl rfl rfl (fun f h K => K.at 1 41 rfl rfl) (fun f h K => Runs.eqBytes Try.underlying25 Try.underlying5 sz5 eg25 (K.at 3 43 rfl rfl) (K.at 4 44 rfl rfl) (t := true) (SHA_len _) (SHA_len _) (beq_self_eq_true _)) ?_
    refine HM.still (Mk.refl _) (fun f h K => Runs.pick (K.at 1 41 rfl rfl) (K.at 5 45 rfl rfl)) ?_
    refine HM.still (Mk.refl _) (fun f h K => Runs.move (K.at 6 46 rfl rfl)) ?_
    refine HM.stillG (Mk.refl _) rfl rfl rfl (fun f h K => K.at 7 47 rfl rfl) (fun f h K => Runs.loadAgg Try.underlying25 rfl sz25 ((K.keep (by kernel_rfl)).trans e6) (by rw [List.length_map, SHA_len]) (fun j v hj => K.grown.cell (load_blk hD10 j v hj))) ?_
    refine HM.stillG (Mk.refl _) rfl rfl rfl (fun f h K => K.at 7 47 rfl rfl) (fun f h K => Runs.move ((K.keep (by kernel_rfl)).trans p0)) ?_
    refine HM.oneG (fun x _ => x = _) (fun _ _ _ _ e => e) rfl rfl rfl (fun f h K => K.at 7 47 rfl rfl) (fun f h K => HO.call Try.func14 bd14 nm14 (args1 (K.at 9 49 rfl rfl)) rfl ((sum_ch h xs a cap (hS10.mk K.grown) hcap (by omega)).mono fun _ _ q => ⟨Mk.of_ext q.2 K.grown.size, q.1⟩)) ?_
    refine HM.stillG (Mk.refl _) rfl rfl rfl (fun f h K => K.at 7 47 rfl rfl) (fun f h K => Runs.eqBytes Try.underlying25 Try.underlying5 sz5 eg25 (K.at 8 48 rfl rfl) (K.at 10 50 rfl rfl) (t := true) (SHA_len _) (SHA_len _) (beq_self_eq_true _)) ?_
    refine HM.still (Mk.refl _) (fun f h K => Runs.pick (K.at 7 47 rfl rfl) (K.at 11 51 rfl rfl)) ?_
    refine HM.still (Mk.refl _) (fun f h K => Runs.move (K.at 12 52 rfl rfl)) ?_
    refine HM.stillG (Mk.refl _) rfl rfl rfl (fun f h K => K.at 13 53 rfl rfl) (fun f h K => Runs.move ((K.keep (by kernel_rfl)).trans e4)) ?_
    refine HM.oneG (fun x _ => x = _) (fun _ _ _ _ e => e) rfl rfl rfl (fun f h K => K.at 13 53 rfl rfl) (fun f h K => HO.call Try.func19 bd19 nm19 (args1 (K.at 14 54 rfl rfl)) rfl ((len_ext h h1.size xs (hX10.mk K.grown lX)).mono fun _ _ q => ⟨Mk.of_ext q.2 K.grown.size, q.1⟩)) ?_
    refine HM.stillG (Mk.refl _) rfl rfl rfl (fun f h K => K.at 13 53 rfl rfl) (fun f h K => Runs.move ((K.keep (by kernel_rfl)).trans p0)) ?_
    refine HM.stillG (Mk.refl _) rfl rfl rfl (fun f h K => K.at 13 53 rfl rfl) (fun f h K => Runs.lenSl rfl Try.underlying22 (K.at 16 56 rfl rfl)) ?_
    refine HM.stillG (Mk.refl _) rfl rfl rfl (fun f h K => K.at 13 53 rfl rfl) (fun f h K => Runs.eql (K.at 15 55 rfl rfl) (K.at 17 57 rfl rfl) (t := true) (beq_self_eq_true _)) ?_
    refine HM.still (Mk.refl _) (fun f h K => Runs.pick (K.at 13 53 rfl rfl) (K.at 18 58 rfl rfl)) ?_
    refine HM.still (Mk.refl _) (fun f h K => Runs.move (K.at 19 59 rfl rfl)) ?_
    refine HM.stillG (Mk.refl _) rfl rfl rfl (fun f h K => K.at 20 60 rfl rfl) (fun f h K => Runs.move ((K.keep (by kernel_rfl)).trans e5)) ?_
    refine HM.oneG (fun x _ => x = _) (fun _ _ _ _ e => e) rfl rfl rfl (fun f h K => K.at 20 60 rfl rfl) (fun f h K => HO.call Try.func18 bd18 nm18 (args1 (K.at 21 61 rfl rfl)) rfl ((hsum_ch h h2.size [] (hY10.mk K.grown lY) (by decide)).mono fun _ _ q => ⟨Mk.of_ext q.2 K.grown.size, q.1⟩)) ?_
    refine HM.oneG (fun x _ => x = _) (fun _ _ _ _ e => e) rfl rfl rfl (fun f h K => K.at 20 60 rfl rfl) (fun f h K => HO.call Try.func14 bd14 nm14 (args1 rfl) rfl ((sum_ch h [] none 0 (.inl rfl) (Nat.le_refl _) (by decide)).mono fun _ _ q => ⟨Mk.of_ext q.2 K.grown.size, q.1⟩)) ?_
    refine HM.stillG (Mk.refl _) rfl rfl rfl (fun f h K => K.at 20 60 rfl rfl) (fun f h K => Runs.eqBytes Try.underlying25 Try.underlying5 sz5 eg25 (K.at 22 62 rfl rfl) (K.at 23 63 rfl rfl) (t := true) (SHA_len _) (SHA_len _) (beq_self_eq_true _)) ?_
    refine HM.still (Mk.refl _) (fun f h K => Runs.pick (K.at 20 60 rfl rfl) (K.at 24 64 rfl rfl)) ?_
    refine HM.still (Mk.refl _) (fun f h K => Runs.move (K.at 25 65 rfl rfl)) ?_
    refine HM.stillG (Mk.refl _) rfl rfl rfl (fun f h K => K.at 26 66 rfl rfl) (fun f h K => Runs.move ((K.keep (by kernel_rfl)).trans e5)) ?_
    refine HM.oneG (fun x _ => x = _) (fun _ _ _ _ e => e) rfl rfl rfl (fun f h K => K.at 26 66 rfl rfl) (fun f h K => HO.call Try.func19 bd19 nm19 (args1 (K.at 27 67 rfl rfl)) rfl ((len_ext h h2.size [] (hY10.mk K.grown lY)).mono fun _ _ q => ⟨Mk.of_ext q.2 K.grown.size, q.1⟩)) ?_
    refine HM.stillG (Mk.refl _) rfl rfl rfl (fun f h K => K.at 26 66 rfl rfl) (fun f h K => Runs.eql (K.at 28 68 rfl rfl) rfl (t := true) rfl) ?_
    refine HM.still (Mk.refl _) (fun f h K => Runs.pick (K.at 26 66 rfl rfl) (K.at 29 69 rfl rfl)) ?_
    refine HM.still (Mk.refl _) (fun f h K => Runs.assign (K.at 30 70 rfl rfl)) ?_
    intro f' h' hR V _
    refine HW.ret ?_
    exact RT.one rfl (last_at V 31 2 rfl) ⟨rfl, B10.trans (hR.bel.mono (by omega))⟩
end Go.Proofs.Ytbfmkjfpialihaa
