/- onionskinlaw03.small: the small case comes out right. -/
import Derived.Test.YtklelhfgbjpifaaSx3
namespace Go.Proofs.Ytklelhfgbjpifaa
set_option linter.unnecessarySimpa false
set_option linter.unusedSimpArgs false
set_option linter.unusedVariables false
open Go.RowKit
def xab : List UInt8 := [97, 98]
def xcd : List UInt8 := [99, 100]
def xx : List UInt8 := [120]
theorem ab0 : (SHA xab).getD 0 0 = 0xfb := by decide +kernel
theorem cd0 : (SHA xcd).getD 0 0 = 0x21 := by decide +kernel
theorem x0 : (SHA xx).getD 0 0 = 0x2d := by decide +kernel
theorem sha_ne {x y : Dg} {a b : UInt8} (hx : x.1.getD 0 0 = a) (hy : y.1.getD 0 0 = b) (hab : a ≠ b) : (x == y) = false := by
  rw [beq_eq_false_iff_ne]
  intro e
  rw [e, hy] at hx
  exact hab hx.symm
theorem ne_ab_cd : (shaD xab == shaD xcd) = false := sha_ne ab0 cd0 (by decide)
theorem ne_ab_x : (shaD xab == shaD xx) = false := sha_ne ab0 x0 (by decide)
theorem ne_ab_z : (shaD xab == zD) = false := sha_ne ab0 (b := 0) rfl (by decide)
abbrev M1 : List (Dg × List UInt8) := [(shaD xab, xab)]
theorem look1 (x : Dg) : lookM M1 x = if (shaD xab == x) = true then some xab else none := by
  unfold lookM
  rw [List.find?_cons]
  cases (shaD xab == x) <;> rfl
theorem put1 : putO 3 [] xab = (M1, shaD xab, 0) := rfl
theorem put2 : putO 3 M1 xcd = (M1, zD, 2) := by
  unfold putO
  rw [look1, ne_ab_cd]
  rfl
theorem put3 : putO 3 M1 xab = (M1, shaD xab, 0) := by
  unfold putO
  rw [look1, beq_self_eq_true]
  rfl
theorem put4 : putO 3 M1 xx = (M1 ++ [(shaD xx, xx)], shaD xx, 0) := by
  unfold putO
  rw [look1, ne_ab_x]
  rfl
theorem usedX_ch {F : Nat → Prop} (h : Heap) (s b : Nat) (room : Int) (M : List (Dg × List UInt8)) (n : Int) (hS : Sto F h s b room M) (hn : (tot M : Int) = n) : CH Try.prog 26 #[.pointer (some ⟨s, 0, none⟩)] h fun v h' => v = I64 n ∧ Ext h h' :=
  (usedS_ch h s b room M hS).mono fun _ _ q => ⟨by rw [q.1, hn], q.2 ▸ Bel.refl _ _⟩
theorem roomX_ch {F : Nat → Prop} (h : Heap) (s b : Nat) (room : Int) (M : List (Dg × List UInt8)) (hS : Sto F h s b room M) : CH Try.prog 28 #[.pointer (some ⟨s, 0, none⟩)] h fun v h' => v = I64 room ∧ Ext h h' :=
  (roomS_ch h s b room M hS).mono fun _ _ q => ⟨q.1, q.2 ▸ Bel.refl _ _⟩
theorem sizeX_ch {F : Nat → Prop} (h : Heap) (s b : Nat) (room : Int) (M : List (Dg × List UInt8)) (x : Dg) (n : Int) (hS : Sto F h s b room M) (hn : sizeO M x = n) : CH Try.prog 24 #[.pointer (some ⟨s, 0, none⟩), keyV x] h fun v h' => v = I64 n ∧ Ext h h' := by
  rw [← hn]
  exact sizeS_ch h s b room M x hS
theorem hasX_ch {F : Nat → Prop} (h : Heap) (s b : Nat) (room : Int) (M : List (Dg × List UInt8)) (x : Dg) (t : Bool) (hS : Sto F h s b room M) (hn : (lookM M x).isSome = t) : CH Try.prog 23 #[.pointer (some ⟨s, 0, none⟩), keyV x] h fun v h' => v = .bool t ∧ Ext h h' := by
  rw [← hn]
  exact hasS_ch h s b room M x hS
theorem putX_ch {F : Nat → Prop} (h : Heap) (s b : Nat) (room : Int) (M M' : List (Dg × List UInt8)) (xs : List UInt8) (d : Dg) (e : Int) (a : Option Addr) (cap : Nat) (hp : putO room M xs = (M', d, e)) (hS : Sto F h s b room M) (hsrc : Byt h a xs) (hcap : xs.length ≤ cap) (hlen : xs.length ≤ 100000) (hr : room ≤ 1073741824) (hr0 : 0 ≤ room) (ht : (tot M : Int) ≤ room) :
    CH Try.prog 18 #[.pointer (some ⟨s, 0, none⟩), .slice a xs.length cap] h fun v h' => v = .tuple #[keyV d, I64 e] ∧ Sto (fun j => F j ∨ h.size ≤ j) h' s b room M' ∧ Ex2 s b h h' := by
  have := putS_ch h s b room M xs a cap hS hsrc hcap hlen hr hr0 ht
  rw [hp] at this
  exact this
theorem getX_ch {F : Nat → Prop} (h : Heap) (s b : Nat) (room : Int) (M : List (Dg × List UInt8)) (x : Dg) (xs : List UInt8) (hx : lookM M x = some xs) (hS : Sto F h s b room M) (hlen : ∀ p ∈ M, p.2.length ≤ 140737488355328) : CH Try.prog 21 #[.pointer (some ⟨s, 0, none⟩), keyV x] h fun v h' => ∃ a c, v = .tuple #[.slice a xs.length c, .bool true] ∧ Bs h' h.size 5 a c xs ∧ Ext h h' := by
  have := getS_ch h s b room M x hS hlen
  rw [hx] at this
  exact this
/-- A new store. -/
theorem newS_ch (h : Heap) (r : Int) : CH Try.prog 16 #[I64 r] h fun v h' => v = .pointer (some ⟨h.size + 1, 0, none⟩) ∧ Sto (fun j => h.size ≤ j) h' (h.size + 1) h.size (roomO r) [] ∧ Ext h h' :=
  (new_st_ch h r).mono fun v h' ⟨q1, q2, q3, q4⟩ => ⟨q1, ⟨[], rfl, q2, q3, ⟨by omega, by omega, Nat.le_refl _⟩, fun _ h => (by cases h)⟩, q4⟩
end Go.Proofs.Ytklelhfgbjpifaa
/-! onionskinlaw03.small answers true. -/
namespace Go.Proofs.Ytklelhfgbjpifaa
set_option linter.unnecessarySimpa false
set_option linter.unusedSimpArgs false
set_option linter.unusedVariables false
open Go.RowKit
theorem ex2_off {s b : Nat} {h h' : Heap} (x : Ex2 s b h h') {j : Nat} {o : Obj} (hj : h[j]? = some o) (h1 : j ≠ s) (h2 : j ≠ b) : h'[j]? = some o := (x.old j (lt_of_some hj) h1 h2).trans hj
set_option maxRecDepth 10000 in
set_option maxHeartbeats 1000000 in
theorem small_ch (h : Heap) : CH Try.prog 14 #[] h fun v h' => v = .bool true ∧ Ext h h' := by
  refine CH.of_body Try.func14 rfl rfl rfl ?_
  intro f hf
  -- region 0
  repeat refine HW.seq ?_
  refine HW.region ?_
  refine HL.still (Runs.assign rfl) ?_
  intro u0 e0
  refine HL.nil ?_
  -- region 1
  repeat refine HW.seq ?_
  refine HW.region ?_
  refine HL.one (HO.call Try.func16 bd16 nm16 (args1 rfl) rfl ((newS_ch h 3).mono ?_))
  rintro _ h1 ⟨rfl, S1, X1⟩
  intro u14 e14
  refine HL.still (Runs.assign e14) ?_
  intro u1 e1
  refine HL.nil ?_
  obtain ⟨N, hN⟩ : ∃ N, N = h.size := ⟨_, rfl⟩
  obtain ⟨s, hs⟩ : ∃ s, s = h.size + 1 := ⟨_, rfl⟩
  rw [← hs] at S1 e1
  rw [← hN] at S1 hs
  have S1 : Sto (fun _ => True) h1 s N 3 [] := S1.weaken fun _ _ _ => trivial
  have x1 := X1.size
  have sl1 := S1.lt
  rw [← hN] at x1
  -- region 2
  repeat refine HW.seq ?_
  refine HW.region ?_
  refine HL.still (Runs.move e1) ?_
  intro u15 e15
  refine HL.still (Runs.eqNil Try.underlying25 e15 rfl) ?_
  intro u16 e16
  refine HL.nil ?_
  refine HW.no e16 ?_
  refine HW.skip ?_
  -- region 4
  repeat refine HW.seq ?_
  refine HW.region ?_
  refine HL.still (Runs.move e1) ?_
  intro u18 e18
  refine HL.one (HO.buildSlice (e := 5) (cells := xab.map B8) (fun w => by kernel_rfl) fun h19 w19 => ?_)
  intro u19 e19
  refine HL.one (HO.mark Try.underlying29 Try.underlying5 e19 w19.new ?_)
  intro h20 fr20 w20 q20
  intro u20 e20
  refine HL.one (HO.call Try.func18 bd18 nm18 (args2 e18 e20) rfl ((putX_ch h20 s N 3 [] M1 xab (shaD xab) 0 _ 2 put1 (S1.ext (w19.ext.wr w20 (Nat.le_refl _))) (byt_block w20.new) (by decide) (by decide) (by decide) (by decide) (by decide)).mono ?_))
  rintro _ h21 ⟨rfl, S21, X21⟩
  intro u21 e21
  refine HL.still (Runs.move e21) ?_
  intro u17 e17
  refine HL.still (Runs.extr e17 rfl) ?_
  intro u22 e22
  refine HL.still (Runs.extr e17 rfl) ?_
  intro u23 e23
  refine HL.one (HO.alloc zr31 ?_)
  intro h2 w2
  intro u2 e2
  refine HL.zero (HO.storeAll sz31 e2 e22 (encD_one (shaD xab)) w2.new (encD_len _) (by simp) ?_)
  intro h4 w4
  refine HL.still (Runs.assign e23) ?_
  intro u3 e3
  refine HL.nil ?_
  have XA : Ext h1 h20 := w19.ext.wr w20 (Nat.le_refl _)
  have XB : Ext h21 h4 := w2.ext.wr w4 (Nat.le_refl _)
  have x20 := XA.size
  have x21 := X21.size
  have x4 := XB.size
  have S4 : Sto (fun _ => True) h4 s N 3 M1 := (S21.ext XB).weaken fun _ _ _ => trivial
  have kd4 : h4[h21.size]? = some (.cells (encD (shaD xab)).toArray 31 (0, 0)) := w4.new
  have kl4 := lt_of_some kd4
  have d2 : u2 = .pointer (some ⟨h21.size, 0, none⟩) := e2
  -- region 5
  repeat refine HW.seq ?_
  refine HW.region ?_
  refine HL.still (Runs.move e1) ?_
  intro u25 e25
  refine HL.one (HO.buildSlice (e := 5) (cells := xcd.map B8) (fun w => by kernel_rfl) fun h26 w26 => ?_)
  intro u26 e26
  refine HL.one (HO.mark Try.underlying29 Try.underlying5 e26 w26.new ?_)
  intro h27 fr27 w27 q27
  intro u27 e27
  refine HL.one (HO.call Try.func18 bd18 nm18 (args2 e25 e27) rfl ((putX_ch h27 s N 3 M1 M1 xcd zD 2 _ 2 put2 (S4.ext (w26.ext.wr w27 (Nat.le_refl _))) (byt_block w27.new) (by decide) (by decide) (by decide) (by decide) (by decide)).mono ?_))
  rintro _ h28 ⟨rfl, S28, X28⟩
  intro u28 e28
  refine HL.still (Runs.move e28) ?_
  intro u24 e24
  refine HL.still (Runs.extr e24 rfl) ?_
  intro u29 e29
  refine HL.still (Runs.extr e24 rfl) ?_
  intro u30 e30
  refine HL.one (HO.alloc zr31 ?_)
  intro h5 w5
  intro u4 e4
  refine HL.zero (HO.storeAll sz31 e4 e29 (encD_one zD) w5.new (encD_len _) (by simp) ?_)
  intro h6 w6
  refine HL.still (Runs.assign e30) ?_
  intro u5 e5
  refine HL.nil ?_
  have XC : Ext h4 h27 := w26.ext.wr w27 (Nat.le_refl _)
  have XD : Ext h28 h6 := w5.ext.wr w6 (Nat.le_refl _)
  have x27 := XC.size
  have x28 := X28.size
  have x6 := XD.size
  have S6 : Sto (fun _ => True) h6 s N 3 M1 := (S28.ext XD).weaken fun _ _ _ => trivial
  have kd6 := XD.keepE (ex2_off X28 (XC.keepE kd4) (by omega) (by omega))
  have d5 : u5 = I64 2 := e5
  -- region 6
  repeat refine HW.seq ?_
  refine HW.region ?_
  refine HL.still (Runs.move e1) ?_
  intro u32 e32
  refine HL.one (HO.buildSlice (e := 5) (cells := xab.map B8) (fun w => by kernel_rfl) fun h33 w33 => ?_)
  intro u33 e33
  refine HL.one (HO.mark Try.underlying29 Try.underlying5 e33 w33.new ?_)
  intro h34 fr34 w34 q34
  intro u34 e34
  refine HL.one (HO.call Try.func18 bd18 nm18 (args2 e32 e34) rfl ((putX_ch h34 s N 3 M1 M1 xab (shaD xab) 0 _ 2 put3 (S6.ext (w33.ext.wr w34 (Nat.le_refl _))) (byt_block w34.new) (by decide) (by decide) (by decide) (by decide) (by decide)).mono ?_))
  rintro _ h35 ⟨rfl, S35, X35⟩
  intro u35 e35
  refine HL.still (Runs.move e35) ?_
  intro u31 e31
  refine HL.still (Runs.extr e31 rfl) ?_
  intro u36 e36
  refine HL.still (Runs.extr e31 rfl) ?_
  intro u37 e37
  refine HL.one (HO.alloc zr31 ?_)
  intro h7 w7
  intro u6 e6
  refine HL.zero (HO.storeAll sz31 e6 e36 (encD_one (shaD xab)) w7.new (encD_len _) (by simp) ?_)
  intro h8 w8
  refine HL.still (Runs.assign e37) ?_
  intro u7 e7
  refine HL.nil ?_
  have XE : Ext h6 h34 := w33.ext.wr w34 (Nat.le_refl _)
  have XF : Ext h35 h8 := w7.ext.wr w8 (Nat.le_refl _)
  have x34 := XE.size
  have x35 := X35.size
  have x8 := XF.size
  have S8 : Sto (fun _ => True) h8 s N 3 M1 := (S35.ext XF).weaken fun _ _ _ => trivial
  have kd8 := XF.keepE (ex2_off X35 (XE.keepE kd6) (by omega) (by omega))
  -- region 7
  repeat refine HW.seq ?_
  refine HW.region ?_
  refine HL.still (Runs.move e1) ?_
  intro u38 e38
  refine HL.one (HO.call Try.func32 bd32 nm32 (args1 e38) rfl ((copyS_ch h8 s N 3 M1 S8).mono ?_))
  rintro _ h9 ⟨s', b', rfl, hs', hb', X9, C9⟩
  intro u39 e39
  refine HL.still (Runs.assign e39) ?_
  intro u8 e8
  refine HL.nil ?_
  have x9 := X9.size
  have S9 : Sto (fun j => j ≠ s' ∧ j ≠ b') h9 s N 3 M1 := (S8.weaken fun j hj _ => ⟨by omega, by omega⟩).ext X9
  have C9 : Sto (fun j => j ≠ s ∧ j ≠ N) h9 s' b' 3 M1 := C9.weaken fun j hj q => (by
    rcases q with q | q
    · exact q.2
    · exact ⟨by omega, by omega⟩)
  have kd9 := X9.keepE kd8
  -- region 8
  repeat refine HW.seq ?_
  refine HW.region ?_
  refine HL.still (Runs.move e8) ?_
  intro u40 e40
  refine HL.still (Runs.eqNil Try.underlying25 e40 rfl) ?_
  intro u41 e41
  refine HL.nil ?_
  refine HW.no e41 ?_
  refine HW.skip ?_
  -- region 10
  repeat refine HW.seq ?_
  refine HW.region ?_
  refine HL.still (Runs.move e8) ?_
  intro u43 e43
  refine HL.one (HO.buildSlice (e := 5) (cells := xx.map B8) (fun w => by kernel_rfl) fun h44 w44 => ?_)
  intro u44 e44
  refine HL.one (HO.mark Try.underlying29 Try.underlying5 e44 w44.new ?_)
  intro h45 fr45 w45 q45
  intro u45 e45
  refine HL.one (HO.call Try.func18 bd18 nm18 (args2 e43 e45) rfl ((putX_ch h45 s' b' 3 M1 (M1 ++ [(shaD xx, xx)]) xx (shaD xx) 0 _ 1 put4 (C9.ext (w44.ext.wr w45 (Nat.le_refl _))) (byt_block w45.new) (by decide) (by decide) (by decide) (by decide) (by decide)).mono ?_))
  rintro _ h46 ⟨rfl, C46, X46⟩
  intro u46 e46
  refine HL.still (Runs.move e46) ?_
  intro u42 e42
  refine HL.still (Runs.extr e42 rfl) ?_
  intro u47 e47
  refine HL.still (Runs.extr e42 rfl) ?_
  intro u48 e48
  refine HL.one (HO.alloc zr31 ?_)
  intro h10 w10
  intro u9 e9
  refine HL.zero (HO.storeAll sz31 e9 e47 (encD_one (shaD xx)) w10.new (encD_len _) (by simp) ?_)
  intro h11 w11
  refine HL.still (Runs.assign e48) ?_
  intro u10 e10
  refine HL.nil ?_
  have XG : Ext h9 h45 := w44.ext.wr w45 (Nat.le_refl _)
  have XH : Ext h46 h11 := w10.ext.wr w11 (Nat.le_refl _)
  have x45 := XG.size
  have x46 := X46.size
  have x11 := XH.size
  have S11 : Sto (fun j => j ≠ s' ∧ j ≠ b') h11 s N 3 M1 := ((S9.ext XG).keep X46.size fun j hj q => X46.old j hj q.1 q.2).ext XH
  have C11 := C46.ext XH
  have kd11 := XH.keepE (ex2_off X46 (XG.keepE kd9) (by omega) (by omega))
  have hlk : lookM M1 (shaD xab) = some xab := by rw [look1, beq_self_eq_true]; rfl
  have hlz : lookM M1 zD = none := by rw [look1, ne_ab_z]; rfl
  -- region 11
  repeat refine HW.seq ?_
  refine HW.region ?_
  refine HL.still (Runs.move e1) ?_
  intro u50 e50
  refine HL.still (Runs.loadAgg Try.underlying31 rfl sz31 d2 (encD_len (shaD xab)) (load_blk kd11)) ?_
  intro u51 e51
  refine HL.one (HO.call Try.func21 bd21 nm21 (args2 e50 e51) rfl ((getX_ch h11 s N 3 M1 (shaD xab) xab hlk S11 (by intro p hp; rw [List.mem_singleton.1 hp]; decide)).mono ?_))
  rintro _ h12 ⟨a12, c12, rfl, B12, X12⟩
  intro u52 e52
  refine HL.still (Runs.move e52) ?_
  intro u49 e49
  refine HL.still (Runs.extr e49 rfl) ?_
  intro u53 e53
  refine HL.still (Runs.extr e49 rfl) ?_
  intro u54 e54
  refine HL.still (Runs.assign e53) ?_
  intro u11 e11
  refine HL.still (Runs.assign e54) ?_
  intro u12 e12
  refine HL.nil ?_
  have S12 := S11.ext X12
  have C12 := C11.ext X12
  have kd12 := X12.keepE kd11
  have d11 : u11 = .slice a12 xab.length c12 := e11
  have d12 : u12 = .bool true := e12
  -- region 12
  repeat refine HW.seq ?_
  refine HW.region ?_
  refine HL.still (Runs.move e1) ?_
  intro u55 e55
  refine HL.one (HO.call Try.func29 bd29 nm29 (args1 e55) rfl ((keysS_ch h12 s N 3 M1 S12 (by decide)).mono ?_))
  rintro _ h13 ⟨a13, c13, ks, rfl, D13, p13, _, X13⟩
  intro u56 e56
  refine HL.still (Runs.assign e56) ?_
  intro u13 e13
  refine HL.nil ?_
  have hks : ks = [shaD xab] := List.perm_singleton.1 p13
  subst hks
  have S13 := S12.ext X13
  have C13 := C12.ext X13
  have kd13 := X13.keepE kd12
  have B13 := B12.ext X13
  obtain ⟨g13, rfl, _, _⟩ : ∃ g, a13 = some ⟨g, 0, none⟩ ∧ h12.size ≤ g ∧ g < h13.size := by
    rcases D13.blk with ⟨_, q⟩ | q
    · cases q
    · exact q
  obtain ⟨cur, hb13, _, hct⟩ := D13.blkAt
  have hk0 : ∀ i v, (encD (shaD xab))[i]? = some v → cellH h13 g13 (0 + i) = some v := by
    intro i v hv
    rcases D13.dgs with q | ⟨sb, so, q, hc⟩
    · cases q
    · cases q
      have := hc 0 (by decide) i v hv
      simpa using this
  have d13 : u13 = .slice (some ⟨g13, 0, none⟩) 1 c13 := e13
  have hsz1 : sizeO M1 (shaD xab) = 2 := by unfold sizeO; rw [hlk]; rfl
  have hszz : sizeO M1 zD = -1 := by unfold sizeO; rw [hlz]
  have d3 : u3 = I64 0 := e3
  have d7 : u7 = I64 0 := e7
  have d10 : u10 = I64 0 := e10
  have Y1 : ∀ j, j < N → j ≠ s ∧ j ≠ N ∧ j ≠ s' ∧ j ≠ b' := fun j hj => ⟨by omega, by omega, by omega, by omega⟩
  have XT : Ext h h13 := ⟨by have := X12.size; have := X13.size; omega, fun j hj => by
    have hj : j < N := by omega
    obtain ⟨n1, n2, n3, n4⟩ := Y1 j hj
    have hj1 : j < h1.size := by omega
    rw [X13.old j (by have := X12.size; omega), X12.old j (by omega), XH.old j (by omega), X46.old j (by omega) n3 n4, XG.old j (by omega), X9.old j (by omega), XF.old j (by omega), X35.old j (by omega) n1 n2, XE.old j (by omega), XD.old j (by omega), X28.old j (by omega) n1 n2, XC.old j (by omega), XB.old j (by omega), X21.old j (by omega) n1 n2, XA.old j (by omega)]
    exact X1.old j (by omega)⟩
  -- region 13
  repeat refine HW.seq ?_
  refine HW.grow #[0, 1, 3, 7, 15, 31, 63, 127, 255, 511, 1023, 2047, 4095, 8191, 16383, 32767, 65535, 131071, 262143, 524287, 1048575, 2097151, 4194303, 8388607, 16777215, 33554431, 67108863, 134217727, 268435455, 536870911, 1073741823, 268435455, 4294967295, 8589934591, 17179869183, 34359738367, 68719476735, 137438953471, 274877906943, 549755813887, 1099511627775, 2199023255551, 4398046511103, 8796093022207, 17592186044415, 35184372088831, 70368744177663, 140737488355327, 281474976710655, 562949953421311, 1125899906842623, 1125899906842623, 4503599627370495, 9007199254740991, 18014398509481983, 36028797018963967, 72057594037927935, 72057594037927935, 288230376151711743, 576460752303423487, 1152921504606846975, 2305843009213693951, 4611686018427387903, 4611686018427387903, 18446744073709551615, 36893488147419103231, 73786976294838206463, 147573952589676412927, 295147905179352825855, 590295810358705651711, 1180591620717411303423, 2361183241434822606847, 4722366482869645213695] (fun a b => Ext a b) mixed (by kernel_rfl) (fun _ => Bel.refl _ _) (fun _ _ _ x y => Bel.ext x y (Nat.le_refl _)) ?_
  refine HM.still (fun _ => Bel.refl _ _) (fun f h K => Runs.move ((K.keep (by kernel_rfl)).trans d3)) ?_
  refine HM.still (fun _ => Bel.refl _ _) (fun f h K => Runs.eql (K.at 0 57 rfl rfl) rfl (t := true) rfl) ?_
  refine HM.still (fun _ => Bel.refl _ _) (fun f h K => Runs.move (K.at 1 58 rfl rfl)) ?_
  refine HM.stillG (fun _ => Bel.refl _ _) rfl rfl rfl (fun f h K => K.at 2 59 rfl rfl) (fun f h K => Runs.move ((K.keep (by kernel_rfl)).trans d5)) ?_
  refine HM.stillG (fun _ => Bel.refl _ _) rfl rfl rfl (fun f h K => K.at 2 59 rfl rfl) (fun f h K => Runs.eql (K.at 3 60 rfl rfl) rfl (t := true) rfl) ?_
  refine HM.still (fun _ => Bel.refl _ _) (fun f h K => Runs.pick (K.at 2 59 rfl rfl) (K.at 4 61 rfl rfl)) ?_
  refine HM.still (fun _ => Bel.refl _ _) (fun f h K => Runs.move (K.at 5 62 rfl rfl)) ?_
  refine HM.stillG (fun _ => Bel.refl _ _) rfl rfl rfl (fun f h K => K.at 6 63 rfl rfl) (fun f h K => Runs.move ((K.keep (by kernel_rfl)).trans d7)) ?_
  refine HM.stillG (fun _ => Bel.refl _ _) rfl rfl rfl (fun f h K => K.at 6 63 rfl rfl) (fun f h K => Runs.eql (K.at 7 64 rfl rfl) rfl (t := true) rfl) ?_
  refine HM.still (fun _ => Bel.refl _ _) (fun f h K => Runs.pick (K.at 6 63 rfl rfl) (K.at 8 65 rfl rfl)) ?_
  refine HM.still (fun _ => Bel.refl _ _) (fun f h K => Runs.move (K.at 9 66 rfl rfl)) ?_
  refine HM.stillG (fun _ => Bel.refl _ _) rfl rfl rfl (fun f h K => K.at 10 67 rfl rfl) (fun f h K => Runs.move ((K.keep (by kernel_rfl)).trans d10)) ?_
  refine HM.stillG (fun _ => Bel.refl _ _) rfl rfl rfl (fun f h K => K.at 10 67 rfl rfl) (fun f h K => Runs.eql (K.at 11 68 rfl rfl) rfl (t := true) rfl) ?_
  refine HM.still (fun _ => Bel.refl _ _) (fun f h K => Runs.pick (K.at 10 67 rfl rfl) (K.at 12 69 rfl rfl)) ?_
  refine HM.still (fun _ => Bel.refl _ _) (fun f h K => Runs.move (K.at 13 70 rfl rfl)) ?_
  refine HM.stillG (fun _ => Bel.refl _ _) rfl rfl rfl (fun f h K => K.at 14 71 rfl rfl) (fun f h K => Runs.move ((K.keep (by kernel_rfl)).trans d11)) ?_
  refine HM.stillG (fun _ => Bel.refl _ _) rfl rfl rfl (fun f h K => K.at 14 71 rfl rfl) (fun f h K => Runs.toStrB Try.underlying29 Try.underlying5 Try.underlying9 (K.at 15 72 rfl rfl) rfl (B13.byt.ext K.grown)) ?_
  refine HM.stillG (fun _ => Bel.refl _ _) rfl rfl rfl (fun f h K => K.at 14 71 rfl rfl) (fun f h K => Runs.eqS (K.at 16 73 rfl rfl) rfl (t := true) rfl) ?_
  refine HM.still (fun _ => Bel.refl _ _) (fun f h K => Runs.pick (K.at 14 71 rfl rfl) (K.at 17 74 rfl rfl)) ?_
  refine HM.still (fun _ => Bel.refl _ _) (fun f h K => Runs.move (K.at 18 75 rfl rfl)) ?_
  refine HM.stillG (fun _ => Bel.refl _ _) rfl rfl rfl (fun f h K => K.at 19 76 rfl rfl) (fun f h K => Runs.move ((K.keep (by kernel_rfl)).trans d12)) ?_
  refine HM.still (fun _ => Bel.refl _ _) (fun f h K => Runs.pick (K.at 19 76 rfl rfl) (K.at 20 77 rfl rfl)) ?_
  refine HM.still (fun _ => Bel.refl _ _) (fun f h K => Runs.move (K.at 21 78 rfl rfl)) ?_
  refine HM.stillG (fun _ => Bel.refl _ _) rfl rfl rfl (fun f h K => K.at 22 79 rfl rfl) (fun f h K => Runs.move ((K.keep (by kernel_rfl)).trans d13)) ?_
  refine HM.stillG (fun _ => Bel.refl _ _) rfl rfl rfl (fun f h K => K.at 22 79 rfl rfl) (fun f h K => Runs.lenSl rfl Try.underlying41 (K.at 23 80 rfl rfl)) ?_
  refine HM.stillG (fun _ => Bel.refl _ _) rfl rfl rfl (fun f h K => K.at 22 79 rfl rfl) (fun f h K => Runs.eql (K.at 24 81 rfl rfl) rfl (t := true) rfl) ?_
  refine HM.still (fun _ => Bel.refl _ _) (fun f h K => Runs.pick (K.at 22 79 rfl rfl) (K.at 25 82 rfl rfl)) ?_
  refine HM.still (fun _ => Bel.refl _ _) (fun f h K => Runs.move (K.at 26 83 rfl rfl)) ?_
  refine HM.stillG (fun _ => Bel.refl _ _) rfl rfl rfl (fun f h K => K.at 27 84 rfl rfl) (fun f h K => Runs.move ((K.keep (by kernel_rfl)).trans d13)) ?_
  refine HM.stillG (fun _ => Bel.refl _ _) rfl rfl rfl (fun f h K => K.at 27 84 rfl rfl) (fun f h K => Runs.ixSl (o' := 0) Try.underlying41 sz31 (K.at 28 85 rfl rfl) rfl (by omega) (by omega) (by omega)) ?_
  refine HM.stillG (fun _ => Bel.refl _ _) rfl rfl rfl (fun f h K => K.at 27 84 rfl rfl) (fun f h K => Runs.loadAgg Try.underlying31 rfl sz31 (K.at 29 86 rfl rfl) (encD_len (shaD xab)) (fun i v hv => by rw [cellH_keep (Bel.old K.grown g13 (lt_of_some hb13))]; exact hk0 i v hv)) ?_
  refine HM.stillG (fun _ => Bel.refl _ _) rfl rfl rfl (fun f h K => K.at 27 84 rfl rfl) (fun f h K => Runs.loadAgg Try.underlying31 rfl sz31 ((K.keep (by kernel_rfl)).trans d2) (encD_len (shaD xab)) (load_blk (Bel.keepE K.grown kd13))) ?_
  refine HM.stillG (fun _ => Bel.refl _ _) rfl rfl rfl (fun f h K => K.at 27 84 rfl rfl) (fun f h K => Runs.eqBytes Try.underlying31 Try.underlying5 sz5 eg31 (K.at 30 87 rfl rfl) (K.at 31 88 rfl rfl) (t := true) (shaD xab).2 (shaD xab).2 (by simp)) ?_
  refine HM.still (fun _ => Bel.refl _ _) (fun f h K => Runs.pick (K.at 27 84 rfl rfl) (K.at 32 89 rfl rfl)) ?_
  refine HM.still (fun _ => Bel.refl _ _) (fun f h K => Runs.move (K.at 33 90 rfl rfl)) ?_
  refine HM.stillG (fun _ => Bel.refl _ _) rfl rfl rfl (fun f h K => K.at 34 91 rfl rfl) (fun f h K => Runs.move ((K.keep (by kernel_rfl)).trans e1)) ?_
  refine HM.oneG (fun x _ => x = _) (fun _ _ _ _ e => e) rfl rfl rfl (fun f h K => K.at 34 91 rfl rfl) (fun f h K => HO.call Try.func26 bd26 nm26 (args1 (K.at 35 92 rfl rfl)) rfl ((usedX_ch h s N 3 M1 2 (S13.ext K.grown) rfl).mono fun _ _ q => ⟨q.2, q.1⟩)) ?_
  refine HM.stillG (fun _ => Bel.refl _ _) rfl rfl rfl (fun f h K => K.at 34 91 rfl rfl) (fun f h K => Runs.eql (K.at 36 93 rfl rfl) rfl (t := true) rfl) ?_
  refine HM.still (fun _ => Bel.refl _ _) (fun f h K => Runs.pick (K.at 34 91 rfl rfl) (K.at 37 94 rfl rfl)) ?_
  refine HM.still (fun _ => Bel.refl _ _) (fun f h K => Runs.move (K.at 38 95 rfl rfl)) ?_
  refine HM.stillG (fun _ => Bel.refl _ _) rfl rfl rfl (fun f h K => K.at 39 96 rfl rfl) (fun f h K => Runs.move ((K.keep (by kernel_rfl)).trans e8)) ?_
  refine HM.oneG (fun x _ => x = _) (fun _ _ _ _ e => e) rfl rfl rfl (fun f h K => K.at 39 96 rfl rfl) (fun f h K => HO.call Try.func26 bd26 nm26 (args1 (K.at 40 97 rfl rfl)) rfl ((usedX_ch h s' b' 3 (M1 ++ [(shaD xx, xx)]) 3 (C13.ext K.grown) rfl).mono fun _ _ q => ⟨q.2, q.1⟩)) ?_
  refine HM.stillG (fun _ => Bel.refl _ _) rfl rfl rfl (fun f h K => K.at 39 96 rfl rfl) (fun f h K => Runs.eql (K.at 41 98 rfl rfl) rfl (t := true) rfl) ?_
  refine HM.still (fun _ => Bel.refl _ _) (fun f h K => Runs.pick (K.at 39 96 rfl rfl) (K.at 42 99 rfl rfl)) ?_
  refine HM.still (fun _ => Bel.refl _ _) (fun f h K => Runs.move (K.at 43 100 rfl rfl)) ?_
  refine HM.stillG (fun _ => Bel.refl _ _) rfl rfl rfl (fun f h K => K.at 44 101 rfl rfl) (fun f h K => Runs.move ((K.keep (by kernel_rfl)).trans e1)) ?_
  refine HM.oneG (fun x _ => x = _) (fun _ _ _ _ e => e) rfl rfl rfl (fun f h K => K.at 44 101 rfl rfl) (fun f h K => HO.call Try.func28 bd28 nm28 (args1 (K.at 45 102 rfl rfl)) rfl ((roomX_ch h s N 3 M1 (S13.ext K.grown)).mono fun _ _ q => ⟨q.2, q.1⟩)) ?_
  refine HM.stillG (fun _ => Bel.refl _ _) rfl rfl rfl (fun f h K => K.at 44 101 rfl rfl) (fun f h K => Runs.eql (K.at 46 103 rfl rfl) rfl (t := true) rfl) ?_
  refine HM.still (fun _ => Bel.refl _ _) (fun f h K => Runs.pick (K.at 44 101 rfl rfl) (K.at 47 104 rfl rfl)) ?_
  refine HM.still (fun _ => Bel.refl _ _) (fun f h K => Runs.move (K.at 48 105 rfl rfl)) ?_
  refine HM.stillG (fun _ => Bel.refl _ _) rfl rfl rfl (fun f h K => K.at 49 106 rfl rfl) (fun f h K => Runs.move ((K.keep (by kernel_rfl)).trans e1)) ?_
  refine HM.stillG (fun _ => Bel.refl _ _) rfl rfl rfl (fun f h K => K.at 49 106 rfl rfl) (fun f h K => Runs.loadAgg Try.underlying31 rfl sz31 ((K.keep (by kernel_rfl)).trans d2) (encD_len (shaD xab)) (load_blk (Bel.keepE K.grown kd13))) ?_
  refine HM.oneG (fun x _ => x = _) (fun _ _ _ _ e => e) rfl rfl rfl (fun f h K => K.at 49 106 rfl rfl) (fun f h K => HO.call Try.func24 bd24 nm24 (args2 (K.at 50 107 rfl rfl) (K.at 51 108 rfl rfl)) rfl ((sizeX_ch h s N 3 M1 (shaD xab) 2 (S13.ext K.grown) hsz1).mono fun _ _ q => ⟨q.2, q.1⟩)) ?_
  refine HM.stillG (fun _ => Bel.refl _ _) rfl rfl rfl (fun f h K => K.at 49 106 rfl rfl) (fun f h K => Runs.eql (K.at 52 109 rfl rfl) rfl (t := true) rfl) ?_
  refine HM.still (fun _ => Bel.refl _ _) (fun f h K => Runs.pick (K.at 49 106 rfl rfl) (K.at 53 110 rfl rfl)) ?_
  refine HM.still (fun _ => Bel.refl _ _) (fun f h K => Runs.move (K.at 54 111 rfl rfl)) ?_
  refine HM.stillG (fun _ => Bel.refl _ _) rfl rfl rfl (fun f h K => K.at 55 112 rfl rfl) (fun f h K => Runs.move ((K.keep (by kernel_rfl)).trans e1)) ?_
  refine HM.stillG (fun _ => Bel.refl _ _) rfl rfl rfl (fun f h K => K.at 55 112 rfl rfl) (fun f h K => Runs.buildZ31) ?_
  refine HM.oneG (fun x _ => x = _) (fun _ _ _ _ e => e) rfl rfl rfl (fun f h K => K.at 55 112 rfl rfl) (fun f h K => HO.call Try.func24 bd24 nm24 (args2 (K.at 56 113 rfl rfl) (K.at 57 114 rfl rfl)) rfl ((sizeX_ch h s N 3 M1 zD (-1) (S13.ext K.grown) hszz).mono fun _ _ q => ⟨q.2, q.1⟩)) ?_
  refine HM.stillG (fun _ => Bel.refl _ _) rfl rfl rfl (fun f h K => K.at 55 112 rfl rfl) (fun f h K => Runs.eql (K.at 58 115 rfl rfl) rfl (t := true) rfl) ?_
  refine HM.still (fun _ => Bel.refl _ _) (fun f h K => Runs.pick (K.at 55 112 rfl rfl) (K.at 59 116 rfl rfl)) ?_
  refine HM.still (fun _ => Bel.refl _ _) (fun f h K => Runs.move (K.at 60 117 rfl rfl)) ?_
  refine HM.stillG (fun _ => Bel.refl _ _) rfl rfl rfl (fun f h K => K.at 61 118 rfl rfl) (fun f h K => Runs.move ((K.keep (by kernel_rfl)).trans e1)) ?_
  refine HM.stillG (fun _ => Bel.refl _ _) rfl rfl rfl (fun f h K => K.at 61 118 rfl rfl) (fun f h K => Runs.buildZ31) ?_
  refine HM.oneG (fun x _ => x = _) (fun _ _ _ _ e => e) rfl rfl rfl (fun f h K => K.at 61 118 rfl rfl) (fun f h K => HO.call Try.func23 bd23 nm23 (args2 (K.at 62 119 rfl rfl) (K.at 63 120 rfl rfl)) rfl ((hasX_ch h s N 3 M1 zD false (S13.ext K.grown) (by rw [hlz]; rfl)).mono fun _ _ q => ⟨q.2, q.1⟩)) ?_
  refine HM.stillG (v := .bool true) (fun _ => Bel.refl _ _) rfl rfl rfl (fun f h K => K.at 61 118 rfl rfl) (fun f h K => Runs.notb (t := false) (show f 121 = .bool false from K.at 64 121 rfl rfl) rfl) ?_
  refine HM.still (fun _ => Bel.refl _ _) (fun f h K => Runs.pick (K.at 61 118 rfl rfl) (K.at 65 122 rfl rfl)) ?_
  refine HM.still (fun _ => Bel.refl _ _) (fun f h K => Runs.move (K.at 66 123 rfl rfl)) ?_
  refine HM.oneG (fun v hh => ∃ s5 b5, v = .pointer (some ⟨s5, 0, none⟩) ∧ Sto (fun _ => True) hh s5 b5 0 []) (fun v u u' x ⟨s5, b5, q1, q2⟩ => ⟨s5, b5, q1, q2.ext x⟩) rfl rfl rfl (fun f h K => K.at 67 124 rfl rfl) (fun f h K => HO.call Try.func16 bd16 nm16 (args1 rfl) rfl ((newS_ch h (-1)).mono fun v h' ⟨q1, q2, q3⟩ => ⟨q3, _, _, q1, q2.weaken fun _ _ _ => trivial⟩)) ?_
  refine HM.oneG (fun x _ => x = I64 0) (fun _ _ _ _ e => e) rfl rfl rfl (fun f h K => K.at 67 124 rfl rfl) (fun f h K => by obtain ⟨s5, b5, q1, q2⟩ := K.at 68 125 rfl rfl; exact HO.call Try.func28 bd28 nm28 (args1 q1) rfl ((roomX_ch h s5 b5 0 [] q2).mono fun _ _ q => ⟨q.2, q.1⟩)) ?_
  refine HM.stillG (fun _ => Bel.refl _ _) rfl rfl rfl (fun f h K => K.at 67 124 rfl rfl) (fun f h K => Runs.eql (K.at 69 126 rfl rfl) rfl (t := true) rfl) ?_
  refine HM.still (fun _ => Bel.refl _ _) (fun f h K => Runs.pick (K.at 67 124 rfl rfl) (K.at 70 127 rfl rfl)) ?_
  refine HM.still (fun _ => Bel.refl _ _) (fun f h K => Runs.assign (K.at 71 128 rfl rfl)) ?_
  intro f' h' hR V O
  have g0 : f' 0 = .bool true := last_at V 72 0 rfl
  refine HW.ret ?_
  exact RT.one rfl g0 ⟨rfl, XT.ext hR (Nat.le_refl _)⟩
end Go.Proofs.Ytklelhfgbjpifaa
/-! Two stores, the program's and the document's: plain laws. -/
namespace Go.Proofs.Ytklelhfgbjpifaa
set_option linter.unnecessarySimpa false
set_option linter.unusedSimpArgs false
set_option linter.unusedVariables false
open Go.RowKit
abbrev Blobs := List (Dg × List UInt8)
def ltD (x y : Dg) : Prop := lessL x.1 y.1 = true
theorem ltD_irrefl (x : Dg) : ¬ ltD x x := by unfold ltD; rw [less_irrefl]; decide
theorem ltD_trans {x y z : Dg} (h : ltD x y) (k : ltD y z) : ltD x z := less_trans _ _ _ h k
theorem ltD_total {x y : Dg} (h : ¬ ltD x y) (hne : x ≠ y) : ltD y x := by
  have ht := less_total x.1 y.1 (by rw [x.2, y.2])
  rw [beq_eq_false_iff_ne.2 (fun e => hne (Subtype.ext e))] at ht
  unfold ltD at *
  cases h1 : lessL x.1 y.1 with
  | true => exact absurd h1 h
  | false => simpa [h1] using ht
/-- Digests that rise. -/
def Rises (K : List Dg) : Prop := K.Pairwise ltD
theorem Rises.nodup {K : List Dg} (h : Rises K) : K.Nodup := List.Pairwise.imp (fun {a b} (hab : ltD a b) (e : a = b) => ltD_irrefl b (by rw [e] at hab; exact hab)) h
theorem rises_unique {A B : List Dg} (hA : Rises A) (hB : Rises B) (p : A.Perm B) : A = B := by
  induction A generalizing B with
  | nil => exact (List.Perm.nil_eq p)
  | cons a A ih =>
    cases B with
    | nil => exact absurd p.length_eq (by simp)
    | cons b B =>
      have hA' := List.pairwise_cons.1 hA
      have hB' := List.pairwise_cons.1 hB
      have hab : a = b := by
        have h1 : a ∈ b :: B := p.mem_iff.1 (List.mem_cons_self ..)
        have h2 : b ∈ a :: A := p.mem_iff.2 (List.mem_cons_self ..)
        rcases List.mem_cons.1 h1 with e | h1
        · exact e
        · rcases List.mem_cons.1 h2 with e | h2
          · exact e.symm
          · exact absurd (ltD_trans (hA'.1 b h2) (hB'.1 a h1)) (ltD_irrefl a)
      subst hab
      rw [ih hA'.2 hB'.2 (List.Perm.cons_inv p)]
theorem rises_of {A : List Dg} (h : A.Pairwise (fun x y => lessL y.1 x.1 = false)) (hn : A.Nodup) : Rises A := by
  have := List.Pairwise.and h hn
  refine this.imp fun {a b} q => ltD_total (fun e => ?_) (Ne.symm q.2)
  unfold ltD at e
  rw [q.1] at e
  cases e
/-- The digests in order. -/
theorem place_cons {y : Dg} {K : List Dg} {x : Dg} (h : ltD y x) : placeO (y :: K) x = placeO K x + 1 := by
  unfold placeO
  rw [List.takeWhile_cons, show lessL y.1 x.1 = true from h]
  rfl
theorem place_here {y : Dg} {K : List Dg} {x : Dg} (h : ¬ ltD y x) : placeO (y :: K) x = 0 := by
  unfold placeO
  rw [List.takeWhile_cons, show lessL y.1 x.1 = false by simpa [ltD] using h]
  rfl
theorem lookM_cons (p : Dg × List UInt8) (M : Blobs) (x : Dg) : lookM (p :: M) x = if p.1 = x then some p.2 else lookM M x := by
  unfold lookM
  rw [List.find?_cons]
  by_cases h : p.1 = x
  · rw [beq_iff_eq.2 h, if_pos h]; rfl
  · rw [beq_eq_false_iff_ne.2 h, if_neg h]
theorem lookM_none {M : Blobs} {x : Dg} (h : x ∉ M.map (·.1)) : lookM M x = none := by
  induction M with
  | nil => rfl
  | cons p M ih =>
    rw [List.map_cons, List.mem_cons, not_or] at h
    rw [lookM_cons, if_neg (Ne.symm h.1), ih h.2]
theorem lookM_mem {M : Blobs} {x : Dg} (h : x ∈ M.map (·.1)) : (lookM M x).isSome = true := by
  induction M with
  | nil => cases h
  | cons p M ih =>
    rw [lookM_cons]
    by_cases e : p.1 = x
    · rw [if_pos e]; rfl
    · rw [if_neg e]
      rw [List.map_cons, List.mem_cons] at h
      exact ih (h.resolve_left (Ne.symm e))
theorem lookM_isSome (M : Blobs) (x : Dg) : (lookM M x).isSome = true ↔ x ∈ M.map (·.1) := by
  constructor
  · intro h
    exact Classical.byContradiction fun q => by rw [lookM_none q] at h; cases h
  · exact lookM_mem
theorem lookM_iff {M : Blobs} (hn : (M.map (·.1)).Nodup) (x : Dg) (v : List UInt8) : lookM M x = some v ↔ (x, v) ∈ M := by
  induction M with
  | nil => simp [lookM]
  | cons p M ih =>
    rw [List.map_cons, List.nodup_cons] at hn
    rw [lookM_cons, List.mem_cons]
    by_cases e : p.1 = x
    · rw [if_pos e]
      constructor
      · intro h; left; rw [← e, ← Option.some.inj h]
      · rintro (h | h)
        · rw [← h]
        · exact absurd (List.mem_map.2 ⟨(x, v), h, e.symm⟩) hn.1
    · rw [if_neg e, ih hn.2]
      constructor
      · exact .inr
      · rintro (h | h)
        · exact absurd (by rw [← h]) e
        · exact h
theorem lookM_perm {M R : Blobs} (hn : (M.map (·.1)).Nodup) (p : R.Perm M) (x : Dg) : lookM R x = lookM M x := by
  have hr : (R.map (·.1)).Nodup := (p.map _).nodup_iff.2 hn
  exact Option.ext fun v => by rw [lookM_iff hr, lookM_iff hn, p.mem_iff]
/-- The document's look-up is the plain one. -/
theorem hit_look {R : Blobs} (hs : Rises (R.map (·.1))) (x : Dg) : hitO R x = (lookM R x).isSome ∧ (hitO R x = true → lookM R x = some (atO R x)) := by
  unfold hitO atO
  induction R with
  | nil => exact ⟨rfl, fun h => by cases h⟩
  | cons p R ih =>
    rw [List.map_cons] at hs ⊢
    have hs' := List.pairwise_cons.1 hs
    obtain ⟨i1, i2⟩ := ih hs'.2
    rw [lookM_cons]
    by_cases hlt : ltD p.1 x
    · have hne : p.1 ≠ x := fun e => ltD_irrefl x (by rw [e] at hlt; exact hlt)
      rw [if_neg hne, place_cons hlt]
      have e1 : decide (placeO (R.map (·.1)) x + 1 < (p :: R).length) = decide (placeO (R.map (·.1)) x < R.length) := decide_eq_decide.2 (by rw [List.length_cons]; omega)
      rw [e1]
      exact ⟨i1, i2⟩
    · rw [place_here hlt]
      by_cases e : p.1 = x
      · rw [if_pos e]
        exact ⟨by simp [e], fun _ => rfl⟩
      · rw [if_neg e]
        have hnone : lookM R x = none := lookM_none fun hm => by
          have := hs'.1 x hm
          exact hlt this
        rw [hnone]
        have e2 : (((p.1 :: R.map (·.1)).getD 0 zD == x) : Bool) = false := beq_eq_false_iff_ne.2 e
        rw [e2, Bool.and_false]
        exact ⟨rfl, fun h => by cases h⟩
theorem place_take {K : List Dg} (x : Dg) : ∀ a ∈ K.take (placeO K x), ltD a x := by
  induction K with
  | nil => intro a h; simp at h
  | cons y K ih =>
    intro a ha
    by_cases h : ltD y x
    · rw [place_cons h, List.take_succ_cons] at ha
      rcases List.mem_cons.1 ha with rfl | ha
      · exact h
      · exact ih a ha
    · rw [place_here h] at ha
      simp at ha
theorem place_drop {K : List Dg} (hs : Rises K) (x : Dg) (hx : x ∉ K) : ∀ a ∈ K.drop (placeO K x), ltD x a := by
  induction K with
  | nil => intro a h; simp at h
  | cons y K ih =>
    intro a ha
    have hs' := List.pairwise_cons.1 hs
    rw [List.mem_cons, not_or] at hx
    by_cases h : ltD y x
    · rw [place_cons h, List.drop_succ_cons] at ha
      exact ih hs'.2 hx.2 a ha
    · rw [place_here h, List.drop_zero] at ha
      have hxy := ltD_total h (Ne.symm hx.1)
      rcases List.mem_cons.1 ha with rfl | ha
      · exact hxy
      · exact ltD_trans hxy (hs'.1 a ha)
theorem rises_insert {K : List Dg} (hs : Rises K) (x : Dg) (hx : x ∉ K) : Rises (K.take (placeO K x) ++ x :: K.drop (placeO K x)) := by
  have h1 : Rises (K.take (placeO K x) ++ K.drop (placeO K x)) := by rw [List.take_append_drop]; exact hs
  obtain ⟨q1, q2, q3⟩ := List.pairwise_append.1 h1
  refine List.pairwise_append.2 ⟨q1, List.pairwise_cons.2 ⟨place_drop hs x hx, q2⟩, fun a ha b hb => ?_⟩
  rcases List.mem_cons.1 hb with rfl | hb
  · exact place_take b a ha
  · exact q3 a ha b hb
theorem tot_perm {M R : Blobs} (p : R.Perm M) : tot R = tot M := by
  induction p with
  | nil => rfl
  | cons x _ ih => rw [tot, tot, ih]
  | swap x y l => simp only [tot]; omega
  | trans _ _ h1 h2 => rw [h1, h2]
/-- The program's store and the document's have the same blobs. -/
structure Rel (M R : Blobs) : Prop where
  perm : R.Perm M
  rises : Rises (R.map (·.1))
theorem Rel.nodup {M R : Blobs} (h : Rel M R) : (M.map (·.1)).Nodup := (h.perm.map _).nodup_iff.1 h.rises.nodup
theorem Rel.nil : Rel [] [] := ⟨List.Perm.nil, List.Pairwise.nil⟩
theorem Rel.look {M R : Blobs} (h : Rel M R) (x : Dg) : lookM R x = lookM M x := lookM_perm h.nodup h.perm x
theorem Rel.hit {M R : Blobs} (h : Rel M R) (x : Dg) : hitO R x = (lookM M x).isSome := by rw [(hit_look h.rises x).1, h.look]
theorem Rel.at {M R : Blobs} (h : Rel M R) (x : Dg) : (if hitO R x = true then atO R x else []) = (lookM M x).getD [] := by
  rw [← h.look]
  by_cases hh : hitO R x = true
  · rw [if_pos hh, (hit_look h.rises x).2 hh]; rfl
  · rw [if_neg hh]
    have := (hit_look h.rises x).1
    cases hq : lookM R x with
    | none => rfl
    | some v => rw [hq] at this; exact absurd this hh
theorem Rel.size {M R : Blobs} (h : Rel M R) (x : Dg) : (if hitO R x = true then ((atO R x).length : Int) else -1) = sizeO M x := by
  unfold sizeO
  rw [← h.look]
  by_cases hh : hitO R x = true
  · rw [if_pos hh, (hit_look h.rises x).2 hh]
  · rw [if_neg hh]
    have := (hit_look h.rises x).1
    cases hq : lookM R x with
    | none => rfl
    | some v => rw [hq] at this; exact absurd this hh
theorem Rel.put {M R : Blobs} (h : Rel M R) (room : Int) (xs : List UInt8) : Rel (putO room M xs).1 (putRO room R xs).1 ∧ (putO room M xs).2 = (putRO room R xs).2 := by
  unfold putO putRO
  rw [h.hit, tot_perm h.perm]
  by_cases h1 : (lookM M (shaD xs)).isSome = true
  · rw [if_pos h1, if_pos h1]
    exact ⟨h, rfl⟩
  · rw [if_neg h1, if_neg h1]
    by_cases h2 : (xs.length : Int) > room - tot M
    · rw [if_pos h2, if_pos (by omega)]
      exact ⟨h, rfl⟩
    · rw [if_neg h2, if_neg (by omega)]
      have hx : shaD xs ∉ R.map (·.1) := fun hm => h1 (by rw [lookM_isSome]; exact ((h.perm.map _).mem_iff).1 hm)
      refine ⟨⟨?_, ?_⟩, rfl⟩
      · refine List.perm_middle.trans ?_
        rw [List.take_append_drop]
        refine ((List.Perm.cons _ h.perm)).trans ?_
        exact (List.perm_append_singleton _ _).symm
      · have := rises_insert h.rises (shaD xs) hx
        rw [List.map_append, List.map_cons, List.map_take, List.map_drop]
        exact this
/-- What is put is there. -/
theorem put_len (room : Int) (M : Blobs) (xs : List UInt8) : (putO room M xs).1.length ≤ M.length + 1 := by
  unfold putO
  split
  · simp
  · split <;> simp
theorem put_tot (room : Int) (M : Blobs) (xs : List UInt8) (h : (tot M : Int) ≤ room) : (tot (putO room M xs).1 : Int) ≤ room := by
  unfold putO
  split
  · exact h
  · split
    · exact h
    · rw [tot_append]; simp only [tot]; omega
end Go.Proofs.Ytklelhfgbjpifaa
/-! A store's blobs, put one by one: what stays true of them. -/
namespace Go.Proofs.Ytklelhfgbjpifaa
set_option linter.unnecessarySimpa false
set_option linter.unusedSimpArgs false
set_option linter.unusedVariables false
open Go.RowKit
theorem roomO_0 (r : Int) : 0 ≤ roomO r := by
  unfold roomO
  split <;> omega
theorem roomO_top (r : Int) : roomO r ≤ 1073741824 := by
  unfold roomO
  split <;> (split <;> omega)
theorem mem_tot {M : Blobs} {p : Dg × List UInt8} (h : p ∈ M) : p.2.length ≤ tot M := by
  induction M with
  | nil => cases h
  | cons q M ih =>
    rw [tot]
    rcases List.mem_cons.1 h with rfl | h
    · omega
    · have := ih h; omega
/-- Blobs that may stand in a store of this room, k at most. -/
structure Good (room : Int) (M : Blobs) (k : Nat) : Prop where
  len : M.length ≤ k
  nodup : (M.map (·.1)).Nodup
  fits : (tot M : Int) ≤ room
  own : ∀ p ∈ M, p.1 = shaD p.2
theorem Good.nil {room : Int} (h : 0 ≤ room) : Good room [] 0 := ⟨Nat.le_refl _, List.nodup_nil, h, fun _ h => by cases h⟩
theorem Good.more {room : Int} {M : Blobs} {k k' : Nat} (h : Good room M k) (hk : k ≤ k') : Good room M k' := ⟨Nat.le_trans h.len hk, h.nodup, h.fits, h.own⟩
theorem Good.put {room : Int} {M : Blobs} {k : Nat} (h : Good room M k) (xs : List UInt8) : Good room (putO room M xs).1 (k + 1) := by
  refine ⟨Nat.le_trans (put_len room M xs) (by have := h.len; omega), ?_, put_tot room M xs h.fits, ?_⟩
  · unfold putO
    by_cases h1 : (lookM M (shaD xs)).isSome = true
    · rw [if_pos h1]; exact h.nodup
    · rw [if_neg h1]
      split
      · exact h.nodup
      · rw [List.map_append, List.nodup_append]
        refine ⟨h.nodup, by simp, fun a ha b hb e => h1 ?_⟩
        have hb' : b = shaD xs := by simpa using hb
        rw [lookM_isSome, ← hb', ← e]
        exact ha
  · unfold putO
    split
    · exact h.own
    · split
      · exact h.own
      · intro p hp
        rcases List.mem_append.1 hp with hp | hp
        · exact h.own p hp
        · have : p = (shaD xs, xs) := by simpa using hp
          rw [this]
theorem Good.small {room : Int} {M : Blobs} {k : Nat} (h : Good room M k) (hr : room ≤ 1073741824) : ∀ p ∈ M, p.2.length ≤ 140737488355328 := fun p hp => by
  have h1 := mem_tot hp
  have h2 := h.fits
  omega
theorem Bel.ex2 {N s b : Nat} {h h1 h2 : Heap} (x : Bel N h h1) (y : Ex2 s b h1 h2) (hN : N ≤ h.size) (hs : N ≤ s) (hb : N ≤ b) : Bel N h h2 := ⟨Nat.le_trans x.size y.size, fun j hj => (y.old j (by have := x.size; omega) (by omega) (by omega)).trans (x.old j hj)⟩
theorem lens_mem {l : List (Option Addr × Nat × List UInt8)} {k : Nat} {b : Option Addr} {c : Nat} {xs : List UInt8} (h : l[k]? = some (b, c, xs)) : xs.length ≤ lens l := by
  have h1 := lens_take l h
  have h2 := lens_take_le l (k + 1)
  omega
theorem few_of {l : List (Option Addr × Nat × List UInt8)} (h : fewO l = true) : l.length ≤ 40 ∧ lens l ≤ 2000 := by
  unfold fewO at h
  rw [Bool.and_eq_true, decide_eq_true_eq, decide_eq_true_eq] at h
  exact h
/-- The keys, in order. -/
theorem keys_rise {room : Int} {M : Blobs} {k : Nat} (h : Good room M k) {ks : List Dg} (p : ks.Perm (M.map (·.1))) (s : ks.Pairwise (fun x y => lessL y.1 x.1 = false)) : Rises ks := rises_of s (p.nodup_iff.2 h.nodup)
theorem Dgs.at' {h : Heap} {a : Option Addr} {l : List Dg} (x : Dgs h a l) {k : Nat} (hk : k < l.length) : ∃ sb so, a = some ⟨sb, so, none⟩ ∧ ∀ i v, (encD (l.getD k zD))[i]? = some v → cellH h sb (so + k * 32 + i) = some v := x.at hk
theorem rises_at {K : List Dg} (h : Rises K) {i j : Nat} (hij : i < j) (hj : j < K.length) : lessL (K.getD i zD).1 (K.getD j zD).1 = true := by
  have := List.pairwise_iff_getElem.1 h i j (by omega) hj hij
  rw [List.getD_eq_getElem?_getD, List.getD_eq_getElem?_getD, List.getElem?_eq_getElem hj, List.getElem?_eq_getElem (show i < K.length by omega)]
  exact this
theorem put_ok {room : Int} {M M' : Blobs} {xs : List UInt8} {d : Dg} {e : Int} (hp : putO room M xs = (M', d, e)) : (e == 0) = (decide ((tot M : Int) + xs.length ≤ room) || (lookM M (shaD xs)).isSome) := by
  unfold putO at hp
  by_cases h1 : (lookM M (shaD xs)).isSome = true
  · rw [if_pos h1] at hp
    cases hp
    rw [h1, Bool.or_true]
    rfl
  · rw [if_neg h1] at hp
    have h1' : (lookM M (shaD xs)).isSome = false := by simpa using h1
    rw [h1', Bool.or_false]
    by_cases h2 : (xs.length : Int) > room - tot M
    · rw [if_pos h2] at hp
      cases hp
      rw [decide_eq_false (by omega)]
      rfl
    · rw [if_neg h2] at hp
      cases hp
      rw [decide_eq_true (by omega)]
      rfl
/-- The sizes of blobs, added up. -/
def szs (M : Blobs) (l : List Dg) : Int := (l.map (sizeO M)).sum
theorem szs_cons (M : Blobs) (x : Dg) (l : List Dg) : szs M (x :: l) = sizeO M x + szs M l := by unfold szs; rw [List.map_cons, List.sum_cons]
theorem szs_append (M : Blobs) (l m : List Dg) : szs M (l ++ m) = szs M l + szs M m := by
  induction l with
  | nil => simp [szs]
  | cons x l ih => rw [List.cons_append, szs_cons, szs_cons, ih]; omega
theorem szs_perm (M : Blobs) {l m : List Dg} (p : l.Perm m) : szs M l = szs M m := by
  induction p with
  | nil => rfl
  | cons x _ ih => rw [szs_cons, szs_cons, ih]
  | swap x y l => rw [szs_cons, szs_cons, szs_cons, szs_cons]; omega
  | trans _ _ h1 h2 => rw [h1, h2]
theorem size_in {M : Blobs} {x : Dg} (h : x ∈ M.map (·.1)) : 0 ≤ sizeO M x := by
  have := lookM_mem h
  unfold sizeO
  cases hq : lookM M x with
  | none => rw [hq] at this; cases this
  | some v => exact Int.natCast_nonneg _
theorem szs_nonneg {M : Blobs} {l : List Dg} (h : ∀ x ∈ l, x ∈ M.map (·.1)) : 0 ≤ szs M l := by
  induction l with
  | nil => exact Int.le_refl _
  | cons x l ih =>
    rw [szs_cons]
    have h1 := size_in (h x (List.mem_cons_self ..))
    have h2 := ih fun y hy => h y (List.mem_cons_of_mem _ hy)
    omega
theorem szs_other (p : Dg × List UInt8) (M : Blobs) (l : List Dg) (h : p.1 ∉ l) : szs (p :: M) l = szs M l := by
  induction l with
  | nil => rfl
  | cons x l ih =>
    rw [List.mem_cons, not_or] at h
    rw [szs_cons, szs_cons, ih h.2]
    unfold sizeO
    rw [lookM_cons, if_neg h.1]
theorem szs_all {M : Blobs} (hn : (M.map (·.1)).Nodup) : szs M (M.map (·.1)) = tot M := by
  induction M with
  | nil => rfl
  | cons p M ih =>
    rw [List.map_cons, List.nodup_cons] at hn
    rw [List.map_cons, szs_cons, szs_other _ _ _ hn.1, ih hn.2]
    unfold sizeO
    rw [lookM_cons, if_pos rfl, tot]
    simp
theorem szs_take (M : Blobs) (l : List Dg) {k : Nat} (hk : k < l.length) : szs M (l.take (k + 1)) = szs M (l.take k) + sizeO M (l.getD k zD) := by
  rw [List.take_succ_eq_append_getElem hk, szs_append, szs_cons]
  rw [List.getD_eq_getElem?_getD, List.getElem?_eq_getElem hk]
  simp [szs]
theorem szs_take_le {M : Blobs} {l : List Dg} (h : ∀ x ∈ l, x ∈ M.map (·.1)) (k : Nat) : szs M (l.take k) ≤ szs M l := by
  conv => rhs; rw [← List.take_append_drop k l, szs_append]
  have := szs_nonneg (M := M) (l := l.drop k) fun x hx => h x (List.mem_of_mem_drop hx)
  omega
end Go.Proofs.Ytklelhfgbjpifaa
