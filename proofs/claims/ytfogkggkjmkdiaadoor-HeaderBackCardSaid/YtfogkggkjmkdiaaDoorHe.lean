/- header.Print; Sealed; onionskinref06.lay. -/
import Derived.Test.YtfogkggkjmkdiaaDoorHd
import Derived.Test.YtfogkggkjmkdiaaDoorChain
namespace Go.Proofs.YtfogkggkjmkdiaaDoor
set_option linter.unnecessarySimpa false
set_option linter.unusedSimpArgs false
set_option linter.unusedVariables false
open Go.RowKit
theorem sl_at (b lo cap : Nat) (h : cap ≠ lo) : (if cap = lo then (some ⟨b, 0, none⟩ : Option Addr) else (some ⟨b, 0, none⟩ : Option Addr).map (·.add (lo * 1))) = some ⟨b, lo, none⟩ := by
  rw [if_neg h, Option.map_some, addr_add, Nat.zero_add, Nat.mul_one]
theorem over_two (xs y z : List UInt8) (o p : Nat) (h : o + y.length + z.length ≤ xs.length) (hp : p = o + y.length) : over (over xs o y) p z = over xs o (y ++ z) := by
  subst hp
  apply List.ext_getElem?
  intro i
  rw [over_get _ _ _ (by rw [over_len _ _ _ (by omega)]; omega), over_get _ _ _ (by omega), over_get _ _ _ (by rw [List.length_append]; omega), List.length_append]
  by_cases h1 : o + y.length ≤ i ∧ i < o + y.length + z.length
  · rw [if_pos h1, if_pos (by omega), List.getElem?_append_right (by omega)]
    congr 1
    omega
  · rw [if_neg h1]
    by_cases h2 : o ≤ i ∧ i < o + y.length
    · rw [if_pos h2, if_pos (by omega), List.getElem?_append_left (by omega)]
    · rw [if_neg h2, if_neg (by omega)]
theorem drop_seg_to (xs : List UInt8) (lo : Nat) : seg xs lo xs.length = xs.drop lo := drop_seg xs lo
theorem zeros_eq : List.replicate 512 (0 : UInt8) = zeros := rfl
/-- Sealed. -/
theorem sealed_ch (h : Heap) (xs : List UInt8) (a : Option Addr) (cap : Nat) (hsrc : Byt h a xs) (hcap : xs.length ≤ cap) (hlen : xs.length < 4611686018427387904) :
    CH Tryd.prog 23 #[.slice a xs.length cap] h fun v h' => v = .slice (some ⟨h.size, 0, none⟩) 512 512 ∧ h'[h.size]? = some (.cells ((sealO xs).map B8).toArray 5 (0, 0)) ∧ Ext h h' := by
  refine CH.of_body Tryd.func23 rfl rfl rfl ?_
  intro f hf
  have p0 : f 0 = .slice a xs.length cap := by rw [hf]; exact fr0_at rfl
  -- region 0
  repeat refine HW.seq ?_
  refine HW.region ?_
  refine HL.still (Runs.assign rfl) ?_
  intro u2 e2
  refine HL.nil ?_
  -- region 1
  repeat refine HW.seq ?_
  refine HW.region ?_
  refine HL.one (HO.makeB Tryd.underlying22 in5 rfl rfl (n := 512) (by decide) ?_)
  intro h2 w2
  intro u6 e6
  refine HL.still (Runs.assign e6) ?_
  intro u3 e3
  refine HL.nil ?_
  have z2 := w2.size
  rw [zeros_eq] at w2
  -- region 2
  repeat refine HW.seq ?_
  refine HW.region ?_
  refine HL.still (Runs.move e3) ?_
  intro u7 e7
  refine HL.still (Runs.move p0) ?_
  intro u8 e8
  refine HL.one (HO.copyB Tryd.underlying22 sz5 e7 e8 rfl (hsrc.ext w2.ext) w2.new (by rw [zeros_len]; omega) ?_)
  intro h3 w3
  intro u9 e9
  refine HL.nil ?_
  obtain ⟨X, hX⟩ : ∃ X, X = over zeros 0 (xs.take 512) := ⟨_, rfl⟩
  have hXl : X.length = 512 := by rw [hX, over_len _ _ _ (by rw [List.length_take, zeros_len]; omega), zeros_len]
  have hb3 := w3.new
  rw [← hX] at hb3
  have E3 : Ext h h3 := w2.ext.wr w3 (Nat.le_refl _)
  have z3 := w3.size
  -- region 3
  repeat refine HW.seq ?_
  refine HW.region ?_
  refine HL.still (Runs.move e3) ?_
  intro u11 e11
  refine HL.one (HO.call Tryd.func18 bd18 nm18 (args1 e11) rfl ((check_n h3 X _ _ _ hXl.symm (byt_block hb3) (by omega)).mono ?_))
  rintro _ h4 ⟨rfl, hh4⟩
  intro u12 e12
  refine HL.one (HO.call Tryd.func16 bd16 nm16 (args2 e12 rfl) rfl ((write_ch h4 (checkO X) 7).mono ?_))
  rintro _ h5 ⟨aw, cw, rfl, bw, kw, E5⟩
  intro u13 e13
  refine HL.still (Runs.move e13) ?_
  intro u10 e10
  refine HL.still (Runs.extr e10 rfl) ?_
  intro u14 e14
  refine HL.still (Runs.extr e10 rfl) ?_
  intro u15 e15
  refine HL.still (Runs.assign e14) ?_
  intro u4 e4
  refine HL.still (Runs.assign e15) ?_
  intro u5 e5
  refine HL.nil ?_
  rw [hh4] at E5
  have hb5 := E5.keepE hb3
  have g4 : u4 = .slice aw (sum7 X).length cw := e4
  have l7 := sum7_len X hXl
  -- region 4
  repeat refine HW.seq ?_
  refine HW.region ?_
  refine HL.still (Runs.move e3) ?_
  intro u16 e16
  refine HL.still (Runs.sliceSl Tryd.underlying22 sz5 e16 (lo := 148) (hi := 512) ⟨_, rfl⟩ rfl (by omega) (by omega) (sl_at _ _ _ (by omega))) ?_
  intro u17 e17
  refine HL.still (Runs.move g4) ?_
  intro u18 e18
  refine HL.one (HO.copyB Tryd.underlying22 sz5 e17 e18 rfl bw hb5 (by omega) ?_)
  intro h6 w6
  intro u19 e19
  refine HL.nil ?_
  have hb6 := w6.new
  rw [show (sum7 X).take (512 - 148) = sum7 X from List.take_of_length_le (show (sum7 X).length ≤ 364 by omega)] at hb6
  -- region 5
  repeat refine HW.seq ?_
  refine HW.region ?_
  refine HL.still (Runs.move e3) ?_
  intro u20 e20
  refine HL.still (Runs.assign e20) ?_
  intro u2 e2
  refine HL.nil ?_
  refine HW.ret ?_
  refine RT.one rfl e2 ⟨rfl, ?_, (E3.ext E5 (Nat.le_refl _)).wr w6 (Nat.le_refl _)⟩
  rw [hb6, sealO, ← hX]
/-- onionskinref06.lay. -/
theorem lay0_ch (h : Heap) (xs ys : List UInt8) (a b : Option Addr) (cap cap2 n at' : Nat) (hx : Byt h a xs) (hcap : xs.length ≤ cap) (hy : Byt h b ys) (hn : n = ys.length) (ho : at' + ys.length ≤ xs.length) (hlen : xs.length ≤ 100000) :
    CH Tryd.prog 43 #[.slice a xs.length cap, .int .i64 (at' : Int), .slice b n cap2] h fun v h' => ∃ a' c', v = .slice a' xs.length c' ∧ Byt h' a' (over xs at' ys) ∧ xs.length ≤ c' ∧ Ext h h' := by
  subst hn
  refine CH.of_body Tryd.func43 rfl rfl rfl ?_
  intro f hf
  have p0 : f 0 = .slice a xs.length cap := by rw [hf]; exact fr0_at rfl
  have p1 : f 1 = .int .i64 (at' : Int) := by rw [hf]; exact fr0_at rfl
  have p2 : f 2 = .slice b ys.length cap2 := by rw [hf]; exact fr0_at rfl
  have l1 := seg_len xs 0 at' (by omega)
  have l2 := seg_len xs (at' + ys.length) xs.length (Nat.le_refl _)
  -- region 0
  repeat refine HW.seq ?_
  refine HW.region ?_
  refine HL.still (Runs.assign rfl) ?_
  intro u6 e6
  refine HL.nil ?_
  -- region 1
  repeat refine HW.seq ?_
  refine HW.region ?_
  refine HL.one (HO.bytes0 ?_)
  intro h2 w2
  intro u8 e8
  refine HL.still (Runs.move p0) ?_
  intro u9 e9
  refine HL.still (Runs.move p1) ?_
  intro u10 e10
  refine HL.still (Runs.sliceSl Tryd.underlying22 sz5 e9 (lo := 0) (hi := at') rfl ⟨_, e10⟩ (Nat.zero_le _) (by omega) rfl) ?_
  intro u11 e11
  refine HL.one (HO.app Tryd.underlying22 in5 rfl e8 e11 rfl l1.symm (Bs.lit (xs := []) w2 (Nat.le_refl _) (Nat.zero_le _)) ((hx.ext w2.ext).seg 0 at' hcap (Nat.zero_le _) (by omega) rfl) (by simp; omega) (by rw [w2.size]; omega) ?_)
  intro a3 c3 h3 B3 G3
  intro u12 e12
  refine HL.still (Runs.assign e12) ?_
  intro u7 e7
  refine HL.nil ?_
  have X3 : Ext h h3 := G3.bel w2.ext (Bs.lit (xs := []) w2 (Nat.le_refl _) (Nat.zero_le _)) (Nat.le_refl _) (Nat.le_refl _)
  have l3 : ([] ++ seg xs 0 at').length = at' := by rw [List.nil_append]; omega
  -- region 2
  repeat refine HW.seq ?_
  refine HW.region ?_
  refine HL.still (Runs.move e7) ?_
  intro u13 e13
  refine HL.still (Runs.move p2) ?_
  intro u14 e14
  refine HL.one (HO.app Tryd.underlying22 in5 rfl e13 e14 rfl rfl B3 (hy.ext X3) (by rw [l3]; omega) X3.size ?_)
  intro a4 c4 h4 B4 G4
  intro u15 e15
  refine HL.still (Runs.assign e15) ?_
  intro u7 e7
  refine HL.nil ?_
  have X4 : Ext h h4 := G4.bel X3 B3 (Nat.le_refl _) (Nat.le_refl _)
  have l4 : ([] ++ seg xs 0 at' ++ ys).length = at' + ys.length := by rw [List.length_append, l3]
  -- region 3
  repeat refine HW.seq ?_
  refine HW.region ?_
  refine HL.still (Runs.move e7) ?_
  intro u16 e16
  refine HL.still (Runs.move p0) ?_
  intro u17 e17
  refine HL.still (Runs.move p1) ?_
  intro u18 e18
  refine HL.still (Runs.move p2) ?_
  intro u19 e19
  refine HL.still (Runs.lenSl rfl Tryd.underlying22 e19) ?_
  intro u20 e20
  refine HL.still (Runs.add e18 e20 (i64w (by omega))) ?_
  intro u21 e21
  refine HL.still (Runs.sliceSl Tryd.underlying22 sz5 e17 (lo := at' + ys.length) (hi := xs.length) ⟨_, e21.trans (congrArg (Value.int .i64) (by omega))⟩ rfl (by omega) hcap rfl) ?_
  intro u22 e22
  refine HL.one (HO.app Tryd.underlying22 in5 rfl e16 e22 rfl l2.symm B4 ((hx.ext X4).seg _ _ hcap (by omega) (Nat.le_refl _) rfl) (by rw [l4]; omega) X4.size ?_)
  intro a5 c5 h5 B5 G5
  intro u23 e23
  refine HL.still (Runs.assign e23) ?_
  intro u6 e6
  refine HL.nil ?_
  have X5 : Ext h h5 := G5.bel X4 B4 (Nat.le_refl _) (Nat.le_refl _)
  have hov : [] ++ seg xs 0 at' ++ ys ++ seg xs (at' + ys.length) xs.length = over xs at' ys := by
    rw [List.nil_append, drop_seg_to]
    rfl
  rw [hov] at B5 e6
  have hol := over_len xs at' ys ho
  refine HW.ret ?_
  refine RT.one rfl e6 ⟨a5, c5, by rw [hol], B5.byt, by rw [← hol]; exact B5.2, X5⟩
theorem lay_ch' (h : Heap) (xs ys : List UInt8) (a b : Option Addr) (m cap cap2 n at' : Nat) (i : Int) (hm : m = xs.length) (hx : Byt h a xs) (hcap : xs.length ≤ cap) (hy : Byt h b ys) (hn : n = ys.length) (hi : i = (at' : Int)) (ho : at' + ys.length ≤ xs.length) (hlen : xs.length = 512) :
    CH Tryd.prog 43 #[.slice a m cap, .int .i64 i, .slice b n cap2] h fun v h' => ∃ a' c', v = .slice a' 512 c' ∧ Byt h' a' (over xs at' ys) ∧ (over xs at' ys).length = 512 ∧ 512 ≤ c' ∧ Ext h h' := by
  subst hm hi
  refine (lay0_ch h xs ys a b cap cap2 n at' hx hcap hy hn ho (by omega)).mono fun v h' ⟨a', c', q1, q2, q3, q4⟩ => ⟨a', c', by rw [q1, hlen], q2, by rw [over_len _ _ _ ho, hlen], by omega, q4⟩
/-! ### header.Print -/
/-- The block with its first k numbers. -/
def body0 (x : Hd) : List UInt8 := over (over (over (over zeros 0 x.name) 157 x.link) 257 magic) 156 [x.typ]
theorem plc_cell {h : Heap} (p : Plc h) {k : Nat} (hk : k < 7) : cellH h 0 (2 * k) = some (I64 ((fAt.getD k 0 : Nat) : Int)) ∧ cellH h 0 (2 * k + 1) = some (I64 ((fSz.getD k 0 : Nat) : Int)) := by
  have hp := plc_load p
  constructor
  · have := hp (2 * k) (I64 ((fAt.getD k 0 : Nat) : Int)) (by rcases k with _ | _ | _ | _ | _ | _ | _ | k <;> first | rfl | omega)
    rwa [Nat.zero_add] at this
  · have := hp (2 * k + 1) (I64 ((fSz.getD k 0 : Nat) : Int)) (by rcases k with _ | _ | _ | _ | _ | _ | _ | k <;> first | rfl | omega)
    rwa [Nat.zero_add] at this
theorem nums_at (x : Hd) {k : Nat} (hk : k < 7) : (x.nums.map I64).toArray[((k : Nat) : Int).toNat]? = some (I64 (x.nums.getD k 0)) := by
  rw [Int.toNat_natCast]
  exact toArray_map I64 x.nums k 0 hk
theorem wrsOk_no {x : Hd} {k n : Nat} (h : wrsOk x k = false) (hk : k ≤ n) : wrsOk x n = false := by
  induction n with
  | zero => have : k = 0 := by omega
            subst this; exact h
  | succ n ih =>
    by_cases e : k = n + 1
    · subst e; exact h
    · rw [wrsOk, ih (by omega), Bool.false_and]
theorem printO_no {x : Hd} (h : okO x = false) : printO x = ([], false) := by
  unfold printO
  rw [h, if_neg (by decide)]
theorem printO_yes {x : Hd} (h : okO x = true) : printO x = (blk x, true) := by
  unfold printO
  rw [h, if_pos rfl]
/-- What header.Print gives back. -/
def GivesP (h : Heap) (x : Hd) (v : Value) (h' : Heap) : Prop :=
  (okO x = false ∧ v = .tuple #[.slice none 0 0, .bool false] ∧ Ext h h') ∨
  (okO x = true ∧ ∃ b, h.size ≤ b ∧ v = .tuple #[.slice (some ⟨b, 0, none⟩) 512 512, .bool true] ∧ h'[b]? = some (.cells ((blk x).map B8).toArray 5 (0, 0)) ∧ Ext h h')
set_option maxRecDepth 10000 in
theorem print_ch (h : Heap) (x : Hd) (hP : Plc h) (hn : x.name.length ≤ maxLen) (hk : x.link.length ≤ maxLen) : CH Tryd.prog 26 #[.agg x.cells.toArray] h (GivesP h x) := by
  refine CH.of_body Tryd.func26 rfl rfl rfl ?_
  intro f hf
  have p0 : f 0 = .agg x.cells.toArray := by rw [hf]; exact fr0_at rfl
  -- region 0
  repeat refine HW.seq ?_
  refine HW.region ?_
  refine HL.one (HO.box p0 ?_)
  intro h1 w1
  intro u1 e1
  refine HL.still (Runs.assign rfl) ?_
  intro u2 e2
  refine HL.still (Runs.assign rfl) ?_
  intro u3 e3
  refine HL.nil ?_
  have z1 := w1.size
  have X1 : Ext h h1 := w1.ext
  repeat refine HW.seq ?_
  refine HW.mono (N := fun f' g => g = h1 ∧ f' 18 = .bool (longO x.name || longO x.link) ∧ f' 1 = .pointer (some ⟨h.size, 0, none⟩)) ?_ ?_ (fun _ _ _ h => h) (fun _ _ h => h)
  · cases hl1 : longO x.name with
    | true =>
      -- region 1
      repeat refine HW.seq ?_
      refine HW.region ?_
      refine HL.still (Runs.fld (o' := 0) Tryd.underlying36 rfl sz9 (by decide) e1 (by rfl)) ?_
      intro u11 e11
      refine HL.still (Runs.load Tryd.underlying9 rfl e11 ((cellH_of w1.new 0).trans rfl)) ?_
      intro u12 e12
      refine HL.one (HO.call Tryd.func41 bd41 nm41 (args1 e12) rfl ((long_ch h1 x.name hn).mono ?_))
      rintro _ h2 ⟨rfl, hh2⟩
      intro u13 e13
      refine HL.still (Runs.move (e13.trans (congrArg Value.bool hl1))) ?_
      intro u14 e14
      refine HL.skipG rfl rfl e14 ?_
      intro u15 e15
      refine HL.skipG rfl rfl e14 ?_
      intro u16 e16
      refine HL.skipG rfl rfl e14 ?_
      intro u17 e17
      refine HL.still (Runs.pick e14 rfl) ?_
      intro u18 e18
      refine HL.nil ?_
      exact ⟨hh2, e18, e1⟩
    | false =>
      -- region 1
      repeat refine HW.seq ?_
      refine HW.region ?_
      refine HL.still (Runs.fld (o' := 0) Tryd.underlying36 rfl sz9 (by decide) e1 (by rfl)) ?_
      intro u11 e11
      refine HL.still (Runs.load Tryd.underlying9 rfl e11 ((cellH_of w1.new 0).trans rfl)) ?_
      intro u12 e12
      refine HL.one (HO.call Tryd.func41 bd41 nm41 (args1 e12) rfl ((long_ch h1 x.name hn).mono ?_))
      rintro _ h2 ⟨rfl, hh2⟩
      intro u13 e13
      refine HL.still (Runs.move (e13.trans (congrArg Value.bool hl1))) ?_
      intro u14 e14
      refine HL.stillG rfl rfl e14 (Runs.fld (o' := 7) Tryd.underlying36 rfl sz9 (by decide) e1 (by rfl)) ?_
      intro u15 e15
      refine HL.stillG rfl rfl e14 (Runs.load Tryd.underlying9 rfl e15 ((cellH_of (hh2 ▸ w1.new) 7).trans rfl)) ?_
      intro u16 e16
      refine HL.oneG rfl rfl e14 (HO.call Tryd.func41 bd41 nm41 (args1 e16) rfl ((long_ch h2 x.link hk).mono ?_))
      rintro _ h3 ⟨rfl, hh3⟩
      intro u17 e17
      refine HL.still (Runs.pick e14 e17) ?_
      intro u18 e18
      refine HL.nil ?_
      exact ⟨by rw [hh3, hh2], e18, e1⟩
  clear e1 e2 e3
  rintro f g ⟨hg, f18, f1⟩
  subst hg
  cases hlo : (longO x.name || longO x.link) with
  | true =>
    rw [hlo] at f18
    repeat refine HW.seq ?_
    refine HW.yes f18 ?_
    -- region 2
    repeat refine HW.seq ?_
    refine HW.region ?_
    refine HL.still (Runs.assign rfl) ?_
    intro u2 e2
    refine HL.still (Runs.assign rfl) ?_
    intro u3 e3
    refine HL.nil ?_
    refine HW.ret ?_
    refine RT.two rfl e2 e3 (.inl ⟨?_, rfl, X1⟩)
    unfold okO
    rw [hlo]
    rfl
  | false =>
  rw [hlo] at f18
  repeat refine HW.seq ?_
  refine HW.no f18 ?_
  refine HW.skip ?_
  have hl12 := Bool.or_eq_false_iff.1 hlo
  have ln := (longO_no hl12.1).1
  have ll := (longO_no hl12.2).1
  have hm := magic_len
  have hzl := zeros_len
  -- region 3
  repeat refine HW.seq ?_
  refine HW.region ?_
  refine HL.one (HO.makeB Tryd.underlying22 in5 rfl rfl (n := 512) (by decide) ?_)
  intro h2 w2
  intro u19 e19
  refine HL.still (Runs.assign e19) ?_
  intro u4 e4
  refine HL.nil ?_
  have z2 := w2.size
  rw [zeros_eq] at w2
  have hA2 := w2.keep w1.new
  -- region 4
  repeat refine HW.seq ?_
  refine HW.region ?_
  refine HL.still (Runs.move e4) ?_
  intro u20 e20
  refine HL.still (Runs.fld (o' := 0) Tryd.underlying36 rfl sz9 (by decide) f1 (by rfl)) ?_
  intro u21 e21
  refine HL.still (Runs.load Tryd.underlying9 rfl e21 ((cellH_of hA2 0).trans rfl)) ?_
  intro u22 e22
  refine HL.one (HO.copyS Tryd.underlying22 sz5 e20 e22 w2.new (by rw [zeros_len]; omega) (by omega) ?_)
  intro h3 w3
  intro u23 e23
  refine HL.nil ?_
  have z3 := w3.size
  have hA3 := w3.keep hA2 (by omega)
  have l3 : (over zeros 0 x.name).length = 512 := nameOver_len ln
  -- region 5
  repeat refine HW.seq ?_
  refine HW.drawTail 4 mixed (by kernel_rfl) ?_
  refine HS.still (Runs.move e4) ?_
  intro u24 e24
  refine HS.still (Runs.sliceSl Tryd.underlying22 sz5 e24 (lo := 157) (hi := 512) ⟨_, rfl⟩ rfl (by omega) (by omega) (sl_at _ _ _ (by omega))) ?_
  intro u25 e25
  refine HS.still (Runs.fld (o' := 7) Tryd.underlying36 rfl sz9 (by decide) f1 (by rfl)) ?_
  intro u26 e26
  refine HS.still (Runs.load Tryd.underlying9 rfl e26 ((cellH_of hA3 7).trans rfl)) ?_
  intro u27 e27
  refine HS.nil ?_
  refine HL.one (HO.copyS Tryd.underlying22 sz5 e25 e27 w3.new (by omega) (by omega) ?_)
  intro h4 w4
  intro u28 e28
  refine HL.nil ?_
  have z4 := w4.size
  have hA4 := w4.keep hA3 (by omega)
  have l4 : (over (over zeros 0 x.name) 157 x.link).length = 512 := by rw [over_len _ _ _ (by omega), l3]
  -- region 6
  repeat refine HW.seq ?_
  refine HW.region ?_
  refine HL.still (Runs.move e4) ?_
  intro u29 e29
  refine HL.still (Runs.sliceSl Tryd.underlying22 sz5 e29 (lo := 257) (hi := 512) ⟨_, rfl⟩ rfl (by omega) (by omega) (sl_at _ _ _ (by omega))) ?_
  intro u30 e30
  refine HL.one (HO.copyS Tryd.underlying22 sz5 e30 rfl (ys := magic) w4.new (by omega) (by omega) ?_)
  intro h5 w5
  intro u31 e31
  refine HL.nil ?_
  have z5 := w5.size
  have hA5 := w5.keep hA4 (by omega)
  have l5 : (over (over (over zeros 0 x.name) 157 x.link) 257 magic).length = 512 := by rw [over_len _ _ _ (by omega), l4]
  -- region 7
  repeat refine HW.seq ?_
  refine HW.region ?_
  refine HL.still (Runs.move e4) ?_
  intro u32 e32
  refine HL.still (Runs.fld (o' := 6) Tryd.underlying36 rfl sz5 (by decide) f1 (by rfl)) ?_
  intro u33 e33
  refine HL.still (Runs.load Tryd.underlying5 rfl e33 ((cellH_of hA5 6).trans (show _ = some (B8 x.typ) from rfl))) ?_
  intro u34 e34
  refine HL.still (Runs.ixSl (o' := 156) Tryd.underlying22 sz5 e32 rfl (by omega) (by omega) (by omega)) ?_
  intro u35 e35
  refine HL.zero (HO.store (s := 1) sz5 e35 e34 rfl w5.new (by rw [List.length_map, l5]; omega) rfl ?_)
  intro h6 w6
  refine HL.nil ?_
  have z6 := w6.size
  have hA6 := w6.keep hA5 (by omega)
  have hb6 := w6.new
  rw [← List.map_set, set_over _ _ _ (by omega)] at hb6
  have l6 : (over (over (over (over zeros 0 x.name) 157 x.link) 257 magic) 156 [x.typ]).length = 512 := by rw [over_len _ _ _ (by rw [one_len]; omega), l5]
  have X6 : Ext h h6 := ((((X1.nw w2 (Nat.le_refl _)).wr w3 (by omega)).wr w4 (by omega)).wr w5 (by omega)).wr w6 (by omega)
  -- region 8
  repeat refine HW.seq ?_
  refine HW.region ?_
  refine HL.still (Runs.fld (o' := 1) Tryd.underlying36 rfl sz3 (by decide) f1 (by rfl)) ?_
  intro u36 e36
  refine HL.still (Runs.load Tryd.underlying3 rfl e36 ((cellH_of hA6 1).trans rfl)) ?_
  intro u37 e37
  refine HL.still (Runs.fld (o' := 2) Tryd.underlying36 rfl sz3 (by decide) f1 (by rfl)) ?_
  intro u38 e38
  refine HL.still (Runs.load Tryd.underlying3 rfl e38 ((cellH_of hA6 2).trans rfl)) ?_
  intro u39 e39
  refine HL.still (Runs.fld (o' := 3) Tryd.underlying36 rfl sz3 (by decide) f1 (by rfl)) ?_
  intro u40 e40
  refine HL.still (Runs.load Tryd.underlying3 rfl e40 ((cellH_of hA6 3).trans rfl)) ?_
  intro u41 e41
  refine HL.still (Runs.fld (o' := 4) Tryd.underlying36 rfl sz3 (by decide) f1 (by rfl)) ?_
  intro u42 e42
  refine HL.still (Runs.load Tryd.underlying3 rfl e42 ((cellH_of hA6 4).trans rfl)) ?_
  intro u43 e43
  refine HL.still (Runs.fld (o' := 5) Tryd.underlying36 rfl sz3 (by decide) f1 (by rfl)) ?_
  intro u44 e44
  refine HL.still (Runs.load Tryd.underlying3 rfl e44 ((cellH_of hA6 5).trans rfl)) ?_
  intro u45 e45
  refine HL.still (Runs.fld (o' := 8) Tryd.underlying36 rfl sz3 (by decide) f1 (by rfl)) ?_
  intro u46 e46
  refine HL.still (Runs.load Tryd.underlying3 rfl e46 ((cellH_of hA6 8).trans rfl)) ?_
  intro u47 e47
  refine HL.still (Runs.fld (o' := 9) Tryd.underlying36 rfl sz3 (by decide) f1 (by rfl)) ?_
  intro u48 e48
  refine HL.still (Runs.load Tryd.underlying3 rfl e48 ((cellH_of hA6 9).trans rfl)) ?_
  intro u49 e49
  refine HL.still (Runs.build7 x.mode x.uid x.gid x.size x.mtime x.major x.minor e37 e39 e41 e43 e45 e47 e49) ?_
  intro u50 e50
  refine HL.still (Runs.move rfl) ?_
  intro u51 e51
  refine HL.nil ?_
  obtain ⟨B0, hB0⟩ : ∃ B, B = body0 x := ⟨_, rfl⟩
  have hB0' : over (over (over (over zeros 0 x.name) 157 x.link) 257 magic) 156 [x.typ] = B0 := by rw [hB0]; rfl
  rw [hB0'] at hb6 l6
  repeat refine HW.seq ?_
  refine HW.block ?_
  refine HW.loop (fun m f u => ∃ k : Nat, k ≤ 7 ∧ m = 7 - k ∧ f 51 = I64 k ∧ f 50 = .agg (x.nums.map I64).toArray ∧ f 4 = .slice (some ⟨g.size, 0, none⟩) 512 512 ∧ wrsOk x k = true ∧ Ext h u ∧ u[g.size]? = some (.cells ((numOver x B0 k).map B8).toArray 5 (0, 0))) 7
    ⟨0, Nat.zero_le _, rfl, e51, e50, e4, rfl, X6, hb6⟩ ?_
  clear e4 e50 e51 hb6
  rintro m f u ⟨k, hk, hm, f51, f50, f4, hok, hX, hb⟩
  have hul := lt_of_some hb
  have hnl := numOver_len hok hk l6
  by_cases hlt : k < 7
  · have hat := at_sz k hlt
    have hPu := hP.ext hX
    -- region 9
    repeat refine HW.seq ?_
    refine HW.region ?_
    refine HL.still (Runs.lss f51 rfl rfl) ?_
    intro u52 e52
    refine HL.nil ?_
    repeat refine HW.seq ?_
    refine HW.yes ?_ ?_
    exact e52.trans (congrArg Value.bool (decide_eq_true (by omega)))
    refine HW.skip ?_
    repeat refine HW.seq ?_
    refine HW.block ?_
    -- region 10
    repeat refine HW.seq ?_
    refine HW.region ?_
    refine HL.still (Runs.move f51) ?_
    intro u53 e53
    refine HL.still (Runs.ixAgg Tryd.underlying52 Tryd.underlying3 rfl sz3 f50 f51 (by omega) (by omega) (nums_at x hlt)) ?_
    intro u54 e54
    refine HL.still (Runs.assign e53) ?_
    intro u5 e5
    refine HL.still (Runs.assign e54) ?_
    intro u6 e6
    refine HL.nil ?_
    -- region 11
    repeat refine HW.seq ?_
    refine HW.region ?_
    refine HL.still (Runs.move e6) ?_
    intro u56 e56
    refine HL.still (Runs.move e5) ?_
    intro u57 e57
    refine HL.still (Runs.ixArr (o' := 2 * k) Tryd.underlying55 sz54 rfl e57 (by omega) (by omega) (by omega)) ?_
    intro u58 e58
    refine HL.still (Runs.fld (o' := 2 * k + 1) Tryd.underlying54 rfl sz3 (by decide) e58 (by first | rfl | omega)) ?_
    intro u59 e59
    refine HL.still (Runs.load Tryd.underlying3 rfl e59 (plc_cell hPu hlt).2) ?_
    intro u60 e60
    refine HL.one (HO.call Tryd.func16 bd16 nm16 (args2 e56 e60) rfl ((write_ch u (x.nums.getD k 0) ((fSz.getD k 0 : Nat) : Int)).mono ?_))
    rintro _ h8 ⟨aw, cw, rfl, bw, kw, E8⟩
    intro u61 e61
    refine HL.still (Runs.move e61) ?_
    intro u55 e55
    refine HL.still (Runs.extr e55 rfl) ?_
    intro u62 e62
    refine HL.still (Runs.extr e55 rfl) ?_
    intro u63 e63
    refine HL.still (Runs.assign e62) ?_
    intro u7 e7
    refine HL.still (Runs.assign e63) ?_
    intro u8 e8
    refine HL.nil ?_
    have g8 : u8 = .bool (wrOk x k) := e8
    have g7 : u7 = .slice aw (wr x k).length cw := e7
    cases hw : wrOk x k with
    | false =>
      rw [hw] at g8
      -- region 12
      repeat refine HW.seq ?_
      refine HW.region ?_
      refine HL.still (Runs.move g8) ?_
      intro u64 e64
      refine HL.still (Runs.notb e64 (u := true) rfl) ?_
      intro u65 e65
      refine HL.nil ?_
      repeat refine HW.seq ?_
      refine HW.yes ?_ ?_
      exact e65
      -- region 13
      repeat refine HW.seq ?_
      refine HW.region ?_
      refine HL.still (Runs.assign rfl) ?_
      intro u2 e2
      refine HL.still (Runs.assign rfl) ?_
      intro u3 e3
      refine HL.nil ?_
      refine HW.ret ?_
      refine RT.two rfl e2 e3 (.inl ⟨?_, rfl, hX.ext E8 (Nat.le_refl _)⟩)
      unfold okO
      rw [wrsOk_no (k := k + 1) (n := 7) (by rw [wrsOk, hw, Bool.and_false]) (by omega), Bool.and_false]
    | true =>
      rw [hw] at g8
      have hwl := wr_len x k hw
      have hb8 := E8.keepE hb
      -- region 12
      repeat refine HW.seq ?_
      refine HW.region ?_
      refine HL.still (Runs.move g8) ?_
      intro u64 e64
      refine HL.still (Runs.notb e64 (u := false) rfl) ?_
      intro u65 e65
      refine HL.nil ?_
      repeat refine HW.seq ?_
      refine HW.no ?_ ?_
      exact e65
      refine HW.skip ?_
      -- region 14
      repeat refine HW.seq ?_
      refine HW.region ?_
      refine HL.still (Runs.move f4) ?_
      intro u66 e66
      refine HL.still (Runs.move e5) ?_
      intro u67 e67
      refine HL.still (Runs.ixArr (o' := 2 * k) Tryd.underlying55 sz54 rfl e67 (by omega) (by omega) (by omega)) ?_
      intro u68 e68
      refine HL.still (Runs.fld (o' := 2 * k) Tryd.underlying54 rfl sz3 (by decide) e68 (by first | rfl | omega)) ?_
      intro u69 e69
      refine HL.still (Runs.load Tryd.underlying3 rfl e69 (plc_cell (hPu.ext E8) hlt).1) ?_
      intro u70 e70
      refine HL.still (Runs.sliceSl Tryd.underlying22 sz5 e66 (lo := fAt.getD k 0) (hi := 512) ⟨_, e70⟩ rfl (by omega) (by omega) (sl_at _ _ _ (by omega))) ?_
      intro u71 e71
      refine HL.still (Runs.move g7) ?_
      intro u72 e72
      refine HL.one (HO.copyB Tryd.underlying22 sz5 e71 e72 rfl bw hb8 (by omega) ?_)
      intro h9 w9
      intro u73 e73
      refine HL.nil ?_
      have hb9 := w9.new
      rw [show (wr x k).take (512 - fAt.getD k 0) = wr x k from List.take_of_length_le (by omega)] at hb9
      -- region 15
      repeat refine HW.seq ?_
      refine HW.region ?_
      refine HL.still (Runs.add f51 rfl (i64w (by omega))) ?_
      intro u74 e74
      refine HL.still (Runs.move e74) ?_
      intro u51 e51
      refine HL.nil ?_
      exact ⟨7 - (k + 1), by omega, k + 1, by omega, rfl, e51, f50, f4, by rw [wrsOk, hok, hw]; rfl, (hX.ext E8 (Nat.le_refl _)).wr w9 (by omega), hb9⟩
  have hk7 : k = 7 := by omega
  subst hk7
  have hbd : numOver x B0 7 = body x := by rw [hB0]; rfl
  rw [hbd] at hb hnl
  -- region 9
  repeat refine HW.seq ?_
  refine HW.region ?_
  refine HL.still (Runs.lss f51 rfl rfl) ?_
  intro u52 e52
  refine HL.nil ?_
  repeat refine HW.seq ?_
  refine HW.no ?_ ?_
  exact e52.trans (congrArg Value.bool (decide_eq_false (by omega)))
  refine HW.exitHere ?_
  -- region 16
  repeat refine HW.seq ?_
  refine HW.region ?_
  refine HL.still (Runs.move f4) ?_
  intro u76 e76
  refine HL.one (HO.call Tryd.func18 bd18 nm18 (args1 e76) rfl ((check_n u (body x) _ _ _ hnl.symm (byt_block hb) (by omega)).mono ?_))
  rintro _ h8 ⟨rfl, hh8⟩
  intro u77 e77
  refine HL.one (HO.call Tryd.func16 bd16 nm16 (args2 e77 rfl) rfl ((writeB_ch h8 (checkO (body x)) 7).mono ?_))
  rintro _ h9 ⟨aw, cw, rfl, Bw, E9⟩
  intro u78 e78
  refine HL.still (Runs.move e78) ?_
  intro u75 e75
  refine HL.still (Runs.extr e75 rfl) ?_
  intro u79 e79
  refine HL.still (Runs.extr e75 rfl) ?_
  intro u80 e80
  refine HL.still (Runs.assign e79) ?_
  intro u9 e9
  refine HL.still (Runs.assign e80) ?_
  intro u10 e10
  refine HL.nil ?_
  rw [hh8] at E9 Bw
  have hb9 := E9.keepE hb
  have z9 := E9.size
  have s7 := sum7_len (body x) hnl
  have Bw' : Bs h9 u.size 5 aw cw (sum7 (body x)) := Bw
  have g9 : u9 = .slice aw (sum7 (body x)).length cw := e9
  have ht8 : List.take (512 - 148) (sum7 (body x) ++ [32]) = sum7 (body x) ++ [32] := List.take_of_length_le (by rw [List.length_append, s7, one_len]; omega)
  have hl8 : (sum7 (body x) ++ [32]).length = 8 := by rw [List.length_append, s7, one_len]
  have hX9 : Ext h h9 := hX.ext E9 (Nat.le_refl _)
  have hXs := hX.size
  obtain ⟨Pt, hPt⟩ : ∃ Pt : Nat → Value → Value → Heap → Prop, Pt = fun t y z hh => (t = 0 → hh = h9) ∧ (t = 4 → y = .slice (some ⟨h9.size, 0, none⟩) 1 1 ∧ Nw h9 hh (.cells ([32].map B8).toArray 5 (0, 0))) ∧
    (t = 5 → (∃ a c, z = .slice a (sum7 (body x) ++ [32]).length c ∧ Byt hh a (sum7 (body x) ++ [32])) ∧ hh[g.size]? = some (.cells ((body x).map B8).toArray 5 (0, 0)) ∧ Ext h hh) ∧
    (t = 6 → hh[g.size]? = some (.cells ((blk x).map B8).toArray 5 (0, 0)) ∧ Ext h hh) := ⟨_, rfl⟩
  have hC : ∀ j, j < 3 → decide (3 ≤ j) = false := fun j hj => decide_eq_false (by omega)
  repeat refine HW.seq ?_
  refine HW.chain #[0, 1, 0, 0, 12, 31] (fun i => decide (3 ≤ i)) (fun t f hh => Pt t (f 84) (f 85) hh) mixed (by kernel_rfl) (by kernel_rfl) ?_ ?_ ?_
  · rw [hPt]
    exact ⟨fun _ => rfl, fun q => by omega, fun q => by omega, fun q => by omega⟩
  · intro t f hh d v i o ho hc hd hΨ
    have hi : i < 3 := by have := of_decide_eq_false hc; omega
    have hdd : d ≠ 84 ∧ d ≠ 85 := by
      rcases i with _ | _ | _ | i
      · cases ho; cases hd; decide
      · cases ho; cases hd; decide
      · cases ho; cases hd; decide
      · omega
    show Pt t (upd f d v 84) (upd f d v 85) hh
    rw [upd_ne _ _ _ _ (Ne.symm hdd.1), upd_ne _ _ _ _ (Ne.symm hdd.2)]
    exact hΨ
  refine HM3.still rfl (fun f h K => Runs.move ((K.keep (by kernel_rfl)).trans f4)) ?_
  refine HM3.still rfl (fun f h K => Runs.sliceSl Tryd.underlying22 sz5 (K.at 0 81 rfl rfl rfl) (lo := 148) (hi := 512) ⟨_, rfl⟩ rfl (by omega) (by omega) (sl_at _ _ _ (by omega))) ?_
  refine HM3.still rfl (fun f h K => Runs.move ((K.keep (by kernel_rfl)).trans g9)) ?_
  refine HM3.turn 0 rfl ⟨by decide, fun j _ hj => hC j hj, .inl rfl⟩ (fun f hh K hΨ => ?_) ?_
  · rw [hPt] at hΨ
    obtain rfl := hΨ.1 rfl
    refine HO.bytes1 32 rfl fun h' w v hv => ?_
    show Pt 4 (upd f 84 v 84) (upd f 84 v 85) h'
    rw [hPt, upd_eq, hv]
    exact ⟨fun q => by omega, fun _ => ⟨rfl, w⟩, fun q => by omega, fun q => by omega⟩
  refine HM3.turn 4 rfl ⟨by decide, fun j h1 h2 => by omega, .inr rfl⟩ (fun f hh K hΨ => ?_) ?_
  · rw [hPt] at hΨ
    obtain ⟨q84, w10⟩ := hΨ.2.1 rfl
    have z10 := w10.size
    refine HO.app Tryd.underlying22 in5 rfl (K.at 2 83 rfl rfl rfl) q84 rfl rfl (Bw'.ext w10.ext) (byt_block w10.new) (by rw [s7]; simp) (by omega) fun a11 c11 h11 B11 G11 v hv => ?_
    show Pt 5 (upd f 85 v 84) (upd f 85 v 85) h11
    rw [hPt, upd_eq, hv]
    refine ⟨fun q => by omega, fun q => by omega, fun _ => ⟨⟨a11, c11, rfl, B11.byt⟩, (G11.old (Bw'.ext w10.ext) hul (by omega)).trans (w10.keep hb9), G11.bel (hX9.nw w10 (Nat.le_refl _)) (Bw'.ext w10.ext) hXs (Nat.le_refl _)⟩, fun q => by omega⟩
  refine HM3.turn 5 rfl ⟨by decide, fun j h1 h2 => by omega, .inr rfl⟩ (fun f hh K hΨ => ?_) ?_
  · rw [hPt] at hΨ
    obtain ⟨⟨a11, c11, q85, hB11⟩, hbk, hX11⟩ := hΨ.2.2.1 rfl
    refine HO.copyB Tryd.underlying22 sz5 (K.at 1 82 rfl rfl rfl) q85 rfl hB11 hbk (by omega) fun h12 w12 v hv => ?_
    show Pt 6 (upd f 86 v 84) (upd f 86 v 85) h12
    rw [hPt]
    have hnew := w12.new
    rw [ht8] at hnew
    exact ⟨fun q => by omega, fun q => by omega, fun q => by omega, fun _ => ⟨hnew, hX11.wr w12 (by omega)⟩⟩
  intro f' h12 t ht hΨ V O
  have ht6 := ht.eq (s := 6) ⟨by decide, fun j h1 h2 => by simp at h2; omega, .inr rfl⟩
  subst ht6
  rw [hPt] at hΨ
  obtain ⟨hb12, X12⟩ := hΨ.2.2.2 rfl
  have f4' : f' 4 = _ := (last_keep O (by kernel_rfl)).trans f4
  -- region 18
  repeat refine HW.seq ?_
  refine HW.region ?_
  refine HL.still (Runs.move f4') ?_
  intro u87 e87
  refine HL.still (Runs.assign e87) ?_
  intro u2 e2
  refine HL.still (Runs.assign rfl) ?_
  intro u3 e3
  refine HL.nil ?_
  refine HW.ret ?_
  refine RT.two rfl e2 e3 (.inr ⟨?_, g.size, by omega, rfl, hb12, X12⟩)
  unfold okO
  rw [hlo, hok]
  rfl
end Go.Proofs.YtfogkggkjmkdiaaDoor
