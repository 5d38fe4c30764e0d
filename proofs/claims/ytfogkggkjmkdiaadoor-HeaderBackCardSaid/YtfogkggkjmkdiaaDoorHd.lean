/- onionskinref06.Parse. -/
import Derived.Test.YtfogkggkjmkdiaaDoorHc
namespace Go.Proofs.YtfogkggkjmkdiaaDoor
set_option linter.unnecessarySimpa false
set_option linter.unusedSimpArgs false
set_option linter.unusedVariables false
open Go.RowKit
def fAtC : List Value := [I64 100, I64 108, I64 116, I64 124, I64 136, I64 329, I64 337]
def fSzC : List Value := [I64 8, I64 8, I64 8, I64 12, I64 12, I64 8, I64 8]
theorem fAtC_at : ∀ k, k < 7 → fAtC[k]? = some (I64 ((fAt.getD k 0 : Nat) : Int)) := by
  intro k hk
  rcases k with _ | _ | _ | _ | _ | _ | _ | k <;> first | rfl | omega
theorem fSzC_at : ∀ k, k < 7 → fSzC[k]? = some (I64 ((fSz.getD k 0 : Nat) : Int)) := by
  intro k hk
  rcases k with _ | _ | _ | _ | _ | _ | _ | k <;> first | rfl | omega
theorem cell_list {h : Heap} {b : Nat} {l : List Value} {t : TypeId} {fr : Nat × Nat} (hb : h[b]? = some (.cells l.toArray t fr)) {k : Nat} {v : Value} (hv : l[k]? = some v) : cellH h b k = some v := by
  rw [cellH_of hb]
  simpa using hv
theorem one_C : (∀ v ∈ fAtC, v.oneCell' = true) ∧ (∀ v ∈ fSzC, v.oneCell' = true) := by
  constructor <;> (intro v hv; simp only [fAtC, fSzC, List.mem_cons, List.not_mem_nil, or_false] at hv; rcases hv with rfl | rfl | rfl | rfl | rfl | rfl | rfl <;> rfl)
theorem one_nk (xs : List UInt8) (k : Nat) : ∀ v ∈ nk xs k, v.oneCell' = true := by
  intro v hv
  unfold nk at hv
  obtain ⟨j, _, rfl⟩ := List.mem_map.1 hv
  split <;> rfl
/-- What the numbers are told as. -/
def numsV (xs : List UInt8) : List Value := if numsOk xs 7 = true then nk xs 7 else List.replicate 7 (I64 0)
theorem numsV_len (xs : List UInt8) : (numsV xs).length = 7 := by
  unfold numsV
  split
  · exact nk_len _ _
  · rfl
theorem one_numsV (xs : List UInt8) : ∀ v ∈ numsV xs, v.oneCell' = true := by
  unfold numsV
  split
  · exact one_nk _ _
  · intro v hv
    rw [(List.mem_replicate.1 hv).2]
    rfl
set_option maxRecDepth 10000 in
theorem numbers_ch (h : Heap) (xs : List UInt8) (a : Option Addr) (cap : Nat) (hsrc : Byt h a xs) (hcap : xs.length ≤ cap) (hl : xs.length = 512) :
    CH Tryd.prog 37 #[.slice a xs.length cap] h fun v h' => v = .tuple #[.agg (numsV xs).toArray, .bool (numsOk xs 7)] ∧ Ext h h' := by
  refine CH.of_body Tryd.func37 rfl rfl rfl ?_
  intro f hf
  have p0 : f 0 = .slice a xs.length cap := by rw [hf]; exact fr0_at rfl
  -- region 0
  repeat refine HW.seq ?_
  refine HW.region ?_
  refine HL.one (HO.alloc zr52 ?_)
  intro h2 w2
  intro u2 e2
  refine HL.still (Runs.assign rfl) ?_
  intro u3 e3
  refine HL.nil ?_
  -- region 1
  repeat refine HW.seq ?_
  refine HW.region ?_
  refine HL.still (Runs.build7 100 108 116 124 136 329 337 rfl rfl rfl rfl rfl rfl rfl) ?_
  intro u10 e10
  refine HL.one (HO.alloc zr52 ?_)
  intro h4 w4
  intro u4 e4
  refine HL.zero (HO.storeAll sz52 e4 e10 one_C.1 w4.new rfl rfl ?_)
  intro h5 w5
  refine HL.nil ?_
  -- region 2
  repeat refine HW.seq ?_
  refine HW.region ?_
  refine HL.still (Runs.build7 8 8 8 12 12 8 8 rfl rfl rfl rfl rfl rfl rfl) ?_
  intro u11 e11
  refine HL.one (HO.alloc zr52 ?_)
  intro h6 w6
  intro u5 e5
  refine HL.zero (HO.storeAll sz52 e5 e11 one_C.2 w6.new rfl rfl ?_)
  intro h7 w7
  refine HL.nil ?_
  -- region 3
  repeat refine HW.seq ?_
  refine HW.region ?_
  refine HL.one (HO.alloc zr52 ?_)
  intro h8 w8
  intro u6 e6
  refine HL.nil ?_
  -- region 4
  repeat refine HW.seq ?_
  refine HW.region ?_
  refine HL.still (Runs.assign rfl) ?_
  intro u7 e7
  refine HL.nil ?_
  have z2 := w2.size
  have z4 := w4.size
  have z5 := w5.size
  have z6 := w6.size
  have z7 := w7.size
  have z8 := w8.size
  have X4 : Ext h2 h5 := w4.ext.wr w5 (by omega)
  have X6 : Ext h5 h7 := w6.ext.wr w7 (by omega)
  have hb2 : h8[h.size]? = some (.cells (List.replicate 7 (I64 0)).toArray 52 (0, 0)) := w8.keep (X6.keepE (X4.keepE w2.new))
  have hb4 : h8[h2.size]? = some (.cells fAtC.toArray 52 (0, 0)) := w8.keep (X6.keepE w5.new)
  have hb5 : h8[h5.size]? = some (.cells fSzC.toArray 52 (0, 0)) := w8.keep w7.new
  have hX8 : Ext h h8 := ((w2.ext.ext X4 (Nat.le_refl _)).ext X6 (Nat.le_refl _)).nw w8 (Nat.le_refl _)
  repeat refine HW.seq ?_
  refine HW.block ?_
  refine HW.loop (fun m f g => ∃ k : Nat, k ≤ 7 ∧ m = 7 - k ∧ f 7 = I64 k ∧ f 0 = .slice a xs.length cap ∧ f 2 = .pointer (some ⟨h.size, 0, none⟩) ∧ f 4 = .pointer (some ⟨h2.size, 0, none⟩) ∧ f 5 = .pointer (some ⟨h5.size, 0, none⟩) ∧ f 6 = .pointer (some ⟨h7.size, 0, none⟩) ∧ numsOk xs k = true ∧ Ext h g ∧ g[h.size]? = some (.cells (List.replicate 7 (I64 0)).toArray 52 (0, 0)) ∧ g[h2.size]? = some (.cells fAtC.toArray 52 (0, 0)) ∧ g[h5.size]? = some (.cells fSzC.toArray 52 (0, 0)) ∧ g[h7.size]? = some (.cells (nk xs k).toArray 52 (0, 0))) 7
    ⟨0, Nat.zero_le _, rfl, e7, p0, e2, e4, e5, e6, rfl, hX8, hb2, hb4, hb5, w8.new⟩ ?_
  clear e2 e3 e4 e5 e6 e7 hb2 hb4 hb5
  rintro m f g ⟨k, hk, hm, f7, f0, f2, f4, f5, f6, hok, hX, hb2, hb4, hb5, hb6⟩
  by_cases hlt : k < 7
  · have hat := at_sz k hlt
    have hfl : (fld xs k).length = fAt.getD k 0 + fSz.getD k 0 - fAt.getD k 0 := seg_len xs _ _ (by omega)
    -- region 5
    repeat refine HW.seq ?_
    refine HW.region ?_
    refine HL.still (Runs.move f7) ?_
    intro u12 e12
    refine HL.still (Runs.lss e12 rfl rfl) ?_
    intro u13 e13
    refine HL.nil ?_
    repeat refine HW.seq ?_
    refine HW.yes ?_ ?_
    exact e13.trans (congrArg Value.bool (decide_eq_true (by omega)))
    refine HW.skip ?_
    repeat refine HW.seq ?_
    refine HW.block ?_
    -- region 7
    repeat refine HW.seq ?_
    refine HW.grow #[0, 0, 2, 6, 0, 16, 48, 0, 128, 384, 1008, 2047, 4095, 8191, 16383, 16383, 32767, 131071] (Mk g.size) mixed (by kernel_rfl) (Mk.refl _) Mk.trans ?_
    refine HM.still (Mk.refl _) (fun f h K => Runs.move ((K.keep (by kernel_rfl)).trans f0)) ?_
    refine HM.still (Mk.refl _) (fun f h K => Runs.move ((K.keep (by kernel_rfl)).trans f7)) ?_
    refine HM.still (Mk.refl _) (fun f h K => Runs.ixArr (o' := k) Tryd.underlying52 sz3 ((K.keep (by kernel_rfl)).trans f4) (K.at 1 18 rfl rfl) (by omega) (by omega) (by omega)) ?_
    refine HM.still (Mk.refl _) (fun f h K => Runs.load Tryd.underlying3 rfl (K.at 2 19 rfl rfl) (K.grown.cell (cell_list hb4 (fAtC_at k hlt)))) ?_
    refine HM.still (Mk.refl _) (fun f h K => Runs.move ((K.keep (by kernel_rfl)).trans f7)) ?_
    refine HM.still (Mk.refl _) (fun f h K => Runs.ixArr (o' := k) Tryd.underlying52 sz3 ((K.keep (by kernel_rfl)).trans f4) (K.at 4 21 rfl rfl) (by omega) (by omega) (by omega)) ?_
    refine HM.still (Mk.refl _) (fun f h K => Runs.load Tryd.underlying3 rfl (K.at 5 22 rfl rfl) (K.grown.cell (cell_list hb4 (fAtC_at k hlt)))) ?_
    refine HM.still (Mk.refl _) (fun f h K => Runs.move ((K.keep (by kernel_rfl)).trans f7)) ?_
    refine HM.still (Mk.refl _) (fun f h K => Runs.ixArr (o' := k) Tryd.underlying52 sz3 ((K.keep (by kernel_rfl)).trans f5) (K.at 7 24 rfl rfl) (by omega) (by omega) (by omega)) ?_
    refine HM.still (Mk.refl _) (fun f h K => Runs.load Tryd.underlying3 rfl (K.at 8 25 rfl rfl) (K.grown.cell (cell_list hb5 (fSzC_at k hlt)))) ?_
    refine HM.still (Mk.refl _) (fun f h K => Runs.add (K.at 6 23 rfl rfl) (K.at 9 26 rfl rfl) (i64w (by omega))) ?_
    refine HM.still (Mk.refl _) (fun f h K => Runs.sliceSl Tryd.underlying22 sz5 (K.at 0 17 rfl rfl) (lo := fAt.getD k 0) (hi := fAt.getD k 0 + fSz.getD k 0) ⟨_, K.at 3 20 rfl rfl⟩ ⟨_, (K.at 10 27 rfl rfl).trans (congrArg (Value.int .i64) (by omega))⟩ (by omega) (by omega) rfl) ?_
    refine HM.one (fun x _ => x = _) (fun _ _ _ _ e => e) (fun f h K => HO.call Tryd.func15 bd15 nm15 (args1 (K.at 11 28 rfl rfl)) rfl (((rread_n h (fld xs k) _ _ _ hfl.symm (((hsrc.ext hX).mk K.grown).seg _ _ hcap (by omega) (by omega) rfl) (by omega)).same).mono fun _ _ q => ⟨Mk.of_ext q.2 K.grown.size, q.1⟩)) ?_
    refine HM.still (Mk.refl _) (fun f h K => Runs.move (K.at 12 29 rfl rfl)) ?_
    refine HM.still (Mk.refl _) (fun f h K => Runs.extr (K.at 13 16 rfl rfl) rfl) ?_
    refine HM.still (Mk.refl _) (fun f h K => Runs.extr (K.at 13 16 rfl rfl) rfl) ?_
    refine HM.still (Mk.refl _) (fun f h K => Runs.assign (K.at 14 30 rfl rfl)) ?_
    refine HM.still (Mk.refl _) (fun f h K => Runs.assign (K.at 15 31 rfl rfl)) ?_
    intro f' g1 hR V O
    have hE := hR.ext rfl
    have g9 : f' 9 = .bool (numOk xs k) := last_at V 17 9 rfl
    have g8 : f' 8 = I64 (num xs k) := last_at V 16 8 rfl
    have f0 : f' 0 = _ := (last_keep O (by kernel_rfl)).trans f0
    have f2 : f' 2 = _ := (last_keep O (by kernel_rfl)).trans f2
    have f4 : f' 4 = _ := (last_keep O (by kernel_rfl)).trans f4
    have f5 : f' 5 = _ := (last_keep O (by kernel_rfl)).trans f5
    have f6 : f' 6 = _ := (last_keep O (by kernel_rfl)).trans f6
    have f7 : f' 7 = _ := (last_keep O (by kernel_rfl)).trans ((upd_ne _ _ _ _ (by decide)).trans ((upd_ne _ _ _ _ (by decide)).trans f7))
    have hb2 := hE.keepE hb2
    have hb4 := hE.keepE hb4
    have hb5 := hE.keepE hb5
    have hb6 := hE.keepE hb6
    have hX := hX.ext hE (Nat.le_refl _)
    cases hn : numOk xs k with
    | false =>
      rw [hn] at g9
      have hno : numsOk xs 7 = false := numsOk_no (k := k + 1) (by rw [numsOk, hn, Bool.and_false]) (by omega)
      -- region 8
      repeat refine HW.seq ?_
      refine HW.region ?_
      refine HL.still (Runs.move g9) ?_
      intro u32 e32
      refine HL.still (Runs.notb e32 (u := true) rfl) ?_
      intro u33 e33
      refine HL.nil ?_
      repeat refine HW.seq ?_
      refine HW.yes ?_ ?_
      exact e33
      -- region 9
      repeat refine HW.seq ?_
      refine HW.region ?_
      refine HL.still Runs.buildZ7 ?_
      intro u34 e34
      refine HL.zero (HO.storeAll sz52 f2 e34 (by intro v hv; rw [(List.mem_replicate.1 hv).2]; rfl) hb2 rfl rfl ?_)
      intro h9 w9
      refine HL.still (Runs.assign rfl) ?_
      intro u3 e3
      refine HL.nil ?_
      refine HW.ret ?_
      refine RT.cellTmp rfl f2 e3 w9.new Tryd.underlying52 rfl sz52 rfl ⟨?_, hX.wr w9 (Nat.le_refl _)⟩
      unfold numsV
      rw [hno, if_neg (by decide)]
    | true =>
      rw [hn] at g9
      -- region 8
      repeat refine HW.seq ?_
      refine HW.region ?_
      refine HL.still (Runs.move g9) ?_
      intro u32 e32
      refine HL.still (Runs.notb e32 (u := false) rfl) ?_
      intro u33 e33
      refine HL.nil ?_
      repeat refine HW.seq ?_
      refine HW.no ?_ ?_
      exact e33
      refine HW.skip ?_
      -- region 10
      repeat refine HW.seq ?_
      refine HW.region ?_
      refine HL.still (Runs.move f7) ?_
      intro u35 e35
      refine HL.still (Runs.move g8) ?_
      intro u36 e36
      refine HL.still (Runs.ixArr (o' := k) Tryd.underlying52 sz3 f6 e35 (by omega) (by omega) (by omega)) ?_
      intro u37 e37
      refine HL.zero (HO.store (s := 1) sz3 e37 e36 rfl hb6 (by rw [nk_len]; omega) rfl ?_)
      intro h9 w9
      refine HL.nil ?_
      have hb6' := w9.new
      rw [nk_step xs k hlt] at hb6'
      -- region 6
      repeat refine HW.seq ?_
      refine HW.region ?_
      refine HL.still (Runs.move f7) ?_
      intro u14 e14
      refine HL.still (Runs.add e14 rfl (i64w (by omega))) ?_
      intro u15 e15
      refine HL.still (Runs.assign e15) ?_
      intro u7 e7
      refine HL.nil ?_
      refine ⟨7 - (k + 1), by omega, k + 1, by omega, rfl, e7, f0, f2, f4, f5, f6, by rw [numsOk, hok, hn]; rfl, hX.wr w9 (by omega), w9.keep hb2 (by omega), w9.keep hb4 (by omega), w9.keep hb5 (by omega), hb6'⟩
  have hk7 : k = 7 := by omega
  subst hk7
  -- region 5
  repeat refine HW.seq ?_
  refine HW.region ?_
  refine HL.still (Runs.move f7) ?_
  intro u12 e12
  refine HL.still (Runs.lss e12 rfl rfl) ?_
  intro u13 e13
  refine HL.nil ?_
  repeat refine HW.seq ?_
  refine HW.no ?_ ?_
  exact e13.trans (congrArg Value.bool (decide_eq_false (by omega)))
  refine HW.exitHere ?_
  -- region 11
  repeat refine HW.seq ?_
  refine HW.region ?_
  refine HL.still (Runs.loadAgg Tryd.underlying52 rfl sz52 f6 (cs := nk xs 7) (nk_len xs 7) (fun j v hj => by rw [Nat.zero_add]; exact cell_list hb6 hj)) ?_
  intro u38 e38
  refine HL.zero (HO.storeAll sz52 f2 e38 (one_nk xs 7) hb2 (nk_len xs 7) rfl ?_)
  intro h9 w9
  refine HL.still (Runs.assign rfl) ?_
  intro u3 e3
  refine HL.nil ?_
  refine HW.ret ?_
  refine RT.cellTmp rfl f2 e3 w9.new Tryd.underlying52 rfl sz52 (nk_len xs 7) ⟨?_, hX.wr w9 (Nat.le_refl _)⟩
  unfold numsV
  rw [hok, if_pos rfl]
theorem sumsO_eq {xs : List UInt8} {t : Bool} (h : (readO (seg xs 148 156)).2 = t) : sumsO xs = (t && (((readO (seg xs 148 156)).1 : Int) == checkO xs)) := by
  unfold sumsO
  rw [h]
set_option maxRecDepth 10000 in
theorem rparse_ch (h : Heap) (xs : List UInt8) (a : Option Addr) (cap : Nat) (hsrc : Byt h a xs) (hcap : xs.length ≤ cap) (hlen : xs.length < 4611686018427387904) :
    CH Tryd.prog 22 #[.slice a xs.length cap] h fun v h' => v = .tuple #[.agg (parseO xs).1.cells.toArray, I64 (parseO xs).2] ∧ Ext h h' := by
  refine CH.of_body Tryd.func22 rfl rfl rfl ?_
  intro f hf
  have p0 : f 0 = .slice a xs.length cap := by rw [hf]; exact fr0_at rfl
  -- region 0
  repeat refine HW.seq ?_
  refine HW.region ?_
  refine HL.one (HO.alloc zr36 ?_)
  intro h2 w2
  intro u2 e2
  refine HL.still (Runs.assign rfl) ?_
  intro u3 e3
  refine HL.nil ?_
  have z2 := w2.size
  have X2 : Ext h h2 := w2.ext
  by_cases hl : xs.length = 512
  case neg =>
    -- region 1
    repeat refine HW.seq ?_
    refine HW.region ?_
    refine HL.still (Runs.move p0) ?_
    intro u14 e14
    refine HL.still (Runs.lenSl rfl Tryd.underlying22 e14) ?_
    intro u15 e15
    refine HL.still (Runs.neq e15 rfl (t := true) (by rw [bne_iff_ne]; omega)) ?_
    intro u16 e16
    refine HL.nil ?_
    repeat refine HW.seq ?_
    refine HW.yes ?_ ?_
    exact e16
    -- region 2
    repeat refine HW.seq ?_
    refine HW.region ?_
    refine HL.still Runs.buildZ ?_
    intro u17 e17
    refine HL.zero (HO.storeAll sz36 e2 e17 (one_cells _) w2.new rfl rfl ?_)
    intro h3 w3
    refine HL.still (Runs.assign rfl) ?_
    intro u3 e3
    refine HL.nil ?_
    refine HW.ret ?_
    refine RT.cellTmp rfl e2 e3 w3.new Tryd.underlying36 rfl sz36 rfl ⟨?_, X2.wr w3 (Nat.le_refl _)⟩
    unfold parseO
    rw [if_pos hl]
  -- region 1
  repeat refine HW.seq ?_
  refine HW.region ?_
  refine HL.still (Runs.move p0) ?_
  intro u14 e14
  refine HL.still (Runs.lenSl rfl Tryd.underlying22 e14) ?_
  intro u15 e15
  refine HL.still (Runs.neq e15 rfl (t := false) (by rw [hl]; rfl)) ?_
  intro u16 e16
  refine HL.nil ?_
  repeat refine HW.seq ?_
  refine HW.no ?_ ?_
  exact e16
  refine HW.skip ?_
  have ls := seg_len xs 148 156 (by omega)
  -- region 3
  repeat refine HW.seq ?_
  refine HW.region ?_
  refine HL.still (Runs.move p0) ?_
  intro u19 e19
  refine HL.still (Runs.sliceSl Tryd.underlying22 sz5 e19 (lo := 148) (hi := 156) ⟨_, rfl⟩ ⟨_, rfl⟩ (by omega) (by omega) rfl) ?_
  intro u20 e20
  refine HL.one (HO.call Tryd.func15 bd15 nm15 (args1 e20) rfl ((rread_n _ (seg xs 148 156) _ _ _ ls.symm ((hsrc.ext X2).seg 148 156 hcap (by omega) (by omega) rfl) (by omega)).mono ?_))
  rintro _ h3 ⟨rfl, hh3⟩
  intro u21 e21
  refine HL.still (Runs.move e21) ?_
  intro u18 e18
  refine HL.still (Runs.extr e18 rfl) ?_
  intro u22 e22
  refine HL.still (Runs.extr e18 rfl) ?_
  intro u23 e23
  refine HL.still (Runs.assign e22) ?_
  intro u4 e4
  refine HL.still (Runs.assign e23) ?_
  intro u5 e5
  refine HL.nil ?_
  have g4 : u4 = I64 ((readO (seg xs 148 156)).1 : Int) := e4
  have g5 : u5 = .bool (readO (seg xs 148 156)).2 := e5
  rw [hh3]
  clear hh3
  repeat refine HW.seq ?_
  refine HW.mono (N := fun f' g => g = h2 ∧ f' 31 = .bool (!sumsO xs) ∧ f' 0 = .slice a xs.length cap ∧ f' 2 = .pointer (some ⟨h.size, 0, none⟩)) ?_ ?_ (fun _ _ _ h => h) (fun _ _ h => h)
  · cases hb : (readO (seg xs 148 156)).2 with
    | false =>
      rw [hb] at g5
      -- region 4
      repeat refine HW.seq ?_
      refine HW.region ?_
      refine HL.still (Runs.move g5) ?_
      intro u24 e24
      refine HL.still (Runs.notb e24 (u := true) rfl) ?_
      intro u25 e25
      refine HL.still (Runs.move e25) ?_
      intro u26 e26
      refine HL.skipG rfl rfl e26 ?_
      intro u27 e27
      refine HL.skipG rfl rfl e26 ?_
      intro u28 e28
      refine HL.skipG rfl rfl e26 ?_
      intro u29 e29
      refine HL.skipG rfl rfl e26 ?_
      intro u30 e30
      refine HL.still (Runs.pick e26 rfl) ?_
      intro u31 e31
      refine HL.nil ?_
      exact ⟨rfl, e31.trans (by rw [sumsO_eq hb]; rfl), p0, e2⟩
    | true =>
      rw [hb] at g5
      -- region 4
      repeat refine HW.seq ?_
      refine HW.region ?_
      refine HL.still (Runs.move g5) ?_
      intro u24 e24
      refine HL.still (Runs.notb e24 (u := false) rfl) ?_
      intro u25 e25
      refine HL.still (Runs.move e25) ?_
      intro u26 e26
      refine HL.stillG rfl rfl e26 (Runs.move g4) ?_
      intro u27 e27
      refine HL.stillG rfl rfl e26 (Runs.move p0) ?_
      intro u28 e28
      refine HL.oneG rfl rfl e26 (HO.call Tryd.func19 bd19 nm19 (args1 e28) rfl ((rcheck_ch h2 xs a cap (hsrc.ext X2) (by omega)).mono ?_))
      rintro _ h4 ⟨rfl, hh4⟩
      intro u29 e29
      refine HL.stillG rfl rfl e26 (Runs.neq e27 e29 rfl) ?_
      intro u30 e30
      refine HL.still (Runs.pick e26 e30) ?_
      intro u31 e31
      refine HL.nil ?_
      exact ⟨hh4, e31.trans (by rw [sumsO_eq hb, Bool.true_and]; rfl), p0, e2⟩
  clear e2 e3 e4 e5 g4 g5
  rintro f g ⟨hg, f31, f0, f2⟩
  subst hg
  have hb2 := w2.new
  cases hs : sumsO xs with
  | false =>
    rw [hs] at f31
    repeat refine HW.seq ?_
    refine HW.yes f31 ?_
    -- region 5
    repeat refine HW.seq ?_
    refine HW.region ?_
    refine HL.still Runs.buildZ ?_
    intro u32 e32
    refine HL.zero (HO.storeAll sz36 f2 e32 (one_cells _) hb2 rfl rfl ?_)
    intro h4 w4
    refine HL.still (Runs.assign rfl) ?_
    intro u3 e3
    refine HL.nil ?_
    refine HW.ret ?_
    refine RT.cellTmp rfl f2 e3 w4.new Tryd.underlying36 rfl sz36 rfl ⟨?_, X2.wr w4 (Nat.le_refl _)⟩
    unfold parseO
    rw [if_neg (fun q => q hl), hs, if_pos rfl]
  | true =>
  rw [hs] at f31
  repeat refine HW.seq ?_
  refine HW.no f31 ?_
  refine HW.skip ?_
  have l1 := seg_len xs 0 100 (by omega)
  have l2 := seg_len xs 157 257 (by omega)
  have l3 := seg_len xs 345 500 (by omega)
  have l4 := seg_len xs 257 265 (by omega)
  -- region 6
  repeat refine HW.seq ?_
  refine HW.region ?_
  refine HL.still (Runs.move f0) ?_
  intro u34 e34
  refine HL.one (HO.call Tryd.func37 bd37 nm37 (args1 e34) rfl ((numbers_ch g xs a cap (hsrc.ext X2) hcap hl).mono ?_))
  rintro _ h3 ⟨rfl, E3⟩
  intro u35 e35
  refine HL.still (Runs.move e35) ?_
  intro u33 e33
  refine HL.still (Runs.extr e33 rfl) ?_
  intro u36 e36
  refine HL.still (Runs.extr e33 rfl) ?_
  intro u37 e37
  refine HL.one (HO.alloc zr52 ?_)
  intro h4 w4
  intro u6 e6
  refine HL.zero (HO.storeAll sz52 e6 e36 (one_numsV xs) w4.new (numsV_len xs) rfl ?_)
  intro h5 w5
  refine HL.still (Runs.assign e37) ?_
  intro u7 e7
  refine HL.nil ?_
  have z3 := E3.size
  have X5' : Ext g h5 := (E3.nw w4 (Nat.le_refl _)).wr w5 (by omega)
  have X5 : Ext h h5 := X2.ext X5' (Nat.le_refl _)
  have hb2' := X5'.keepE hb2
  have hb5 := w5.new
  have hsg := hsrc.ext X5
  have g7 : u7 = .bool (numsOk xs 7) := e7
  -- region 7
  repeat refine HW.seq ?_
  refine HW.region ?_
  refine HL.still (Runs.move f0) ?_
  intro u39 e39
  refine HL.still (Runs.sliceSl Tryd.underlying22 sz5 e39 (lo := 0) (hi := 100) rfl ⟨_, rfl⟩ (by omega) (by omega) rfl) ?_
  intro u40 e40
  refine HL.one (HO.call Tryd.func38 bd38 nm38 (args1 e40) rfl ((rtext_n _ (seg xs 0 100) _ _ _ l1.symm (hsg.seg 0 100 hcap (by omega) (by omega) rfl) (by omega) (by omega)).mono ?_))
  rintro _ h6 ⟨rfl, hh6⟩
  intro u41 e41
  refine HL.still (Runs.move e41) ?_
  intro u38 e38
  refine HL.still (Runs.extr e38 rfl) ?_
  intro u42 e42
  refine HL.still (Runs.extr e38 rfl) ?_
  intro u43 e43
  refine HL.still (Runs.assign e42) ?_
  intro u8 e8
  refine HL.still (Runs.assign e43) ?_
  intro u9 e9
  refine HL.nil ?_
  -- region 8
  repeat refine HW.seq ?_
  refine HW.region ?_
  refine HL.still (Runs.move f0) ?_
  intro u45 e45
  refine HL.still (Runs.sliceSl Tryd.underlying22 sz5 e45 (lo := 157) (hi := 257) ⟨_, rfl⟩ ⟨_, rfl⟩ (by omega) (by omega) rfl) ?_
  intro u46 e46
  refine HL.one (HO.call Tryd.func38 bd38 nm38 (args1 e46) rfl ((rtext_n _ (seg xs 157 257) _ _ _ l2.symm (by rw [hh6]; exact hsg.seg 157 257 hcap (by omega) (by omega) rfl) (by omega) (by omega)).mono ?_))
  rintro _ h7 ⟨rfl, hh7⟩
  intro u47 e47
  refine HL.still (Runs.move e47) ?_
  intro u44 e44
  refine HL.still (Runs.extr e44 rfl) ?_
  intro u48 e48
  refine HL.still (Runs.extr e44 rfl) ?_
  intro u49 e49
  refine HL.still (Runs.assign e48) ?_
  intro u10 e10
  refine HL.still (Runs.assign e49) ?_
  intro u11 e11
  refine HL.nil ?_
  -- region 9
  repeat refine HW.seq ?_
  refine HW.region ?_
  refine HL.still (Runs.move f0) ?_
  intro u51 e51
  refine HL.still (Runs.sliceSl Tryd.underlying22 sz5 e51 (lo := 345) (hi := 500) ⟨_, rfl⟩ ⟨_, rfl⟩ (by omega) (by omega) rfl) ?_
  intro u52 e52
  refine HL.one (HO.call Tryd.func38 bd38 nm38 (args1 e52) rfl ((rtext_n _ (seg xs 345 500) _ _ _ l3.symm (by rw [hh7, hh6]; exact hsg.seg 345 500 hcap (by omega) (by omega) rfl) (by omega) (by omega)).mono ?_))
  rintro _ h8 ⟨rfl, hh8⟩
  intro u53 e53
  refine HL.still (Runs.move e53) ?_
  intro u50 e50
  refine HL.still (Runs.extr e50 rfl) ?_
  intro u54 e54
  refine HL.still (Runs.extr e50 rfl) ?_
  intro u55 e55
  refine HL.still (Runs.assign e54) ?_
  intro u12 e12
  refine HL.still (Runs.assign e55) ?_
  intro u13 e13
  refine HL.nil ?_
  have t1 := textO_len (seg xs 0 100)
  have t2 := textO_len (seg xs 157 257)
  have t3 := textO_len (seg xs 345 500)
  have r1 := textO_ref (seg xs 0 100)
  have r2 := textO_ref (seg xs 157 257)
  have r3 := textO_ref (seg xs 345 500)
  have g8 : u8 = .string (strOf (refT (seg xs 0 100)).1) := e8
  have g9 : u9 = .bool (textO (seg xs 0 100)).2 := e9.trans (congrArg Value.bool r1.1.symm)
  have g10 : u10 = .string (strOf (refT (seg xs 157 257)).1) := e10
  have g11 : u11 = .bool (textO (seg xs 157 257)).2 := e11.trans (congrArg Value.bool r2.1.symm)
  have g12 : u12 = .string (strOf (refT (seg xs 345 500)).1) := e12
  have g13 : u13 = .bool (textO (seg xs 345 500)).2 := e13.trans (congrArg Value.bool r3.1.symm)
  have hgg : h8 = h5 := by rw [hh8, hh7, hh6]
  rw [hgg]
  clear hgg hh6 hh7 hh8
  -- region 10
  repeat refine HW.seq ?_
  refine HW.region ?_
  refine HL.still (Runs.move f0) ?_
  intro u56 e56
  refine HL.still (Runs.sliceSl Tryd.underlying22 sz5 e56 (lo := 257) (hi := 265) ⟨_, rfl⟩ ⟨_, rfl⟩ (by omega) (by omega) rfl) ?_
  intro u57 e57
  refine HL.still (Runs.toStrB Tryd.underlying22 Tryd.underlying5 Tryd.underlying9 e57 l4.symm (hsg.seg 257 265 hcap (by omega) (by omega) rfl)) ?_
  intro u58 e58
  refine HL.still (Runs.neqS e58 rfl (ys := magic) (t := !mgO xs) rfl) ?_
  intro u59 e59
  refine HL.still (Runs.move e59) ?_
  intro u60 e60
  refine HL.anyG rfl rfl e60 (fun hg => Runs.move g7) ?_
  intro u61 e61
  refine HL.anyG rfl rfl e60 (fun hg => Runs.notb (e61.trans (if_pos hg)) rfl) ?_
  intro u62 e62
  refine HL.still (Runs.pick e60 (or_pick e62)) ?_
  intro u63 e63
  refine HL.still (Runs.move e63) ?_
  intro u64 e64
  refine HL.anyG rfl rfl e64 (fun hg => Runs.move g9) ?_
  intro u65 e65
  refine HL.anyG rfl rfl e64 (fun hg => Runs.notb (e65.trans (if_pos hg)) rfl) ?_
  intro u66 e66
  refine HL.still (Runs.pick e64 (or_pick e66)) ?_
  intro u67 e67
  refine HL.still (Runs.move e67) ?_
  intro u68 e68
  refine HL.anyG rfl rfl e68 (fun hg => Runs.move g11) ?_
  intro u69 e69
  refine HL.anyG rfl rfl e68 (fun hg => Runs.notb (e69.trans (if_pos hg)) rfl) ?_
  intro u70 e70
  refine HL.still (Runs.pick e68 (or_pick e70)) ?_
  intro u71 e71
  refine HL.still (Runs.move e71) ?_
  intro u72 e72
  refine HL.anyG rfl rfl e72 (fun hg => Runs.move g13) ?_
  intro u73 e73
  refine HL.anyG rfl rfl e72 (fun hg => Runs.notb (e73.trans (if_pos hg)) rfl) ?_
  intro u74 e74
  refine HL.still (Runs.pick e72 (or_pick e74)) ?_
  intro u75 e75
  refine HL.nil ?_
  have hform : ((((!mgO xs || !numsOk xs 7) || !(textO (seg xs 0 100)).2) || !(textO (seg xs 157 257)).2) || !(textO (seg xs 345 500)).2) = !formO xs := by
    unfold formO mgO
    simp only [Bool.not_and]
  cases hfo : formO xs with
  | false =>
    repeat refine HW.seq ?_
    refine HW.yes (e75.trans (congrArg Value.bool (hform.trans (by rw [hfo]; rfl)))) ?_
    -- region 11
    repeat refine HW.seq ?_
    refine HW.region ?_
    refine HL.still Runs.buildZ ?_
    intro u76 e76
    refine HL.zero (HO.storeAll sz36 f2 e76 (one_cells _) hb2' rfl rfl ?_)
    intro h9 w9
    refine HL.still (Runs.assign rfl) ?_
    intro u3 e3
    refine HL.nil ?_
    refine HW.ret ?_
    refine RT.cellTmp rfl f2 e3 w9.new Tryd.underlying36 rfl sz36 rfl ⟨?_, X5.wr w9 (Nat.le_refl _)⟩
    unfold parseO
    rw [if_neg (fun q => q hl), hs, if_neg (by decide), hfo, if_pos rfl]
  | true =>
  repeat refine HW.seq ?_
  refine HW.no (e75.trans (congrArg Value.bool (hform.trans (by rw [hfo]; rfl)))) ?_
  refine HW.skip ?_
  have hres : parseO xs = (hdrO xs, 0) := by
    unfold parseO
    rw [if_neg (fun q => q hl), hs, if_neg (by decide), hfo, if_neg (by decide)]
  rw [hres]
  have hparts : numsOk xs 7 = true ∧ (textO (seg xs 0 100)).2 = true ∧ (textO (seg xs 157 257)).2 = true ∧ (textO (seg xs 345 500)).2 = true := by
    unfold formO at hfo
    simp only [Bool.and_eq_true] at hfo
    exact ⟨hfo.1.1.1.2, hfo.1.1.2, hfo.1.2, hfo.2⟩
  obtain ⟨q0, q1, q2, q3⟩ := hparts
  rw [← r1.2 (r1.1 ▸ q1)] at g8
  rw [← r2.2 (r2.1 ▸ q2)] at g10
  rw [← r3.2 (r3.1 ▸ q3)] at g12
  have hnV : numsV xs = nk xs 7 := by unfold numsV; rw [if_pos q0]
  rw [hnV] at hb5
  refine HW.seq ?_
  refine HW.mono (N := fun f' g' => g' = h5 ∧ f' 0 = .slice a xs.length cap ∧ f' 2 = .pointer (some ⟨h.size, 0, none⟩) ∧ f' 6 = u6 ∧ f' 10 = .string (strOf (textO (seg xs 157 257)).1) ∧ f' 8 = .string (strOf (pfx (textO (seg xs 345 500)).1 (textO (seg xs 0 100)).1))) ?_ ?_ (fun _ _ _ h => h) (fun _ _ h => h)
  · by_cases hp : (textO (seg xs 345 500)).1 = []
    · skip
      -- region 12
      repeat refine HW.seq ?_
      refine HW.region ?_
      refine HL.still (Runs.move g12) ?_
      intro u77 e77
      refine HL.still (Runs.neqS e77 rfl (ys := []) (t := false) (by rw [hp]; rfl)) ?_
      intro u78 e78
      refine HL.nil ?_
      repeat refine HW.seq ?_
      refine HW.no ?_ ?_
      exact e78
      refine HW.skip ?_
      exact ⟨rfl, f0, f2, rfl, g10, g8.trans (by rw [pfx, if_pos hp])⟩
    · skip
      -- region 12
      repeat refine HW.seq ?_
      refine HW.region ?_
      refine HL.still (Runs.move g12) ?_
      intro u77 e77
      refine HL.still (Runs.neqS e77 rfl (ys := []) (t := true) (by simpa using hp)) ?_
      intro u78 e78
      refine HL.nil ?_
      repeat refine HW.seq ?_
      refine HW.yes ?_ ?_
      exact e78
      -- region 13
      repeat refine HW.seq ?_
      refine HW.region ?_
      refine HL.still (Runs.move g12) ?_
      intro u79 e79
      refine HL.still (Runs.addS e79 rfl (ys := [47]) (by simp; omega)) ?_
      intro u80 e80
      refine HL.still (Runs.move g8) ?_
      intro u81 e81
      refine HL.still (Runs.addS e80 e81 (by simp; omega)) ?_
      intro u82 e82
      refine HL.still (Runs.assign e82) ?_
      intro u8 e8
      refine HL.nil ?_
      exact ⟨rfl, f0, f2, rfl, g10, e8.trans (by rw [pfx, if_neg hp, List.append_assoc]; rfl)⟩
  clear f0 f2 g8 g10 e8 e10 e11 e12 e13
  rintro f g' ⟨rfl, f0, f2, f6, f10, f8⟩
  have f6 := f6.trans e6
  obtain ⟨sb, so, ha, hc⟩ := hsg.at (k := 156) (by omega)
  have f0' := f0
  rw [ha] at f0'
  -- region 14
  repeat refine HW.seq ?_
  refine HW.drawTail 20 mixed (by kernel_rfl) ?_
  refine HS.still (Runs.move f8) ?_
  intro u83 e83
  refine HS.still (Runs.ixArr (o' := 0) Tryd.underlying52 sz3 f6 rfl (by decide) (by decide) (by rfl)) ?_
  intro u84 e84
  refine HS.still (Runs.load Tryd.underlying3 rfl e84 ((cellH_of hb5 0).trans rfl)) ?_
  intro u85 e85
  refine HS.still (Runs.ixArr (o' := 1) Tryd.underlying52 sz3 f6 rfl (by decide) (by decide) (by rfl)) ?_
  intro u86 e86
  refine HS.still (Runs.load Tryd.underlying3 rfl e86 ((cellH_of hb5 1).trans rfl)) ?_
  intro u87 e87
  refine HS.still (Runs.ixArr (o' := 2) Tryd.underlying52 sz3 f6 rfl (by decide) (by decide) (by rfl)) ?_
  intro u88 e88
  refine HS.still (Runs.load Tryd.underlying3 rfl e88 ((cellH_of hb5 2).trans rfl)) ?_
  intro u89 e89
  refine HS.still (Runs.ixArr (o' := 3) Tryd.underlying52 sz3 f6 rfl (by decide) (by decide) (by rfl)) ?_
  intro u90 e90
  refine HS.still (Runs.load Tryd.underlying3 rfl e90 ((cellH_of hb5 3).trans rfl)) ?_
  intro u91 e91
  refine HS.still (Runs.ixArr (o' := 4) Tryd.underlying52 sz3 f6 rfl (by decide) (by decide) (by rfl)) ?_
  intro u92 e92
  refine HS.still (Runs.load Tryd.underlying3 rfl e92 ((cellH_of hb5 4).trans rfl)) ?_
  intro u93 e93
  refine HS.still (Runs.move f0') ?_
  intro u94 e94
  refine HS.still (Runs.ixSl (o' := so + 156) Tryd.underlying22 sz5 e94 rfl (by omega) (by omega) (by omega)) ?_
  intro u95 e95
  refine HS.still (Runs.load Tryd.underlying5 rfl e95 hc) ?_
  intro u96 e96
  refine HS.still (Runs.move f10) ?_
  intro u97 e97
  refine HS.still (Runs.ixArr (o' := 5) Tryd.underlying52 sz3 f6 rfl (by decide) (by decide) (by rfl)) ?_
  intro u98 e98
  refine HS.still (Runs.load Tryd.underlying3 rfl e98 ((cellH_of hb5 5).trans rfl)) ?_
  intro u99 e99
  refine HS.still (Runs.ixArr (o' := 6) Tryd.underlying52 sz3 f6 rfl (by decide) (by decide) (by rfl)) ?_
  intro u100 e100
  refine HS.still (Runs.load Tryd.underlying3 rfl e100 ((cellH_of hb5 6).trans rfl)) ?_
  intro u101 e101
  refine HS.still (Runs.buildHd (hdrO xs) e83 e85 e87 e89 e91 e93 e96 e97 e99 e101) ?_
  intro u102 e102
  refine HS.nil ?_
  refine HL.zero (HO.storeAll sz36 f2 e102 (one_cells _) hb2' rfl rfl ?_)
  intro h9 w9
  refine HL.still (Runs.assign rfl) ?_
  intro u3 e3
  refine HL.nil ?_
  refine HW.ret ?_
  exact RT.cellTmp rfl f2 e3 w9.new Tryd.underlying36 rfl sz36 rfl ⟨rfl, X5.wr w9 (Nat.le_refl _)⟩
end Go.Proofs.YtfogkggkjmkdiaaDoor
