/- header.Parse, onionskinref06.Parse. -/
import Derived.Test.YtfogkggkjmkdiaaDoorHb
namespace Go.Proofs.YtfogkggkjmkdiaaDoor
set_option linter.unnecessarySimpa false
set_option linter.unusedSimpArgs false
set_option linter.unusedVariables false
open Go.RowKit
/-- The fields' places and sizes, as the program holds them. -/
def plcs : List Int := [100, 8, 108, 8, 116, 8, 124, 12, 136, 12, 329, 8, 337, 8]
def Plc (h : Heap) : Prop := ∃ t fr, h[0]? = some (.cells (plcs.map I64).toArray t fr)
theorem Plc.ext {h h' : Heap} (p : Plc h) (x : Ext h h') : Plc h' := by
  obtain ⟨t, fr, hp⟩ := p
  exact ⟨t, fr, x.keepE hp⟩
theorem plc_load {h : Heap} (p : Plc h) : ∀ j v, (plcs.map I64)[j]? = some v → cellH h 0 (0 + j) = some v := by
  obtain ⟨t, fr, hp⟩ := p
  intro j v hj
  rw [cellH_of hp, Nat.zero_add]
  simpa using hj
theorem plc_cut : ∀ k : Nat, k < 7 → Value.agg ((plcs.map I64).toArray.extract (((k : Nat) : Int).toNat * 2) (((k : Nat) : Int).toNat * 2 + 2)) = .agg [I64 ((fAt.getD k 0 : Nat) : Int), I64 ((fSz.getD k 0 : Nat) : Int)].toArray := by
  intro k hk
  rcases k with _ | _ | _ | _ | _ | _ | _ | k <;> first | rfl | omega
theorem zr36 : (Tryd.prog.info? 36).map (·.zero) = some (some (.agg Hd.zero.cells.toArray)) := by kernel_rfl
theorem zr52 : (Tryd.prog.info? 52).map (·.zero) = some (some (.agg (List.replicate 7 (I64 0)).toArray)) := by kernel_rfl
theorem zr54 : (Tryd.prog.info? 54).map (·.zero) = some (some (.agg [I64 0, I64 0].toArray)) := by kernel_rfl
theorem one_cells (x : Hd) : ∀ v ∈ x.cells, v.oneCell' = true := by
  intro v hv
  simp only [Hd.cells, List.mem_cons, List.not_mem_nil, or_false] at hv
  rcases hv with rfl | rfl | rfl | rfl | rfl | rfl | rfl | rfl | rfl | rfl <;> rfl
theorem one_ints (l : List Int) : ∀ v ∈ l.map I64, v.oneCell' = true := one_map I64 (fun _ => rfl) l
section
variable {ρ : Operand → Value} {h : Heap} {d : Option Tmp} {ty : TypeId} {pos : String} {af : Array Edge} {gd : Option (Nat × Bool)} {o0 o1 o2 o3 o4 o5 o6 o7 o8 o9 : Operand}
theorem run_buildHd (x : Hd) (w : World) : (Instr.build 36 #[(0, .string (strOf x.name)), (1, I64 x.mode), (2, I64 x.uid), (3, I64 x.gid), (4, I64 x.size), (5, I64 x.mtime), (6, B8 x.typ), (7, .string (strOf x.link)), (8, I64 x.major), (9, I64 x.minor)]).run Tryd.prog w = .ok (.agg x.cells.toArray) w := by kernel_rfl
theorem Runs.buildHd (x : Hd) (e0 : ρ o0 = .string (strOf x.name)) (e1 : ρ o1 = I64 x.mode) (e2 : ρ o2 = I64 x.uid) (e3 : ρ o3 = I64 x.gid) (e4 : ρ o4 = I64 x.size) (e5 : ρ o5 = I64 x.mtime) (e6 : ρ o6 = B8 x.typ) (e7 : ρ o7 = .string (strOf x.link)) (e8 : ρ o8 = I64 x.major) (e9 : ρ o9 = I64 x.minor) :
    Runs Tryd.prog ⟨d, .build 36 #[(0, o0), (1, o1), (2, o2), (3, o3), (4, o4), (5, o5), (6, o6), (7, o7), (8, o8), (9, o9)], ty, pos, af, gd⟩ ρ h (.agg x.cells.toArray) :=
  Runs.build (fun w => by
    have q : (#[(0, o0), (1, o1), (2, o2), (3, o3), (4, o4), (5, o5), (6, o6), (7, o7), (8, o8), (9, o9)] : Array (Nat × Operand)).map (fun (i, x) => (i, ρ x)) = #[(0, .string (strOf x.name)), (1, I64 x.mode), (2, I64 x.uid), (3, I64 x.gid), (4, I64 x.size), (5, I64 x.mtime), (6, B8 x.typ), (7, .string (strOf x.link)), (8, I64 x.major), (9, I64 x.minor)] := by simp [e0, e1, e2, e3, e4, e5, e6, e7, e8, e9]
    rw [q]
    exact run_buildHd x w)
theorem run_buildZ (w : World) : (Instr.build 36 #[]).run Tryd.prog w = .ok (.agg Hd.zero.cells.toArray) w := by kernel_rfl
theorem Runs.buildZ : Runs Tryd.prog ⟨d, .build 36 #[], ty, pos, af, gd⟩ ρ h (.agg Hd.zero.cells.toArray) :=
  Runs.build (fun w => by
    have q : (#[] : Array (Nat × Operand)).map (fun (i, x) => (i, ρ x)) = #[] := by simp
    rw [q]
    exact run_buildZ w)
theorem run_buildZ7 (w : World) : (Instr.build 52 #[]).run Tryd.prog w = .ok (.agg (List.replicate 7 (I64 0)).toArray) w := by kernel_rfl
theorem Runs.buildZ7 : Runs Tryd.prog ⟨d, .build 52 #[], ty, pos, af, gd⟩ ρ h (.agg (List.replicate 7 (I64 0)).toArray) :=
  Runs.build (fun w => by
    have q : (#[] : Array (Nat × Operand)).map (fun (i, x) => (i, ρ x)) = #[] := by simp
    rw [q]
    exact run_buildZ7 w)
theorem run_build7 (a b c e f g i : Int) (w : World) : (Instr.build 52 #[(0, I64 a), (1, I64 b), (2, I64 c), (3, I64 e), (4, I64 f), (5, I64 g), (6, I64 i)]).run Tryd.prog w = .ok (.agg ([a, b, c, e, f, g, i].map I64).toArray) w := by kernel_rfl
theorem Runs.build7 (a b c e f g i : Int) (e0 : ρ o0 = I64 a) (e1 : ρ o1 = I64 b) (e2 : ρ o2 = I64 c) (e3 : ρ o3 = I64 e) (e4 : ρ o4 = I64 f) (e5 : ρ o5 = I64 g) (e6 : ρ o6 = I64 i) :
    Runs Tryd.prog ⟨d, .build 52 #[(0, o0), (1, o1), (2, o2), (3, o3), (4, o4), (5, o5), (6, o6)], ty, pos, af, gd⟩ ρ h (.agg ([a, b, c, e, f, g, i].map I64).toArray) :=
  Runs.build (fun w => by
    have q : (#[(0, o0), (1, o1), (2, o2), (3, o3), (4, o4), (5, o5), (6, o6)] : Array (Nat × Operand)).map (fun (i, x) => (i, ρ x)) = #[(0, I64 a), (1, I64 b), (2, I64 c), (3, I64 e), (4, I64 f), (5, I64 g), (6, I64 i)] := by simp [e0, e1, e2, e3, e4, e5, e6]
    rw [q]
    exact run_build7 a b c e f g i w)
end
/-- The first k numbers are there. -/
def nk (xs : List UInt8) (k : Nat) : List Value := (List.range 7).map fun j => if j < k then I64 (num xs j) else I64 0
theorem nk_len (xs : List UInt8) (k : Nat) : (nk xs k).length = 7 := by rw [nk, List.length_map, List.length_range]
theorem nk_step (xs : List UInt8) (k : Nat) (hk : k < 7) : (nk xs k).set k (I64 (num xs k)) = nk xs (k + 1) := by
  apply List.ext_getElem?
  intro i
  rw [List.getElem?_set, nk_len]
  by_cases e : k = i
  · subst e
    rw [if_pos rfl, if_pos hk]
    simp [nk, hk]
  · rw [if_neg e]
    by_cases hi : i < 7
    · simp only [nk, List.getElem?_map, List.getElem?_range hi, Option.map_some]
      by_cases h1 : i < k
      · rw [if_pos h1, if_pos (by omega)]
      · rw [if_neg h1, if_neg (by omega)]
    · rw [List.getElem?_eq_none (by rw [nk_len]; omega), List.getElem?_eq_none (by rw [nk_len]; omega)]
theorem nk_zero (xs : List UInt8) : nk xs 0 = List.replicate 7 (I64 0) := rfl
theorem numsOk_no {xs : List UInt8} {k n : Nat} (h : numsOk xs k = false) (hk : k ≤ n) : numsOk xs n = false := by
  induction n with
  | zero => have : k = 0 := by omega
            subst this; exact h
  | succ n ih =>
    by_cases e : k = n + 1
    · subst e; exact h
    · rw [numsOk, ih (by omega), Bool.false_and]
theorem textO_len (xs : List UInt8) : (textO xs).1.length ≤ xs.length := cutR_len _ _
def mgO (xs : List UInt8) : Bool := seg xs 257 265 == magic
theorem drop_seg (xs : List UInt8) (lo : Nat) : seg xs lo xs.length = xs.drop lo := by
  unfold seg
  rw [List.take_of_length_le (Nat.le_refl _)]
theorem take_seg (xs : List UInt8) : (xs.drop 257).take 8 = seg xs 257 265 := by
  unfold seg
  rw [List.drop_take]
set_option maxRecDepth 10000 in
theorem parse_ch (h : Heap) (xs : List UInt8) (a : Option Addr) (cap : Nat) (hP : Plc h) (hsrc : Byt h a xs) (hcap : xs.length ≤ cap) (hlen : xs.length < 4611686018427387904) :
    CH Tryd.prog 21 #[.slice a xs.length cap] h fun v h' => v = .tuple #[.agg (parseO xs).1.cells.toArray, I64 (parseO xs).2] ∧ Ext h h' := by
  refine CH.of_body Tryd.func21 rfl rfl rfl ?_
  intro f hf
  have p0 : f 0 = .slice a xs.length cap := by rw [hf]; exact fr0_at rfl
  -- region 0
  repeat refine HW.seq ?_
  refine HW.region ?_
  refine HL.one (HO.alloc zr36 ?_)
  intro h2 w2
  intro u2 e2
  refine HL.still (Runs.assign rfl) ?_
  intro u3 e3
  refine HL.nil ?_
  have z2 := w2.size
  have X2 : Ext h h2 := w2.ext
  repeat refine HW.seq ?_
  refine HW.block ?_
  by_cases hl : xs.length = 512
  case neg =>
    -- region 1
    repeat refine HW.seq ?_
    refine HW.region ?_
    refine HL.still (Runs.move p0) ?_
    intro u17 e17
    refine HL.still (Runs.lenSl rfl Tryd.underlying22 e17) ?_
    intro u18 e18
    refine HL.still (Runs.neq e18 rfl (t := true) (by rw [bne_iff_ne]; omega)) ?_
    intro u19 e19
    refine HL.still (Runs.assign e19) ?_
    intro u16 e16
    refine HL.nil ?_
    repeat refine HW.seq ?_
    refine HW.yes ?_ ?_
    exact e16
    -- region 2
    repeat refine HW.seq ?_
    refine HW.region ?_
    refine HL.still Runs.buildZ ?_
    intro u20 e20
    refine HL.zero (HO.storeAll sz36 e2 e20 (one_cells _) w2.new rfl rfl ?_)
    intro h3 w3
    refine HL.still (Runs.assign rfl) ?_
    intro u3 e3
    refine HL.nil ?_
    refine HW.ret ?_
    refine RT.cellTmp rfl e2 e3 w3.new Tryd.underlying36 rfl sz36 rfl ⟨?_, X2.wr w3 (Nat.le_refl _)⟩
    unfold parseO
    rw [if_pos hl]
  -- region 1
  repeat refine HW.seq ?_
  refine HW.region ?_
  refine HL.still (Runs.move p0) ?_
  intro u17 e17
  refine HL.still (Runs.lenSl rfl Tryd.underlying22 e17) ?_
  intro u18 e18
  refine HL.still (Runs.neq e18 rfl (t := false) (by rw [hl]; rfl)) ?_
  intro u19 e19
  refine HL.still (Runs.assign e19) ?_
  intro u16 e16
  refine HL.nil ?_
  repeat refine HW.seq ?_
  refine HW.no ?_ ?_
  exact e16
  -- region 3
  repeat refine HW.seq ?_
  refine HW.region ?_
  refine HL.still (Runs.move p0) ?_
  intro u22 e22
  refine HL.one (HO.call Tryd.func34 bd34 nm34 (args1 e22) rfl ((sums_ch h2 xs a cap (hsrc.ext X2) hcap hl).mono ?_))
  rintro _ h3 ⟨rfl, E3⟩
  intro u23 e23
  refine HL.still (Runs.notb e23 (u := !sumsO xs) rfl) ?_
  intro u24 e24
  refine HL.still (Runs.assign e24) ?_
  intro u21 e21
  refine HL.nil ?_
  have z3 := E3.size
  have X3 : Ext h h3 := X2.ext E3 (Nat.le_refl _)
  have hb2 := E3.keepE w2.new
  cases hs : sumsO xs with
  | false =>
    rw [hs] at e21
    repeat refine HW.seq ?_
    refine HW.yes ?_ ?_
    exact e21
    -- region 4
    repeat refine HW.seq ?_
    refine HW.region ?_
    refine HL.still Runs.buildZ ?_
    intro u25 e25
    refine HL.zero (HO.storeAll sz36 e2 e25 (one_cells _) hb2 rfl rfl ?_)
    intro h4 w4
    refine HL.still (Runs.assign rfl) ?_
    intro u3 e3
    refine HL.nil ?_
    refine HW.ret ?_
    refine RT.cellTmp rfl e2 e3 w4.new Tryd.underlying36 rfl sz36 rfl ⟨?_, X3.wr w4 (Nat.le_refl _)⟩
    unfold parseO
    rw [if_neg (fun q => q hl), hs, if_pos rfl]
  | true =>
  rw [hs] at e21
  repeat refine HW.seq ?_
  refine HW.no ?_ ?_
  exact e21
  refine HW.skip ?_
  have hdl : (seg xs 257 xs.length).length = xs.length - 257 := seg_len xs 257 xs.length (Nat.le_refl _)
  -- region 5
  repeat refine HW.seq ?_
  refine HW.region ?_
  refine HL.still (Runs.move p0) ?_
  intro u26 e26
  refine HL.still (Runs.sliceSl Tryd.underlying22 sz5 e26 (lo := 257) (hi := xs.length) ⟨_, rfl⟩ rfl (by omega) (by omega) rfl) ?_
  intro u27 e27
  refine HL.still (Runs.toStrB Tryd.underlying22 Tryd.underlying5 Tryd.underlying9 e27 hdl.symm ((hsrc.ext X3).seg 257 xs.length hcap (by omega) (Nat.le_refl _) rfl)) ?_
  intro u28 e28
  refine HL.one (HO.call Tryd.func35 bd35 nm35 (args2 e28 rfl) rfl ((prefix_ch h3 (seg xs 257 xs.length) magic).mono ?_))
  rintro _ h4 ⟨rfl, hh4⟩
  intro u29 e29
  refine HL.still (Runs.assign e29) ?_
  intro u4 e4
  refine HL.nil ?_
  have e4' : u4 = .bool (mgO xs && numsOk xs 0) := e4.trans (congrArg Value.bool (by
    rw [drop_seg, show magic.length = 8 from rfl, take_seg, decide_eq_true (by rw [List.length_drop]; omega), Bool.true_and]
    unfold mgO numsOk
    rw [Bool.and_true]))
  have hne : h4.size ≠ h.size := by rw [hh4]; omega
  rw [← hh4] at E3 X3 hb2
  -- region 6
  repeat refine HW.seq ?_
  refine HW.region ?_
  refine HL.one (HO.alloc zr52 ?_)
  intro h5 w5
  intro u5 e5
  refine HL.nil ?_
  have hb2 := w5.keep hb2
  have z5 := w5.size
  have X5 : Ext h h5 := X3.nw w5 (Nat.le_refl _)
  -- region 7
  repeat refine HW.seq ?_
  refine HW.region ?_
  refine HL.still (Runs.loadAgg Tryd.underlying55 rfl sz55 rfl (cs := plcs.map I64) rfl (plc_load (hP.ext X5))) ?_
  intro u30 e30
  refine HL.still (Runs.move rfl) ?_
  intro u31 e31
  refine HL.nil ?_
  repeat refine HW.seq ?_
  refine HW.block ?_
  refine HW.loop (fun m f g => ∃ k : Nat, k ≤ 7 ∧ m = 7 - k ∧ f 31 = I64 k ∧ f 30 = .agg (plcs.map I64).toArray ∧ f 0 = .slice a xs.length cap ∧ f 2 = .pointer (some ⟨h.size, 0, none⟩) ∧ f 5 = .pointer (some ⟨h4.size, 0, none⟩) ∧ f 4 = .bool (mgO xs && numsOk xs k) ∧ Ext h g ∧ g[h.size]? = some (.cells Hd.zero.cells.toArray 36 (0, 0)) ∧ g[h4.size]? = some (.cells (nk xs k).toArray 52 (0, 0))) 7
    ⟨0, Nat.zero_le _, rfl, e31, e30, p0, e2, e5, e4', X5, hb2, w5.new⟩ ?_
  clear e4' e4 e5 e30 e31 hb2
  rintro m f g ⟨k, hk, hm, f31, f30, f0, f2, f5, f4, hX, hb2, hb5⟩
  by_cases hlt : k < 7
  · have hat := at_sz k hlt
    have hfl : (fld xs k).length = fAt.getD k 0 + fSz.getD k 0 - fAt.getD k 0 := seg_len xs _ _ (by omega)
    -- region 8
    repeat refine HW.seq ?_
    refine HW.region ?_
    refine HL.still (Runs.lss f31 rfl rfl) ?_
    intro u32 e32
    refine HL.nil ?_
    repeat refine HW.seq ?_
    refine HW.yes ?_ ?_
    exact e32.trans (congrArg Value.bool (decide_eq_true (by omega)))
    refine HW.skip ?_
    repeat refine HW.seq ?_
    refine HW.block ?_
    -- region 9
    repeat refine HW.seq ?_
    refine HW.region ?_
    refine HL.still (Runs.move f31) ?_
    intro u33 e33
    refine HL.still (Runs.ixAggs Tryd.underlying55 Tryd.underlying54 rfl sz54 f30 f31 (by omega) (by omega) (plc_cut k hlt)) ?_
    intro u34 e34
    refine HL.one (HO.alloc zr54 ?_)
    intro h7 w7
    intro u7 e7
    refine HL.still (Runs.assign e33) ?_
    intro u6 e6
    refine HL.zero (HO.storeAll sz54 e7 e34 (by intro v hv; simp only [List.mem_cons, List.not_mem_nil, or_false] at hv; rcases hv with rfl | rfl <;> rfl) w7.new rfl rfl ?_)
    intro h8 w8
    refine HL.nil ?_
    have X8 : Ext g h8 := w7.ext.wr w8 (Nat.le_refl _)
    have Y8 : Ext h h8 := hX.ext X8 (Nat.le_refl _)
    -- region 10
    repeat refine HW.seq ?_
    refine HW.region ?_
    refine HL.still (Runs.move f0) ?_
    intro u36 e36
    refine HL.still (Runs.fld (o' := 0) Tryd.underlying54 rfl sz3 (by decide) e7 (by rfl)) ?_
    intro u37 e37
    refine HL.still (Runs.load Tryd.underlying3 rfl e37 ((cellH_of w8.new 0).trans rfl)) ?_
    intro u38 e38
    refine HL.still (Runs.fld (o' := 0) Tryd.underlying54 rfl sz3 (by decide) e7 (by rfl)) ?_
    intro u39 e39
    refine HL.still (Runs.load Tryd.underlying3 rfl e39 ((cellH_of w8.new 0).trans rfl)) ?_
    intro u40 e40
    refine HL.still (Runs.fld (o' := 1) Tryd.underlying54 rfl sz3 (by decide) e7 (by rfl)) ?_
    intro u41 e41
    refine HL.still (Runs.load Tryd.underlying3 rfl e41 ((cellH_of w8.new 1).trans rfl)) ?_
    intro u42 e42
    refine HL.still (Runs.add e40 e42 (i64w (by omega))) ?_
    intro u43 e43
    refine HL.still (Runs.sliceSl Tryd.underlying22 sz5 e36 (lo := fAt.getD k 0) (hi := fAt.getD k 0 + fSz.getD k 0) ⟨_, e38⟩ ⟨_, e43.trans (congrArg (Value.int .i64) (by omega))⟩ (by omega) (by omega) rfl) ?_
    intro u44 e44
    refine HL.one (HO.call Tryd.func14 bd14 nm14 (args1 e44) rfl ((read_n _ (fld xs k) _ _ _ hfl.symm ((hsrc.ext Y8).seg _ _ hcap (by omega) (by omega) rfl) (by omega) (by omega)).mono ?_))
    rintro _ h9 ⟨rfl, E9⟩
    intro u45 e45
    refine HL.still (Runs.move e45) ?_
    intro u35 e35
    refine HL.still (Runs.extr e35 rfl) ?_
    intro u46 e46
    refine HL.still (Runs.extr e35 rfl) ?_
    intro u47 e47
    refine HL.still (Runs.assign e46) ?_
    intro u8 e8
    refine HL.still (Runs.assign e47) ?_
    intro u9 e9
    refine HL.nil ?_
    have X9 : Ext g h9 := X8.ext E9 (Nat.le_refl _)
    have hb2 := X9.keepE hb2
    have hb5 := X9.keepE hb5
    have g9 : u9 = .bool (numOk xs k) := e9
    have g8 : u8 = I64 (num xs k) := e8
    -- region 11
    repeat refine HW.seq ?_
    refine HW.region ?_
    refine HL.still (Runs.move e6) ?_
    intro u48 e48
    refine HL.still (Runs.move g8) ?_
    intro u49 e49
    refine HL.still (Runs.move f4) ?_
    intro u50 e50
    refine HL.still (Runs.move e50) ?_
    intro u51 e51
    refine HL.anyG rfl rfl e51 (fun hg => Runs.move g9) ?_
    intro u52 e52
    refine HL.still (Runs.pick e51 (and_pick e52)) ?_
    intro u53 e53
    refine HL.still (Runs.ixArr (o' := k) Tryd.underlying52 sz3 f5 e48 (by omega) (by omega) (by omega)) ?_
    intro u54 e54
    refine HL.zero (HO.store (s := 1) sz3 e54 e49 rfl hb5 (by rw [nk_len]; omega) rfl ?_)
    intro h10 w10
    refine HL.still (Runs.assign e53) ?_
    intro u4 e4
    refine HL.nil ?_
    have hb5' := w10.new
    rw [nk_step xs k hlt] at hb5'
    have hb2' := w10.keep hb2 hne.symm
    -- region 12
    repeat refine HW.seq ?_
    refine HW.region ?_
    refine HL.still (Runs.add f31 rfl (i64w (by omega))) ?_
    intro u55 e55
    refine HL.still (Runs.move e55) ?_
    intro u31 e31
    refine HL.nil ?_
    refine ⟨7 - (k + 1), by omega, k + 1, by omega, rfl, e31, f30, f0, f2, f5, e4.trans (congrArg Value.bool ?_), (hX.ext X9 (Nat.le_refl _)).wr w10 (by have := X5.size; have := X3.size; omega), hb2', hb5'⟩
    rw [numsOk, Bool.and_assoc]
  have hk7 : k = 7 := by omega
  subst hk7
  -- region 8
  repeat refine HW.seq ?_
  refine HW.region ?_
  refine HL.still (Runs.lss f31 rfl rfl) ?_
  intro u32 e32
  refine HL.nil ?_
  repeat refine HW.seq ?_
  refine HW.no ?_ ?_
  exact e32.trans (congrArg Value.bool (decide_eq_false (by omega)))
  refine HW.exitHere ?_
  have l1 := seg_len xs 0 100 (by omega)
  have l2 := seg_len xs 157 257 (by omega)
  have l3 := seg_len xs 345 500 (by omega)
  have hsg := hsrc.ext hX
  -- region 13
  repeat refine HW.seq ?_
  refine HW.region ?_
  refine HL.still (Runs.move f0) ?_
  intro u57 e57
  refine HL.still (Runs.sliceSl Tryd.underlying22 sz5 e57 (lo := 0) (hi := 100) rfl ⟨_, rfl⟩ (by omega) (by omega) rfl) ?_
  intro u58 e58
  refine HL.one (HO.call Tryd.func36 bd36 nm36 (args1 e58) rfl ((text_n _ (seg xs 0 100) _ _ _ l1.symm (hsg.seg 0 100 hcap (by omega) (by omega) rfl) (by omega)).mono ?_))
  rintro _ h6 ⟨rfl, hh6⟩
  intro u59 e59
  refine HL.still (Runs.move e59) ?_
  intro u56 e56
  refine HL.still (Runs.extr e56 rfl) ?_
  intro u60 e60
  refine HL.still (Runs.extr e56 rfl) ?_
  intro u61 e61
  refine HL.still (Runs.assign e60) ?_
  intro u10 e10
  refine HL.still (Runs.assign e61) ?_
  intro u11 e11
  refine HL.nil ?_
  -- region 14
  repeat refine HW.seq ?_
  refine HW.region ?_
  refine HL.still (Runs.move f0) ?_
  intro u63 e63
  refine HL.still (Runs.sliceSl Tryd.underlying22 sz5 e63 (lo := 157) (hi := 257) ⟨_, rfl⟩ ⟨_, rfl⟩ (by omega) (by omega) rfl) ?_
  intro u64 e64
  refine HL.one (HO.call Tryd.func36 bd36 nm36 (args1 e64) rfl ((text_n _ (seg xs 157 257) _ _ _ l2.symm (by rw [hh6]; exact hsg.seg 157 257 hcap (by omega) (by omega) rfl) (by omega)).mono ?_))
  rintro _ h7 ⟨rfl, hh7⟩
  intro u65 e65
  refine HL.still (Runs.move e65) ?_
  intro u62 e62
  refine HL.still (Runs.extr e62 rfl) ?_
  intro u66 e66
  refine HL.still (Runs.extr e62 rfl) ?_
  intro u67 e67
  refine HL.still (Runs.assign e66) ?_
  intro u12 e12
  refine HL.still (Runs.assign e67) ?_
  intro u13 e13
  refine HL.nil ?_
  -- region 15
  repeat refine HW.seq ?_
  refine HW.region ?_
  refine HL.still (Runs.move f0) ?_
  intro u69 e69
  refine HL.still (Runs.sliceSl Tryd.underlying22 sz5 e69 (lo := 345) (hi := 500) ⟨_, rfl⟩ ⟨_, rfl⟩ (by omega) (by omega) rfl) ?_
  intro u70 e70
  refine HL.one (HO.call Tryd.func36 bd36 nm36 (args1 e70) rfl ((text_n _ (seg xs 345 500) _ _ _ l3.symm (by rw [hh7, hh6]; exact hsg.seg 345 500 hcap (by omega) (by omega) rfl) (by omega)).mono ?_))
  rintro _ h8 ⟨rfl, hh8⟩
  intro u71 e71
  refine HL.still (Runs.move e71) ?_
  intro u68 e68
  refine HL.still (Runs.extr e68 rfl) ?_
  intro u72 e72
  refine HL.still (Runs.extr e68 rfl) ?_
  intro u73 e73
  refine HL.still (Runs.assign e72) ?_
  intro u14 e14
  refine HL.still (Runs.assign e73) ?_
  intro u15 e15
  refine HL.nil ?_
  have t1 := textO_len (seg xs 0 100)
  have t2 := textO_len (seg xs 157 257)
  have t3 := textO_len (seg xs 345 500)
  have g10 : u10 = .string (strOf (textO (seg xs 0 100)).1) := e10
  have g11 : u11 = .bool (textO (seg xs 0 100)).2 := e11
  have g12 : u12 = .string (strOf (textO (seg xs 157 257)).1) := e12
  have g13 : u13 = .bool (textO (seg xs 157 257)).2 := e13
  have g14 : u14 = .string (strOf (textO (seg xs 345 500)).1) := e14
  have g15 : u15 = .bool (textO (seg xs 345 500)).2 := e15
  have hgg : h8 = g := by rw [hh8, hh7, hh6]
  rw [← hgg] at hX hb2 hb5 hsg
  -- region 16
  repeat refine HW.seq ?_
  refine HW.region ?_
  refine HL.still (Runs.move f4) ?_
  intro u74 e74
  refine HL.still (Runs.notb e74 rfl) ?_
  intro u75 e75
  refine HL.still (Runs.move e75) ?_
  intro u76 e76
  refine HL.anyG rfl rfl e76 (fun hg => Runs.move g11) ?_
  intro u77 e77
  refine HL.anyG rfl rfl e76 (fun hg => Runs.notb (e77.trans (if_pos hg)) rfl) ?_
  intro u78 e78
  refine HL.still (Runs.pick e76 (or_pick e78)) ?_
  intro u79 e79
  refine HL.still (Runs.move e79) ?_
  intro u80 e80
  refine HL.anyG rfl rfl e80 (fun hg => Runs.move g13) ?_
  intro u81 e81
  refine HL.anyG rfl rfl e80 (fun hg => Runs.notb (e81.trans (if_pos hg)) rfl) ?_
  intro u82 e82
  refine HL.still (Runs.pick e80 (or_pick e82)) ?_
  intro u83 e83
  refine HL.still (Runs.move e83) ?_
  intro u84 e84
  refine HL.anyG rfl rfl e84 (fun hg => Runs.move g15) ?_
  intro u85 e85
  refine HL.anyG rfl rfl e84 (fun hg => Runs.notb (e85.trans (if_pos hg)) rfl) ?_
  intro u86 e86
  refine HL.still (Runs.pick e84 (or_pick e86)) ?_
  intro u87 e87
  refine HL.nil ?_
  have hform : (((!(mgO xs && numsOk xs 7) || !(textO (seg xs 0 100)).2) || !(textO (seg xs 157 257)).2) || !(textO (seg xs 345 500)).2) = !formO xs := by
    unfold formO mgO
    simp only [Bool.not_and]
  cases hfo : formO xs with
  | false =>
    repeat refine HW.seq ?_
    refine HW.yes (e87.trans (congrArg Value.bool (hform.trans (by rw [hfo]; rfl)))) ?_
    -- region 17
    repeat refine HW.seq ?_
    refine HW.region ?_
    refine HL.still Runs.buildZ ?_
    intro u88 e88
    refine HL.zero (HO.storeAll sz36 f2 e88 (one_cells _) hb2 rfl rfl ?_)
    intro h9 w9
    refine HL.still (Runs.assign rfl) ?_
    intro u3 e3
    refine HL.nil ?_
    refine HW.ret ?_
    refine RT.cellTmp rfl f2 e3 w9.new Tryd.underlying36 rfl sz36 rfl ⟨?_, hX.wr w9 (Nat.le_refl _)⟩
    unfold parseO
    rw [if_neg (fun q => q hl), hs, if_neg (by decide), hfo, if_pos rfl]
  | true =>
  repeat refine HW.seq ?_
  refine HW.no (e87.trans (congrArg Value.bool (hform.trans (by rw [hfo]; rfl)))) ?_
  refine HW.skip ?_
  have hres : parseO xs = (hdrO xs, 0) := by
    unfold parseO
    rw [if_neg (fun q => q hl), hs, if_neg (by decide), hfo, if_neg (by decide)]
  rw [hres]
  refine HW.seq ?_
  refine HW.mono (N := fun f' g => g = h8 ∧ f' 0 = .slice a xs.length cap ∧ f' 2 = .pointer (some ⟨h.size, 0, none⟩) ∧ f' 5 = .pointer (some ⟨h4.size, 0, none⟩) ∧ f' 12 = .string (strOf (textO (seg xs 157 257)).1) ∧ f' 10 = .string (strOf (pfx (textO (seg xs 345 500)).1 (textO (seg xs 0 100)).1))) ?_ ?_ (fun _ _ _ h => h) (fun _ _ h => h)
  · by_cases hp : (textO (seg xs 345 500)).1 = []
    · skip
      -- region 18
      repeat refine HW.seq ?_
      refine HW.region ?_
      refine HL.still (Runs.move g14) ?_
      intro u89 e89
      refine HL.still (Runs.neqS e89 rfl (ys := []) (t := false) (by rw [hp]; rfl)) ?_
      intro u90 e90
      refine HL.nil ?_
      repeat refine HW.seq ?_
      refine HW.no ?_ ?_
      exact e90
      refine HW.skip ?_
      exact ⟨rfl, f0, f2, f5, g12, g10.trans (by rw [pfx, if_pos hp])⟩
    · skip
      -- region 18
      repeat refine HW.seq ?_
      refine HW.region ?_
      refine HL.still (Runs.move g14) ?_
      intro u89 e89
      refine HL.still (Runs.neqS e89 rfl (ys := []) (t := true) (by simpa using hp)) ?_
      intro u90 e90
      refine HL.nil ?_
      repeat refine HW.seq ?_
      refine HW.yes ?_ ?_
      exact e90
      -- region 19
      repeat refine HW.seq ?_
      refine HW.region ?_
      refine HL.still (Runs.move g14) ?_
      intro u91 e91
      refine HL.still (Runs.addS e91 rfl (ys := [47]) (by simp; omega)) ?_
      intro u92 e92
      refine HL.still (Runs.move g10) ?_
      intro u93 e93
      refine HL.still (Runs.addS e92 e93 (by simp; omega)) ?_
      intro u94 e94
      refine HL.still (Runs.assign e94) ?_
      intro u10 e10
      refine HL.nil ?_
      exact ⟨rfl, f0, f2, f5, g12, e10.trans (by rw [pfx, if_neg hp, List.append_assoc]; rfl)⟩
  clear f0 f2 f5 f4 g10 g12 e10 e11 e12 e13 e14 e15
  rintro f g' ⟨rfl, f0, f2, f5, f12, f10⟩
  obtain ⟨sb, so, ha, hc⟩ := hsg.at (k := 156) (by omega)
  have f0' := f0
  rw [ha] at f0'
  -- region 20
  repeat refine HW.seq ?_
  refine HW.drawTail 20 mixed (by kernel_rfl) ?_
  refine HS.still (Runs.move f10) ?_
  intro u95 e95
  refine HS.still (Runs.ixArr (o' := 0) Tryd.underlying52 sz3 f5 rfl (by decide) (by decide) (by rfl)) ?_
  intro u96 e96
  refine HS.still (Runs.load Tryd.underlying3 rfl e96 ((cellH_of hb5 0).trans rfl)) ?_
  intro u97 e97
  refine HS.still (Runs.ixArr (o' := 1) Tryd.underlying52 sz3 f5 rfl (by decide) (by decide) (by rfl)) ?_
  intro u98 e98
  refine HS.still (Runs.load Tryd.underlying3 rfl e98 ((cellH_of hb5 1).trans rfl)) ?_
  intro u99 e99
  refine HS.still (Runs.ixArr (o' := 2) Tryd.underlying52 sz3 f5 rfl (by decide) (by decide) (by rfl)) ?_
  intro u100 e100
  refine HS.still (Runs.load Tryd.underlying3 rfl e100 ((cellH_of hb5 2).trans rfl)) ?_
  intro u101 e101
  refine HS.still (Runs.ixArr (o' := 3) Tryd.underlying52 sz3 f5 rfl (by decide) (by decide) (by rfl)) ?_
  intro u102 e102
  refine HS.still (Runs.load Tryd.underlying3 rfl e102 ((cellH_of hb5 3).trans rfl)) ?_
  intro u103 e103
  refine HS.still (Runs.ixArr (o' := 4) Tryd.underlying52 sz3 f5 rfl (by decide) (by decide) (by rfl)) ?_
  intro u104 e104
  refine HS.still (Runs.load Tryd.underlying3 rfl e104 ((cellH_of hb5 4).trans rfl)) ?_
  intro u105 e105
  refine HS.still (Runs.move f0') ?_
  intro u106 e106
  refine HS.still (Runs.ixSl (o' := so + 156) Tryd.underlying22 sz5 e106 rfl (by omega) (by omega) (by omega)) ?_
  intro u107 e107
  refine HS.still (Runs.load Tryd.underlying5 rfl e107 hc) ?_
  intro u108 e108
  refine HS.still (Runs.move f12) ?_
  intro u109 e109
  refine HS.still (Runs.ixArr (o' := 5) Tryd.underlying52 sz3 f5 rfl (by decide) (by decide) (by rfl)) ?_
  intro u110 e110
  refine HS.still (Runs.load Tryd.underlying3 rfl e110 ((cellH_of hb5 5).trans rfl)) ?_
  intro u111 e111
  refine HS.still (Runs.ixArr (o' := 6) Tryd.underlying52 sz3 f5 rfl (by decide) (by decide) (by rfl)) ?_
  intro u112 e112
  refine HS.still (Runs.load Tryd.underlying3 rfl e112 ((cellH_of hb5 6).trans rfl)) ?_
  intro u113 e113
  refine HS.still (Runs.buildHd (hdrO xs) e95 e97 e99 e101 e103 e105 e108 e109 e111 e113) ?_
  intro u114 e114
  refine HS.nil ?_
  refine HL.zero (HO.storeAll sz36 f2 e114 (one_cells _) hb2 rfl rfl ?_)
  intro h9 w9
  refine HL.still (Runs.assign rfl) ?_
  intro u3 e3
  refine HL.nil ?_
  refine HW.ret ?_
  exact RT.cellTmp rfl f2 e3 w9.new Tryd.underlying36 rfl sz36 rfl ⟨rfl, hX.wr w9 (Nat.le_refl _)⟩
end Go.Proofs.YtfogkggkjmkdiaaDoor
