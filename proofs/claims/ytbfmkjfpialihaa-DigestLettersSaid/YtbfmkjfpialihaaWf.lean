/- onionskinlaw01.small: the small case comes out right. -/
import Derived.Test.YtbfmkjfpialihaaWe
namespace Go.Proofs.Ytbfmkjfpialihaa
set_option linter.unnecessarySimpa false
set_option linter.unusedSimpArgs false
set_option linter.unusedVariables false
open Go.RowKit
theorem nil0 : (SHA []).getD 0 0 = 0xe3 := by decide +kernel
theorem nil1 : (SHA []).getD 1 0 = 0xb0 := by decide +kernel
theorem nil31 : (SHA []).getD 31 0 = 0x55 := by decide +kernel
theorem abc0 : (SHA [97, 98, 99]).getD 0 0 = 0xba := by decide +kernel
theorem abc1 : (SHA [97, 98, 99]).getD 1 0 = 0x78 := by decide +kernel
theorem abc30 : (SHA [97, 98, 99]).getD 30 0 = 0x15 := by decide +kernel
theorem abc31 : (SHA [97, 98, 99]).getD 31 0 = 0xad := by decide +kernel
theorem byt_cells {h : Heap} {sb : Nat} {xs : List UInt8} {t : TypeId} {fr : Nat × Nat} (hb : h[sb]? = some (.cells (xs.map B8).toArray t fr)) : ∀ j, j < xs.length → cellH h sb (0 + j) = some (B8 (xs.getD j 0)) :=
  fun j hj => by rw [Nat.zero_add]; exact cellH_map 0 hb hj
/-- A slice of a text's own bytes, from block M on. -/
def Own1 (M : Nat) (xs : List UInt8) (v : Value) (h : Heap) : Prop := ∃ b, v = .slice (some ⟨b, 0, none⟩) xs.length xs.length ∧ M ≤ b ∧ ∃ fr, h[b]? = some (.cells (xs.map B8).toArray 5 fr)
theorem Own1.stable (M : Nat) (xs : List UInt8) : Stable (Mk M) (Own1 M xs) := fun _ _ _ r ⟨b, e, hb, _, hh⟩ => ⟨b, e, hb, r.cells _ _ _ _ hh⟩
theorem run_abc (w : World) : (Instr.buildSlice 22 3 #[(0, B8 97), (1, B8 98), (2, B8 99)]).run Try.prog w = .ok (.slice (some ⟨w.heap.size, 0, none⟩) 3 3) (w.alloc (.cells ([97, 98, 99].map B8).toArray 5)) := by kernel_rfl
theorem run_bc (w : World) : (Instr.buildSlice 22 2 #[(0, B8 98), (1, B8 99)]).run Try.prog w = .ok (.slice (some ⟨w.heap.size, 0, none⟩) 2 2) (w.alloc (.cells ([98, 99].map B8).toArray 5)) := by kernel_rfl
section
variable {ρ : Operand → Value} {h : Heap} {d : Option Tmp} {ty : TypeId} {pos : String} {af : Array Edge} {gd : Option (Nat × Bool)} {K : Value → Heap → Prop} {x y z : Operand}
theorem HO.abc (hx : ρ x = B8 97) (hy : ρ y = B8 98) (hz : ρ z = B8 99)
    (k : ∀ h', Nw h h' (.cells ([97, 98, 99].map B8).toArray 5 (0, 0)) → K (.slice (some ⟨h.size, 0, none⟩) 3 3) h') : HO Try.prog ⟨d, .buildSlice 22 3 #[(0, x), (1, y), (2, z)], ty, pos, af, gd⟩ ρ h K :=
  HO.buildSlice (fun w => by
    have e : (#[(0, x), (1, y), (2, z)] : Array (Nat × Operand)).map (fun (i, x) => (i, ρ x)) = #[(0, B8 97), (1, B8 98), (2, B8 99)] := by simp [hx, hy, hz]
    rw [e]
    exact run_abc w) k
theorem HO.bc (hx : ρ x = B8 98) (hy : ρ y = B8 99)
    (k : ∀ h', Nw h h' (.cells ([98, 99].map B8).toArray 5 (0, 0)) → K (.slice (some ⟨h.size, 0, none⟩) 2 2) h') : HO Try.prog ⟨d, .buildSlice 22 2 #[(0, x), (1, y)], ty, pos, af, gd⟩ ρ h K :=
  HO.buildSlice (fun w => by
    have e : (#[(0, x), (1, y)] : Array (Nat × Operand)).map (fun (i, x) => (i, ρ x)) = #[(0, B8 98), (1, B8 99)] := by simp [hx, hy]
    rw [e]
    exact run_bc w) k
end
theorem len_ext (h : Heap) (b : Nat) (P : List UInt8) (hb : HashAt h b P) : CH Try.prog 19 #[.pointer (some ⟨b, 0, none⟩)] h fun v h' => v = I64 P.length ∧ Ext h h' :=
  (len_ch h b P hb).mono fun _ _ q => ⟨q.1, by rw [q.2]; exact Bel.refl _ _⟩
set_option maxRecDepth 10000 in
theorem small_ch (h : Heap) : CH Try.prog 13 #[] h fun v h' => v = .bool true ∧ Ext h h' := by
  refine CH.of_body Try.func13 rfl rfl rfl ?_
  intro f hf
  -- region 0
  repeat refine HW.seq ?_
  refine HW.region ?_
  refine HL.still (Runs.assign rfl) ?_
  intro u0 e0
  refine HL.nil ?_
  -- region 1
  repeat refine HW.seq ?_
  refine HW.region ?_
  refine HL.one (HO.call Try.func14 bd14 nm14 (args1 rfl) rfl ((sum_ch _ [] none 0 (.inl rfl) (Nat.le_refl _) (by decide)).mono ?_))
  rintro _ h1 ⟨rfl, E1⟩
  intro u5 e5
  refine HL.one (HO.alloc zr25 ?_)
  intro h2 w2
  intro u1 e1
  refine HL.zero (HO.storeAll sz25 e1 e5 (one_map B8 (fun _ => rfl) _) w2.new (by rw [List.length_map, SHA_len]) rfl ?_)
  intro h3 w3
  refine HL.nil ?_
  have z1 := E1.size
  have z2 := w2.size
  have z3 := w3.size
  have X3 : Ext h h3 := ((E1.ext w2.ext (Nat.le_refl _)).wr w3 (by omega))
  -- region 2
  repeat refine HW.seq ?_
  refine HW.region ?_
  refine HL.one (HO.abc rfl rfl rfl ?_)
  intro h4 w4
  intro u6 e6
  refine HL.one (HO.mark Try.underlying22 Try.underlying5 e6 w4.new ?_)
  intro h5 fr5 w5 c5
  intro u7 e7
  refine HL.one (HO.call Try.func14 bd14 nm14 (args1 e7) rfl ((sum_ch _ [97, 98, 99] (some ⟨h3.size, 0, none⟩) 3 (byt_block w5.new) (Nat.le_refl _) (by decide)).mono ?_))
  rintro _ h6 ⟨rfl, E6⟩
  intro u8 e8
  refine HL.one (HO.alloc zr25 ?_)
  intro h7 w7
  intro u2 e2
  refine HL.zero (HO.storeAll sz25 e2 e8 (one_map B8 (fun _ => rfl) _) w7.new (by rw [List.length_map, SHA_len]) rfl ?_)
  intro h8 w8
  refine HL.nil ?_
  have z4 := w4.size
  have z5 := w5.size
  have z6 := E6.size
  have z7 := w7.size
  have z8 := w8.size
  have X8 : Ext h h8 := (((((X3.nw w4 (Nat.le_refl _)).wr w5 (by omega)).ext E6 (Nat.le_refl _)).nw w7 (Nat.le_refl _)).wr w8 (by omega))
  have A8 : h8[h1.size]? = some (.cells ((SHA []).map B8).toArray 25 (0, 0)) := w8.keep (w7.keep (E6.keepE (w5.keep (w4.keep w3.new) (by omega)))) (by omega)
  -- region 3
  repeat refine HW.seq ?_
  refine HW.region ?_
  refine HL.one (HO.call Try.func16 bd16 nm16 (args0) rfl ((new_ch _).mono ?_))
  rintro _ h9 ⟨rfl, hH9, E9⟩
  intro u9 e9
  refine HL.still (Runs.assign e9) ?_
  intro u3 e3
  refine HL.nil ?_
  have z9 := E9.size
  -- region 4
  repeat refine HW.seq ?_
  refine HW.region ?_
  refine HL.still (Runs.move e3) ?_
  intro u10 e10
  refine HL.still (Runs.eqNil Try.underlying29 e10 rfl) ?_
  intro u11 e11
  refine HL.nil ?_
  repeat refine HW.seq ?_
  refine HW.no ?_ ?_
  exact e11
  refine HW.skip ?_
  -- region 6
  repeat refine HW.seq ?_
  refine HW.region ?_
  refine HL.still (Runs.move e3) ?_
  intro u12 e12
  refine HL.one (HO.bytes1 97 rfl ?_)
  intro h10 w10
  intro u13 e13
  refine HL.one (HO.mark Try.underlying22 Try.underlying5 e13 w10.new ?_)
  intro h11 fr11 w11 c11
  intro u14 e14
  refine HL.one (HO.call Try.func17 bd17 nm17 (args2 e12 e14) rfl ((write_ch _ h8.size [] [97] (some ⟨h9.size, 0, none⟩) 1 (hH9.keep ((w11.old _ (by have := hH9.lt; omega)).trans (w10.old _ hH9.lt))) (src_block w11.new (by have := hH9.lt; omega)) (Nat.le_refl _) (by decide)).mono ?_))
  rintro _ h12 ⟨rfl, hH12, E12⟩
  intro u15 e15
  refine HL.nil ?_
  have z10 := w10.size
  have z11 := w11.size
  have z12 := E12.size
  have l9 := hH9.lt
  have X9 : Ext h h9 := X8.ext E9 (Nat.le_refl _)
  have B12 : Bel h8.size h8 h12 := bel_of_exb (((E9.nw w10 (Nat.le_refl _)).wr w11 (by omega))) E12 (Nat.le_refl _) (Nat.le_refl _)
  -- region 7
  repeat refine HW.seq ?_
  refine HW.region ?_
  refine HL.still (Runs.move e3) ?_
  intro u16 e16
  refine HL.one (HO.call Try.func18 bd18 nm18 (args1 e16) rfl ((hsum_ch _ h8.size _ hH12 (by simp)).mono ?_))
  rintro _ h13 ⟨rfl, E13⟩
  intro u17 e17
  refine HL.one (HO.alloc zr25 ?_)
  intro h14 w14
  intro u4 e4
  refine HL.zero (HO.storeAll sz25 e4 e17 (one_map B8 (fun _ => rfl) _) w14.new (by rw [List.length_map, SHA_len]) rfl ?_)
  intro h15 w15
  refine HL.nil ?_
  have z13 := E13.size
  have z14 := w14.size
  have z15 := w15.size
  have H15 : HashAt h15 h8.size [97] := by
    refine hH12.keep ?_
    rw [w15.old _ (by omega), w14.old _ (by omega), E13.old _ (by omega)]
  have B15 : Bel h8.size h8 h15 := ((B12.ext E13 (by omega)).nw w14 (by omega)).wr w15 (by omega)
  -- region 8
  repeat refine HW.seq ?_
  refine HW.region ?_
  refine HL.still (Runs.move e3) ?_
  intro u18 e18
  refine HL.one (HO.bc rfl rfl ?_)
  intro h16 w16
  intro u19 e19
  refine HL.one (HO.mark Try.underlying22 Try.underlying5 e19 w16.new ?_)
  intro h17 fr17 w17 c17
  intro u20 e20
  refine HL.one (HO.call Try.func17 bd17 nm17 (args2 e18 e20) rfl ((write_ch _ h8.size [97] [98, 99] (some ⟨h15.size, 0, none⟩) 2 (H15.keep ((w17.old _ (by omega)).trans (w16.old _ (by omega)))) (src_block w17.new (by omega)) (Nat.le_refl _) (by decide)).mono ?_))
  rintro _ h18 ⟨rfl, hH18, E18⟩
  intro u21 e21
  refine HL.nil ?_
  have z16 := w16.size
  have z17 := w17.size
  have z18 := E18.size
  have B18 : Bel h8.size h8 h18 := bel_of_exb ((B15.nw w16 (by omega)).wr w17 (by omega)) E18 (by omega) (Nat.le_refl _)
  have X18 : Ext h h18 := X8.trans (B18.mono (by have := X8.size; omega))
  have A18 : h18[h1.size]? = some (.cells ((SHA []).map B8).toArray 25 (0, 0)) := B18.keep A8 (by omega)
  have C18 : h18[h6.size]? = some (.cells ((SHA [97, 98, 99]).map B8).toArray 25 (0, 0)) := B18.keep w8.new (by omega)
  have D18 : h18[h13.size]? = some (.cells ((SHA [97]).map B8).toArray 25 (0, 0)) := E18.keep (w17.keep (w16.keep w15.new) (by omega)) (by omega)
  have l18 := hH18.lt
  rw [show ([97] : List UInt8) ++ [98, 99] = [97, 98, 99] from rfl] at hH18
  -- region 9
  repeat refine HW.seq ?_
  refine HW.grow #[0, 1, 3, 7, 15, 31, 63, 127, 255, 511, 1023, 2047, 4095, 8191, 16383, 32767, 65535, 131071, 262143, 524287, 1048575, 2097151, 4194303, 8388607, 16777215, 33554431, 67108863, 134217727, 268435455, 536870911, 1073741823, 2147483647, 4294967295, 8589934591, 17179869183, 17179869183, 51539607551, 120259084287, 274877906943, 549755813887, 1099511627775, 2199023255551, 4398046511103, 2199023255551, 17592186044415, 35184372088831, 70368744177663, 140737488355327, 281474976710655, 562949953421311, 1125899906842623, 2251799813685247] (Mk h18.size) mixed (by kernel_rfl) (Mk.refl _) Mk.trans ?_
  refine HM.still (Mk.refl _) (fun f h K => Runs.ixArr (o' := 0) Try.underlying25 sz5 ((K.keep (by kernel_rfl)).trans e1) rfl (by decide) (by decide) (by rfl)) ?_
  refine HM.still (Mk.refl _) (fun f h K => Runs.load Try.underlying5 rfl (K.at 0 22 rfl rfl) (K.grown.cell (cellH_map 0 A18 (j := 0) (by rw [SHA_len]; decide)))) ?_
  refine HM.still (Mk.refl _) (fun f h K => Runs.eql (K.at 1 23 rfl rfl) rfl (t := true) (by rw [nil0]; rfl)) ?_
  refine HM.still (Mk.refl _) (fun f h K => Runs.move (K.at 2 24 rfl rfl)) ?_
  refine HM.stillG (Mk.refl _) rfl rfl rfl (fun f h K => K.at 3 25 rfl rfl) (fun f h K => Runs.ixArr (o' := 1) Try.underlying25 sz5 ((K.keep (by kernel_rfl)).trans e1) rfl (by decide) (by decide) (by rfl)) ?_
  refine HM.stillG (Mk.refl _) rfl rfl rfl (fun f h K => K.at 3 25 rfl rfl) (fun f h K => Runs.load Try.underlying5 rfl (K.at 4 26 rfl rfl) (K.grown.cell (cellH_map 0 A18 (j := 1) (by rw [SHA_len]; decide)))) ?_
  refine HM.stillG (Mk.refl _) rfl rfl rfl (fun f h K => K.at 3 25 rfl rfl) (fun f h K => Runs.eql (K.at 5 27 rfl rfl) rfl (t := true) (by rw [nil1]; rfl)) ?_
  refine HM.still (Mk.refl _) (fun f h K => Runs.pick (K.at 3 25 rfl rfl) (K.at 6 28 rfl rfl)) ?_
  refine HM.still (Mk.refl _) (fun f h K => Runs.move (K.at 7 29 rfl rfl)) ?_
  refine HM.stillG (Mk.refl _) rfl rfl rfl (fun f h K => K.at 8 30 rfl rfl) (fun f h K => Runs.ixArr (o' := 31) Try.underlying25 sz5 ((K.keep (by kernel_rfl)).trans e1) rfl (by decide) (by decide) (by rfl)) ?_
  refine HM.stillG (Mk.refl _) rfl rfl rfl (fun f h K => K.at 8 30 rfl rfl) (fun f h K => Runs.load Try.underlying5 rfl (K.at 9 31 rfl rfl) (K.grown.cell (cellH_map 0 A18 (j := 31) (by rw [SHA_len]; decide)))) ?_
  refine HM.stillG (Mk.refl _) rfl rfl rfl (fun f h K => K.at 8 30 rfl rfl) (fun f h K => Runs.eql (K.at 10 32 rfl rfl) rfl (t := true) (by rw [nil31]; rfl)) ?_
  refine HM.still (Mk.refl _) (fun f h K => Runs.pick (K.at 8 30 rfl rfl) (K.at 11 33 rfl rfl)) ?_
  refine HM.still (Mk.refl _) (fun f h K => Runs.move (K.at 12 34 rfl rfl)) ?_
  refine HM.stillG (Mk.refl _) rfl rfl rfl (fun f h K => K.at 13 35 rfl rfl) (fun f h K => Runs.ixArr (o' := 0) Try.underlying25 sz5 ((K.keep (by kernel_rfl)).trans e2) rfl (by decide) (by decide) (by rfl)) ?_
  refine HM.stillG (Mk.refl _) rfl rfl rfl (fun f h K => K.at 13 35 rfl rfl) (fun f h K => Runs.load Try.underlying5 rfl (K.at 14 36 rfl rfl) (K.grown.cell (cellH_map 0 C18 (j := 0) (by rw [SHA_len]; decide)))) ?_
  refine HM.stillG (Mk.refl _) rfl rfl rfl (fun f h K => K.at 13 35 rfl rfl) (fun f h K => Runs.eql (K.at 15 37 rfl rfl) rfl (t := true) (by rw [abc0]; rfl)) ?_
  refine HM.still (Mk.refl _) (fun f h K => Runs.pick (K.at 13 35 rfl rfl) (K.at 16 38 rfl rfl)) ?_
  refine HM.still (Mk.refl _) (fun f h K => Runs.move (K.at 17 39 rfl rfl)) ?_
  refine HM.stillG (Mk.refl _) rfl rfl rfl (fun f h K => K.at 18 40 rfl rfl) (fun f h K => Runs.ixArr (o' := 1) Try.underlying25 sz5 ((K.keep (by kernel_rfl)).trans e2) rfl (by decide) (by decide) (by rfl)) ?_
  refine HM.stillG (Mk.refl _) rfl rfl rfl (fun f h K => K.at 18 40 rfl rfl) (fun f h K => Runs.load Try.underlying5 rfl (K.at 19 41 rfl rfl) (K.grown.cell (cellH_map 0 C18 (j := 1) (by rw [SHA_len]; decide)))) ?_
  refine HM.stillG (Mk.refl _) rfl rfl rfl (fun f h K => K.at 18 40 rfl rfl) (fun f h K => Runs.eql (K.at 20 42 rfl rfl) rfl (t := true) (by rw [abc1]; rfl)) ?_
  refine HM.still (Mk.refl _) (fun f h K => Runs.pick (K.at 18 40 rfl rfl) (K.at 21 43 rfl rfl)) ?_
  refine HM.still (Mk.refl _) (fun f h K => Runs.move (K.at 22 44 rfl rfl)) ?_
  refine HM.stillG (Mk.refl _) rfl rfl rfl (fun f h K => K.at 23 45 rfl rfl) (fun f h K => Runs.ixArr (o' := 30) Try.underlying25 sz5 ((K.keep (by kernel_rfl)).trans e2) rfl (by decide) (by decide) (by rfl)) ?_
  refine HM.stillG (Mk.refl _) rfl rfl rfl (fun f h K => K.at 23 45 rfl rfl) (fun f h K => Runs.load Try.underlying5 rfl (K.at 24 46 rfl rfl) (K.grown.cell (cellH_map 0 C18 (j := 30) (by rw [SHA_len]; decide)))) ?_
  refine HM.stillG (Mk.refl _) rfl rfl rfl (fun f h K => K.at 23 45 rfl rfl) (fun f h K => Runs.eql (K.at 25 47 rfl rfl) rfl (t := true) (by rw [abc30]; rfl)) ?_
  refine HM.still (Mk.refl _) (fun f h K => Runs.pick (K.at 23 45 rfl rfl) (K.at 26 48 rfl rfl)) ?_
  refine HM.still (Mk.refl _) (fun f h K => Runs.move (K.at 27 49 rfl rfl)) ?_
  refine HM.stillG (Mk.refl _) rfl rfl rfl (fun f h K => K.at 28 50 rfl rfl) (fun f h K => Runs.ixArr (o' := 31) Try.underlying25 sz5 ((K.keep (by kernel_rfl)).trans e2) rfl (by decide) (by decide) (by rfl)) ?_
  refine HM.stillG (Mk.refl _) rfl rfl rfl (fun f h K => K.at 28 50 rfl rfl) (fun f h K => Runs.load Try.underlying5 rfl (K.at 29 51 rfl rfl) (K.grown.cell (cellH_map 0 C18 (j := 31) (by rw [SHA_len]; decide)))) ?_
  refine HM.stillG (Mk.refl _) rfl rfl rfl (fun f h K => K.at 28 50 rfl rfl) (fun f h K => Runs.eql (K.at 30 52 rfl rfl) rfl (t := true) (by rw [abc31]; rfl)) ?_
  refine HM.still (Mk.refl _) (fun f h K => Runs.pick (K.at 28 50 rfl rfl) (K.at 31 53 rfl rfl)) ?_
  refine HM.still (Mk.refl _) (fun f h K => Runs.move (K.at 32 54 rfl rfl)) ?_
  refine HM.stillG (Mk.refl _) rfl rfl rfl (fun f h K => K.at 33 55 rfl rfl) (fun f h K => Runs.loadAgg Try.underlying25 rfl sz25 ((K.keep (by kernel_rfl)).trans e4) (by rw [List.length_map, SHA_len]) (fun j v hj => K.grown.cell (load_blk D18 j v hj))) ?_
  refine HM.oneG (Own1 h18.size [97]) (Own1.stable _ _) rfl rfl rfl (fun f h K => K.at 33 55 rfl rfl) (fun f h K => HO.bytes1 97 rfl fun h' w => ⟨Mk.of_ext w.ext K.grown.size, _, rfl, K.grown.size, _, w.new⟩) ?_
  refine HM.oneG (Own1 h18.size [97]) (Own1.stable _ _) rfl rfl rfl (fun f h K => K.at 33 55 rfl rfl) (fun f h K => by obtain ⟨b, eb, hM, fr, hb⟩ := K.at 35 57 rfl rfl; exact HO.mark Try.underlying22 Try.underlying5 eb hb fun h' fr' w _ => ⟨Mk.of_wr hb w hM, b, rfl, hM, fr', w.new⟩) ?_
  refine HM.oneG (fun x _ => x = .agg ((SHA [97]).map B8).toArray) (fun _ _ _ _ e => e) rfl rfl rfl (fun f h K => K.at 33 55 rfl rfl) (fun f h K => by obtain ⟨b, eb, hM, fr, hb⟩ := K.at 36 58 rfl rfl; exact HO.call Try.func14 bd14 nm14 (args1 eb) rfl ((sum_ch h [97] (some ⟨b, 0, none⟩) 1 (byt_block hb) (Nat.le_refl _) (by decide)).mono fun _ _ q => ⟨Mk.of_ext q.2 K.grown.size, q.1⟩)) ?_
  refine HM.stillG (Mk.refl _) rfl rfl rfl (fun f h K => K.at 33 55 rfl rfl) (fun f h K => Runs.eqBytes Try.underlying25 Try.underlying5 sz5 eg25 (K.at 34 56 rfl rfl) (K.at 37 59 rfl rfl) (t := true) (SHA_len _) (SHA_len _) (beq_self_eq_true _)) ?_
  refine HM.still (Mk.refl _) (fun f h K => Runs.pick (K.at 33 55 rfl rfl) (K.at 38 60 rfl rfl)) ?_
  refine HM.still (Mk.refl _) (fun f h K => Runs.move (K.at 39 61 rfl rfl)) ?_
  refine HM.stillG (Mk.refl _) rfl rfl rfl (fun f h K => K.at 40 62 rfl rfl) (fun f h K => Runs.move ((K.keep (by kernel_rfl)).trans e3)) ?_
  refine HM.oneG (fun x _ => x = _) (fun _ _ _ _ e => e) rfl rfl rfl (fun f h K => K.at 40 62 rfl rfl) (fun f h K => HO.call Try.func18 bd18 nm18 (args1 (K.at 41 63 rfl rfl)) rfl ((hsum_ch h h8.size _ (hH18.keep (K.grown.old _ (by omega))) (by decide)).mono fun _ _ q => ⟨Mk.of_ext q.2 K.grown.size, q.1⟩)) ?_
  refine HM.stillG (Mk.refl _) rfl rfl rfl (fun f h K => K.at 40 62 rfl rfl) (fun f h K => Runs.loadAgg Try.underlying25 rfl sz25 ((K.keep (by kernel_rfl)).trans e2) (by rw [List.length_map, SHA_len]) (fun j v hj => K.grown.cell (load_blk C18 j v hj))) ?_
  refine HM.stillG (Mk.refl _) rfl rfl rfl (fun f h K => K.at 40 62 rfl rfl) (fun f h K => Runs.eqBytes Try.underlying25 Try.underlying5 sz5 eg25 (K.at 42 64 rfl rfl) (K.at 43 65 rfl rfl) (t := true) (SHA_len _) (SHA_len _) (beq_self_eq_true _)) ?_
  refine HM.still (Mk.refl _) (fun f h K => Runs.pick (K.at 40 62 rfl rfl) (K.at 44 66 rfl rfl)) ?_
  refine HM.still (Mk.refl _) (fun f h K => Runs.move (K.at 45 67 rfl rfl)) ?_
  refine HM.stillG (Mk.refl _) rfl rfl rfl (fun f h K => K.at 46 68 rfl rfl) (fun f h K => Runs.move ((K.keep (by kernel_rfl)).trans e3)) ?_
  refine HM.oneG (fun x _ => x = _) (fun _ _ _ _ e => e) rfl rfl rfl (fun f h K => K.at 46 68 rfl rfl) (fun f h K => HO.call Try.func19 bd19 nm19 (args1 (K.at 47 69 rfl rfl)) rfl ((len_ext h h8.size _ (hH18.keep (K.grown.old _ (by omega)))).mono fun _ _ q => ⟨Mk.of_ext q.2 K.grown.size, q.1⟩)) ?_
  refine HM.stillG (Mk.refl _) rfl rfl rfl (fun f h K => K.at 46 68 rfl rfl) (fun f h K => Runs.eql (K.at 48 70 rfl rfl) rfl (t := true) rfl) ?_
  refine HM.still (Mk.refl _) (fun f h K => Runs.pick (K.at 46 68 rfl rfl) (K.at 49 71 rfl rfl)) ?_
  refine HM.still (Mk.refl _) (fun f h K => Runs.assign (K.at 50 72 rfl rfl)) ?_
  intro f' h' hR V _
  refine HW.ret ?_
  exact RT.one rfl (last_at V 51 0 rfl) ⟨rfl, X18.trans (hR.bel.mono (by have := X18.size; omega))⟩
end Go.Proofs.Ytbfmkjfpialihaa
