/- Digests as texts: digest.Print, digest.Parse, and the document's own. -/
import Derived.Test.YtbfmkjfpialihaaDb
import Derived.Test.YtbfmkjfpialihaaLast
namespace Go.Proofs.Ytbfmkjfpialihaa
set_option linter.unnecessarySimpa false
set_option linter.unusedSimpArgs false
set_option linter.unusedVariables false
open Go.RowKit
theorem quo8c (x : UInt8) : IntKind.u8.wrap ((x.toNat : Int).tdiv 16) = ((x.toNat / 16 : Nat) : Int) := by
  have := x.toNat_lt
  rw [Int.tdiv_eq_ediv_of_nonneg (by omega), IntKind.wrap_u8]
  omega
theorem rem8c (x : UInt8) : (x.toNat : Int).tmod 16 = ((x.toNat % 16 : Nat) : Int) := by
  rw [Int.tmod_eq_emod_of_nonneg (by omega)]
  omega
theorem shl8c (x : UInt8) : IntKind.u8.wrap ((x.toNat : Int) * 2 ^ (min (4 : Int).toNat IntKind.u8.bits)) = ((x.toNat * 16 % 256 : Nat) : Int) := by
  rw [show min (4 : Int).toNat IntKind.u8.bits = 4 by decide, IntKind.wrap_u8]
  omega
theorem or8_fin : ∀ x : Fin 16, ∀ n : Fin 16, bits .or .u8 ((x.val * 16 : Nat) : Int) (n.val : Int) = ((UInt8.ofNat (x.val * 16 + n.val)).toNat : Int) := by decide +kernel
theorem or8c (x : UInt8) (n : Nat) (h : n < 16) : bits .or .u8 ((x.toNat * 16 % 256 : Nat) : Int) (n : Int) = ((UInt8.ofNat (x.toNat * 16 % 256 + n)).toNat : Int) := by
  have := or8_fin ⟨x.toNat % 16, by omega⟩ ⟨n, h⟩
  simp only at this
  rwa [show x.toNat % 16 * 16 = x.toNat * 16 % 256 by omega] at this
theorem hexd_fin : ∀ n : Fin 16, hexd[n.val]? = some (hx n.val) := by decide +kernel
theorem hexd_get (j : Nat) (h : j < 16) : hexd[j]? = some (hx j) := hexd_fin ⟨j, h⟩
theorem good_of {t : List UInt8} (h : ∀ j, j < t.length → val (t.getD j 0) < 16) : good t = true := by
  unfold good
  rw [List.all_eq_true]
  intro c hc
  obtain ⟨j, hj, rfl⟩ := List.getElem_of_mem hc
  have := h j hj
  simpa [hj] using this
theorem bad_of {t : List UInt8} {j : Nat} (hj : j < t.length) (h : ¬ val (t.getD j 0) < 16) : good t = false := by
  cases hg : good t with
  | false => rfl
  | true => exact absurd (good_at hg hj) h
theorem parse_bad {s : List UInt8} (h : isD s = false) : parseD s = (zero32, false) := by unfold parseD; rw [if_neg (by rw [h]; decide)]
theorem parse_ok {s : List UInt8} (h : isD s = true) : parseD s = (unhex (s.drop 7), true) := by unfold parseD; rw [if_pos h]
theorem isD_len {s : List UInt8} (h : s.length ≠ 71) : isD s = false := by unfold isD; simp [h]
theorem isD_pre {s : List UInt8} (h : (s.take 7 == pre7) = false) : isD s = false := by unfold isD; simp [h]
theorem isD_good {s : List UInt8} (h : good (s.drop 7) = false) : isD s = false := by unfold isD; simp [h]
theorem isD_yes {s : List UInt8} (h1 : s.length = 71) (h2 : (s.take 7 == pre7) = true) (h3 : good (s.drop 7) = true) : isD s = true := by unfold isD; simp [h1, h3]; simpa using h2
theorem drop_get {s : List UInt8} {n k : Nat} (h : n + k < s.length) : s[n + k]? = some ((s.drop n).getD k 0) := by
  rw [List.getElem?_eq_getElem h]
  simp [h]
theorem pr_len (d : List UInt8) (k : Nat) (h : k ≤ d.length) : (pre7 ++ prH (d.take k)).length = 7 + 2 * k := by
  rw [List.length_append, prH_len, List.length_take]
  simp [pre7]
  omega
set_option maxRecDepth 10000 in
/-- onionskinref02.Print. -/
theorem rprint_ch (h : Heap) (xs : List UInt8) (hx' : xs.length = 32) : CH Try.prog 24 #[.agg (xs.map B8).toArray] h fun v h' => v = .string (strOf (prD xs)) ∧ Ext h h' := by
  refine CH.of_body Try.func24 rfl rfl rfl ?_
  intro f hf
  have p0 : f 0 = .agg (xs.map B8).toArray := by rw [hf]; exact fr0_at rfl
  -- region 0
  repeat refine HW.seq ?_
  refine HW.region ?_
  refine HL.one (HO.box p0 ?_)
  intro h1 w1
  intro u1 e1
  refine HL.still (Runs.assign rfl) ?_
  intro u2 e2
  refine HL.nil ?_
  have z1 := w1.size
  -- region 1
  repeat refine HW.seq ?_
  refine HW.region ?_
  refine HL.still (Runs.assign rfl) ?_
  intro u3 e3
  refine HL.nil ?_
  -- region 2
  repeat refine HW.seq ?_
  refine HW.region ?_
  refine HL.still (Runs.assign rfl) ?_
  intro u4 e4
  refine HL.nil ?_
  repeat refine HW.seq ?_
  refine HW.block ?_
  refine HW.loop (fun m f g => ∃ k : Nat, k ≤ 32 ∧ m = 32 - k ∧ f 4 = I64 k ∧ f 1 = .pointer (some ⟨h.size, 0, none⟩) ∧ f 3 = .string (strOf (pre7 ++ prH (xs.take k))) ∧ (∀ j, j < xs.length → cellH g h.size j = some (B8 (xs.getD j 0))) ∧ Ext h g ∧ h1.size ≤ g.size) 32
    ⟨0, Nat.zero_le _, rfl, e4, e1, e3, fun j hj => cellH_map 0 w1.new hj, w1.ext, Nat.le_refl _⟩ ?_
  rintro m f g ⟨k, hk, hm, f4, f1, f3, hC, hX, hg⟩
  by_cases hlt : k < 32
  · skip
    -- region 3
    repeat refine HW.seq ?_
    refine HW.region ?_
    refine HL.still (Runs.move f4) ?_
    intro u5 e5
    refine HL.still (Runs.lss e5 rfl rfl) ?_
    intro u6 e6
    refine HL.nil ?_
    repeat refine HW.seq ?_
    refine HW.yes ?_ ?_
    exact e6.trans (congrArg Value.bool (decide_eq_true (by omega)))
    refine HW.skip ?_
    repeat refine HW.seq ?_
    refine HW.block ?_
    have hpl := pr_len xs k (by omega)
    have hxl := (xs.getD k 0).toNat_lt
    have hck := hC k (by omega)
    -- region 5
    repeat refine HW.seq ?_
    refine HW.grow #[0, 0, 2, 6, 14, 30, 62, 127, 0, 256, 768, 1792, 3840, 8062, 16383, 32767] (Mk g.size) mixed (by kernel_rfl) (Mk.refl _) Mk.trans ?_
    refine HM.still (Mk.refl _) (fun f h K => Runs.move ((K.keepB (by kernel_rfl)).trans f3)) ?_
    refine HM.still (Mk.refl _) (fun f h K => Runs.move ((K.keep (by kernel_rfl)).trans f4)) ?_
    refine HM.still (Mk.refl _) (fun f h K => Runs.ixArr (o' := k) Try.underlying25 sz5 ((K.keep (by kernel_rfl)).trans f1) (K.at 1 10 rfl rfl) (by omega) (by omega) (by omega)) ?_
    refine HM.still (Mk.refl _) (fun f h K => Runs.load Try.underlying5 rfl (K.at 2 11 rfl rfl) (K.grown.cell hck)) ?_
    refine HM.still (Mk.refl _) (fun f h K => Runs.quo (K.at 3 12 rfl rfl) rfl (by decide) (quo8c _)) ?_
    refine HM.still (Mk.refl _) (fun f h K => Runs.conv Try.underlying5 Try.underlying3 (K.at 4 13 rfl rfl) (i64w (by omega))) ?_
    refine HM.one (fun x _ => x = _) (fun _ _ _ _ e => e) (fun f h K => HO.call Try.func34 bd34 nm34 (args1 (K.at 5 14 rfl rfl)) rfl (((digit_ch h _ (by omega)).same).mono fun _ _ q => ⟨Mk.of_ext q.2 K.grown.size, q.1⟩)) ?_
    refine HM.still (Mk.refl _) (fun f h K => Runs.addS (K.at 0 9 rfl rfl) (K.at 6 15 rfl rfl) (by rw [hpl]; simp; omega)) ?_
    refine HM.still (Mk.refl _) (fun f h K => Runs.move ((K.keep (by kernel_rfl)).trans f4)) ?_
    refine HM.still (Mk.refl _) (fun f h K => Runs.ixArr (o' := k) Try.underlying25 sz5 ((K.keep (by kernel_rfl)).trans f1) (K.at 8 17 rfl rfl) (by omega) (by omega) (by omega)) ?_
    refine HM.still (Mk.refl _) (fun f h K => Runs.load Try.underlying5 rfl (K.at 9 18 rfl rfl) (K.grown.cell hck)) ?_
    refine HM.still (Mk.refl _) (fun f h K => Runs.rem (K.at 10 19 rfl rfl) rfl (by decide) (rem8c _)) ?_
    refine HM.still (Mk.refl _) (fun f h K => Runs.conv Try.underlying5 Try.underlying3 (K.at 11 20 rfl rfl) (i64w (by omega))) ?_
    refine HM.one (fun x _ => x = _) (fun _ _ _ _ e => e) (fun f h K => HO.call Try.func34 bd34 nm34 (args1 (K.at 12 21 rfl rfl)) rfl (((digit_ch h _ (by omega)).same).mono fun _ _ q => ⟨Mk.of_ext q.2 K.grown.size, q.1⟩)) ?_
    refine HM.still (Mk.refl _) (fun f h K => Runs.addS (K.at 7 16 rfl rfl) (K.at 13 22 rfl rfl) (by rw [List.length_append, hpl]; simp; omega)) ?_
    refine HM.still (Mk.refl _) (fun f h K => Runs.assign (K.at 14 23 rfl rfl)) ?_
    intro f' g' hR V O
    have g1 : f' 1 = _ := (last_keep O (by kernel_rfl)).trans f1
    have g4 : f' 4 = _ := (last_keep O (by kernel_rfl)).trans f4
    have g3 : f' 3 = .string (strOf (pre7 ++ prH (xs.take k) ++ [hx ((xs.getD k 0).toNat / 16)] ++ [hx ((xs.getD k 0).toNat % 16)])) := last_at V 15 3 rfl
    rw [show pre7 ++ prH (xs.take k) ++ [hx ((xs.getD k 0).toNat / 16)] ++ [hx ((xs.getD k 0).toNat % 16)] = pre7 ++ prH (xs.take (k + 1)) by rw [prH_succ xs k (by omega)]; simp] at g3
    -- region 4
    repeat refine HW.seq ?_
    refine HW.region ?_
    refine HL.still (Runs.move g4) ?_
    intro u7 e7
    refine HL.still (Runs.add e7 rfl (i64w (by omega))) ?_
    intro u8 e8
    refine HL.still (Runs.assign e8) ?_
    intro u4 e4
    refine HL.nil ?_
    exact ⟨32 - (k + 1), by omega, k + 1, by omega, rfl, e4, g1, g3, fun j hj => hR.cell (hC j hj), hX.trans (hR.bel.mono (by omega)), by have := hR.size; omega⟩
  · have hk32 : k = 32 := by omega
    subst hk32
    -- region 3
    repeat refine HW.seq ?_
    refine HW.region ?_
    refine HL.still (Runs.move f4) ?_
    intro u5 e5
    refine HL.still (Runs.lss e5 rfl rfl) ?_
    intro u6 e6
    refine HL.nil ?_
    repeat refine HW.seq ?_
    refine HW.no ?_ ?_
    exact e6.trans (congrArg Value.bool (decide_eq_false (by omega)))
    refine HW.exitHere ?_
    -- region 6
    repeat refine HW.seq ?_
    refine HW.region ?_
    refine HL.still (Runs.move f3) ?_
    intro u24 e24
    refine HL.still (Runs.assign e24) ?_
    intro u2 e2
    refine HL.nil ?_
    refine HW.ret ?_
    refine RT.one rfl e2 ⟨?_, hX⟩
    rw [List.take_of_length_le (by omega)]
    rfl
theorem run_pre7 (w : World) : (Instr.buildSlice 22 7 #[(0, B8 115), (1, B8 104), (2, B8 97), (3, B8 50), (4, B8 53), (5, B8 54), (6, B8 58)]).run Try.prog w = .ok (.slice (some ⟨w.heap.size, 0, none⟩) 7 7) (w.alloc (.cells (pre7.map B8).toArray 5)) := by kernel_rfl
theorem run_two (x y : UInt8) (w : World) : (Instr.buildSlice 22 2 #[(0, B8 x), (1, B8 y)]).run Try.prog w = .ok (.slice (some ⟨w.heap.size, 0, none⟩) 2 2) (w.alloc (.cells ([x, y].map B8).toArray 5)) := by kernel_rfl
section
variable {ρ : Operand → Value} {h : Heap} {d : Option Tmp} {ty : TypeId} {pos : String} {af : Array Edge} {gd : Option (Nat × Bool)} {K : Value → Heap → Prop} {o0 o1 o2 o3 o4 o5 o6 : Operand}
theorem HO.pre7 (h0 : ρ o0 = B8 115) (h1 : ρ o1 = B8 104) (h2 : ρ o2 = B8 97) (h3 : ρ o3 = B8 50) (h4 : ρ o4 = B8 53) (h5 : ρ o5 = B8 54) (h6 : ρ o6 = B8 58)
    (k : ∀ h', Nw h h' (.cells (pre7.map B8).toArray 5 (0, 0)) → K (.slice (some ⟨h.size, 0, none⟩) 7 7) h') : HO Try.prog ⟨d, .buildSlice 22 7 #[(0, o0), (1, o1), (2, o2), (3, o3), (4, o4), (5, o5), (6, o6)], ty, pos, af, gd⟩ ρ h K :=
  HO.buildSlice (fun w => by
    have e : (#[(0, o0), (1, o1), (2, o2), (3, o3), (4, o4), (5, o5), (6, o6)] : Array (Nat × Operand)).map (fun (i, x) => (i, ρ x)) = #[(0, B8 115), (1, B8 104), (2, B8 97), (3, B8 50), (4, B8 53), (5, B8 54), (6, B8 58)] := by simp [h0, h1, h2, h3, h4, h5, h6]
    rw [e]
    exact run_pre7 w) k
theorem HO.bytes2 (x y : UInt8) (h0 : ρ o0 = B8 x) (h1 : ρ o1 = B8 y)
    (k : ∀ h', Nw h h' (.cells ([x, y].map B8).toArray 5 (0, 0)) → K (.slice (some ⟨h.size, 0, none⟩) 2 2) h') : HO Try.prog ⟨d, .buildSlice 22 2 #[(0, o0), (1, o1)], ty, pos, af, gd⟩ ρ h K :=
  HO.buildSlice (fun w => by
    have e : (#[(0, o0), (1, o1)] : Array (Nat × Operand)).map (fun (i, x) => (i, ρ x)) = #[(0, B8 x), (1, B8 y)] := by simp [h0, h1]
    rw [e]
    exact run_two x y w) k
end
set_option maxRecDepth 10000 in
/-- digest.Print. -/
theorem print_ch (h : Heap) (xs : List UInt8) (hx' : xs.length = 32) : CH Try.prog 23 #[.agg (xs.map B8).toArray] h fun v h' => v = .string (strOf (prD xs)) ∧ Ext h h' := by
  refine CH.of_body Try.func23 rfl rfl rfl ?_
  intro f hf
  have p0 : f 0 = .agg (xs.map B8).toArray := by rw [hf]; exact fr0_at rfl
  -- region 0
  repeat refine HW.seq ?_
  refine HW.region ?_
  refine HL.one (HO.box p0 ?_)
  intro h1 w1
  intro u1 e1
  refine HL.still (Runs.assign rfl) ?_
  intro u2 e2
  refine HL.nil ?_
  have z1 := w1.size
  -- region 1
  repeat refine HW.seq ?_
  refine HW.region ?_
  refine HL.one (HO.pre7 rfl rfl rfl rfl rfl rfl rfl ?_)
  intro h2 w2
  intro u6 e6
  refine HL.one (HO.mark Try.underlying22 Try.underlying5 e6 w2.new ?_)
  intro h3 fr3 w3 c3
  intro u7 e7
  refine HL.still (Runs.assign e7) ?_
  intro u3 e3
  refine HL.nil ?_
  have z2 := w2.size
  have z3 := w3.size
  have hb1 := w3.keep (w2.keep w1.new) (by omega)
  have X3 : Ext h h3 := (w1.ext.nw w2 (Nat.le_refl _)).wr w3 (by omega)
  -- region 2
  repeat refine HW.seq ?_
  refine HW.region ?_
  refine HL.still (Runs.loadAgg Try.underlying25 rfl sz25 e1 (by rw [List.length_map, hx']) (load_blk hb1)) ?_
  intro u8 e8
  refine HL.still (Runs.move rfl) ?_
  intro u9 e9
  refine HL.nil ?_
  repeat refine HW.seq ?_
  refine HW.block ?_
  refine HW.loop (fun m f g => ∃ k : Nat, k ≤ 32 ∧ m = 32 - k ∧ f 9 = I64 k ∧ f 8 = .agg (xs.map B8).toArray ∧ Ext h g ∧ h3.size ≤ g.size ∧ ∃ a' c', f 3 = .slice a' (pre7 ++ prH (xs.take k)).length c' ∧ ((k = 0 ∧ a' = some ⟨h1.size, 0, none⟩ ∧ c' = 7 ∧ Byt g (some ⟨h1.size, 0, none⟩) (pre7 ++ prH (xs.take k))) ∨ Bs g h1.size 5 a' c' (pre7 ++ prH (xs.take k)))) 32
    ⟨0, Nat.zero_le _, rfl, e9, e8, X3, Nat.le_refl _, _, _, e3, .inl ⟨rfl, rfl, rfl, byt_block (xs := pre7) w3.new⟩⟩ ?_
  clear e3 e8 e9
  rintro m f g ⟨k, hk, hm, f9, f8, hX, hg, a', c', f3, hB⟩
  have hpl := pr_len xs k (by omega)
  by_cases hlt : k < 32
  · have hxl := (xs.getD k 0).toNat_lt
    have es : pre7 ++ prH (xs.take k) ++ [hx ((xs.getD k 0).toNat / 16), hx ((xs.getD k 0).toNat % 16)] = pre7 ++ prH (xs.take (k + 1)) := by rw [prH_succ xs k (by omega), List.append_assoc]
    -- region 3
    repeat refine HW.seq ?_
    refine HW.region ?_
    refine HL.still (Runs.lss f9 rfl rfl) ?_
    intro u10 e10
    refine HL.nil ?_
    repeat refine HW.seq ?_
    refine HW.yes ?_ ?_
    exact e10.trans (congrArg Value.bool (decide_eq_true (by omega)))
    refine HW.skip ?_
    repeat refine HW.seq ?_
    refine HW.block ?_
    -- region 4
    repeat refine HW.seq ?_
    refine HW.region ?_
    refine HL.still (Runs.ixAgg Try.underlying25 Try.underlying5 rfl sz5 f8 f9 (by omega) (by omega) (toArray_map B8 xs k 0 (by omega))) ?_
    intro u11 e11
    refine HL.still (Runs.assign e11) ?_
    intro u5 e5
    refine HL.nil ?_
    obtain ⟨gb, hgb, hgl1, hgl2⟩ : ∃ gb, a' = some ⟨gb, 0, none⟩ ∧ h.size ≤ gb ∧ gb < g.size := by
      rcases hB with ⟨hk0, ha', hc', hbyt⟩ | hB
      · exact ⟨h1.size, ha', by omega, by omega⟩
      · rcases hB.blk with e | ⟨g0, e, q1, q2⟩
        · obtain ⟨_, _, e', _⟩ := hB.byt.at (k := 0) (by rw [hpl]; omega)
          rw [e] at e'; cases e'
        · exact ⟨g0, e, by omega, q2⟩
    have hap : ∀ (f' : St) (u : Heap) {ty : TypeId} {pos : String} {af : Array Edge}, Ext g u → f' 12 = .slice a' (pre7 ++ prH (xs.take k)).length c' → (∃ b, f' 19 = .slice (some ⟨b, 0, none⟩) 2 2 ∧ g.size ≤ b ∧ u[b]? = some (.cells ([hx ((xs.getD k 0).toNat / 16), hx ((xs.getD k 0).toNat % 16)].map B8).toArray 5 (0, 0))) →
        HO Try.prog ⟨some 20, .call { callee := .builtin .append, args := #[.tmp 12, .tmp 19], argTypes := #[22, 22] }, ty, pos, af, none⟩ (ev f') u fun v h' => ExB gb u h' ∧ ∃ a7 c7, v = .slice a7 (pre7 ++ prH (xs.take (k + 1))).length c7 ∧ Bs h' h1.size 5 a7 c7 (pre7 ++ prH (xs.take (k + 1))) ∧ Ext h h' ∧ g.size ≤ h'.size := by
      intro f' u ty pos af hEu h12 ⟨b, h19, hb, hbb⟩
      have hus := hEu.size
      rw [← es]
      rcases hB with ⟨hk0, ha', hc', hbyt⟩ | hB
      · rw [ha', hc', show (7 : Nat) = (pre7 ++ prH (xs.take k)).length by rw [hpl, hk0]] at h12
        refine HO.appGrow (c := 0) (base := h1.size) (ys := [hx ((xs.getD k 0).toNat / 16), hx ((xs.getD k 0).toNat % 16)]) Try.underlying22 in5 rfl h12 h19 rfl rfl (show 0 < 2 by decide) (fun j hj => ?_) (byt_block hbb) (by rw [hpl]; simp; omega) (by omega) fun a7 c7 h7 B7 X7 => ⟨ExB.of_ext X7, a7, c7, rfl, B7, (hX.ext hEu (Nat.le_refl _)).ext X7 (Nat.le_refl _), by have := X7.size; omega⟩
        rcases hbyt.ext hEu with e | ⟨sb, so, q1, q2⟩
        · rw [e] at hj; cases hj
        · cases q1; exact q2 j hj
      · have hBu := hB.ext hEu
        refine HO.app Try.underlying22 in5 rfl h12 h19 rfl rfl hBu (byt_block hbb) (by rw [hpl]; simp; omega) (by omega) fun a7 c7 h7 B7 G7 => ⟨⟨G7.size, fun j hj hne => Gr.old G7 j hj (fun e => ?_)⟩, a7, c7, rfl, B7, G7.bel (hX.ext hEu (Nat.le_refl _)) hBu (by omega) (Nat.le_refl _), by have := G7.size; omega⟩
        rw [hgb] at e
        cases e
        exact hne rfl
    -- region 5
    repeat refine HW.seq ?_
    refine HW.last #[0, 0, 2, 6, 0, 16, 48, 126, 255, 511] (fun a b => Ext a b) (ExB gb) 8 mixed (by kernel_rfl) (fun _ => Bel.refl _ _) (fun _ _ _ x y => Bel.ext x y (Nat.le_refl _)) (fun _ => ⟨Nat.le_refl _, fun _ _ _ => rfl⟩) ?_
    refine HM2.still ⟨fun _ => Bel.refl _ _, fun _ => ⟨Nat.le_refl _, fun _ _ _ => rfl⟩⟩ (fun f h K => Runs.move ((K.keepB (by kernel_rfl)).trans f3)) ?_
    refine HM2.still ⟨fun _ => Bel.refl _ _, fun _ => ⟨Nat.le_refl _, fun _ _ _ => rfl⟩⟩ (fun f h K => Runs.move ((K.keep (by kernel_rfl)).trans e5)) ?_
    refine HM2.still ⟨fun _ => Bel.refl _ _, fun _ => ⟨Nat.le_refl _, fun _ _ _ => rfl⟩⟩ (fun f h K => Runs.shr (K.at 1 13 rfl rfl) rfl (by decide) (shr8c _)) ?_
    refine HM2.still ⟨fun _ => Bel.refl _ _, fun _ => ⟨Nat.le_refl _, fun _ _ _ => rfl⟩⟩ (fun f h K => Runs.ixS Try.underlying9 rfl (K.at 2 14 rfl rfl) (xs := hexd) rfl (hexd_get _ (by omega))) ?_
    refine HM2.still ⟨fun _ => Bel.refl _ _, fun _ => ⟨Nat.le_refl _, fun _ _ _ => rfl⟩⟩ (fun f h K => Runs.move ((K.keep (by kernel_rfl)).trans e5)) ?_
    refine HM2.still ⟨fun _ => Bel.refl _ _, fun _ => ⟨Nat.le_refl _, fun _ _ _ => rfl⟩⟩ (fun f h K => Runs.and (K.at 4 16 rfl rfl) rfl (and15 _)) ?_
    refine HM2.still ⟨fun _ => Bel.refl _ _, fun _ => ⟨Nat.le_refl _, fun _ _ _ => rfl⟩⟩ (fun f h K => Runs.ixS Try.underlying9 rfl (K.at 5 17 rfl rfl) (xs := hexd) rfl (hexd_get _ (by omega))) ?_
    refine HM2.one (fun v h' => ∃ b, v = .slice (some ⟨b, 0, none⟩) 2 2 ∧ g.size ≤ b ∧ h'[b]? = some (.cells ([hx ((xs.getD k 0).toNat / 16), hx ((xs.getD k 0).toNat % 16)].map B8).toArray 5 (0, 0))) (fun _ _ => ⟨fun v u u' x ⟨b, q1, q2, q3⟩ => ⟨b, q1, q2, x.keepE q3⟩, fun v u u' x ⟨b, q1, q2, q3⟩ => ⟨b, q1, q2, x.keep q3 (by omega)⟩⟩) (fun f h K => HO.bytes2 _ _ (K.at 3 15 rfl rfl) (K.at 6 18 rfl rfl) fun h' w => ⟨Rk.grow rfl w.ext, _, rfl, (K.grown (.inr rfl)).size, w.new⟩) ?_
    refine HM2.one (fun v h' => ∃ a7 c7, v = .slice a7 (pre7 ++ prH (xs.take (k + 1))).length c7 ∧ Bs h' h1.size 5 a7 c7 (pre7 ++ prH (xs.take (k + 1))) ∧ Ext h h' ∧ g.size ≤ h'.size) (fun e => absurd rfl e) (fun f u K => (hap f u (K.grown (.inl rfl)) (K.at 0 12 rfl rfl) (K.at 7 19 rfl rfl)).mono fun v h' q => ⟨Rk.turn q.1, q.2⟩) ?_
    refine HM2.one (fun v h' => ∃ a7 c7, v = .slice a7 (pre7 ++ prH (xs.take (k + 1))).length c7 ∧ Bs h' h1.size 5 a7 c7 (pre7 ++ prH (xs.take (k + 1))) ∧ Ext h h' ∧ g.size ≤ h'.size) (fun _ e => absurd e (by decide)) (fun f u K => HO.of_runs (Runs.assign rfl) ⟨Rk.refl ⟨fun _ => Bel.refl _ _, fun _ => ⟨Nat.le_refl _, fun _ _ _ => rfl⟩⟩ _, K.at 8 20 rfl rfl⟩) ?_
    intro f' g' V O
    have g9 : f' 9 = _ := (last_keep O (by kernel_rfl)).trans f9
    have g8 : f' 8 = _ := (last_keep O (by kernel_rfl)).trans f8
    obtain ⟨a7, c7, g3, B7, X7, z7⟩ : ∃ a7 c7, f' 3 = .slice a7 (pre7 ++ prH (xs.take (k + 1))).length c7 ∧ Bs g' h1.size 5 a7 c7 (pre7 ++ prH (xs.take (k + 1))) ∧ Ext h g' ∧ g.size ≤ g'.size := last_at V 9 3 rfl
    -- region 6
    repeat refine HW.seq ?_
    refine HW.region ?_
    refine HL.still (Runs.add g9 rfl (i64w (by omega))) ?_
    intro u21 e21
    refine HL.still (Runs.move e21) ?_
    intro u9 e9
    refine HL.nil ?_
    exact ⟨32 - (k + 1), by omega, k + 1, by omega, rfl, e9, g8, X7, by omega, a7, c7, g3, .inr B7⟩
  · have hk32 : k = 32 := by omega
    subst hk32
    have hbyt : Byt g a' (pre7 ++ prH (xs.take 32)) := by
      rcases hB with ⟨hk0, ha', hc', hbyt⟩ | hB
      · cases hk0
      · exact hB.byt
    -- region 3
    repeat refine HW.seq ?_
    refine HW.region ?_
    refine HL.still (Runs.lss f9 rfl rfl) ?_
    intro u10 e10
    refine HL.nil ?_
    repeat refine HW.seq ?_
    refine HW.no ?_ ?_
    exact e10.trans (congrArg Value.bool (decide_eq_false (by omega)))
    refine HW.exitHere ?_
    -- region 7
    repeat refine HW.seq ?_
    refine HW.region ?_
    refine HL.still (Runs.move f3) ?_
    intro u22 e22
    refine HL.still (Runs.toStrB Try.underlying22 Try.underlying5 Try.underlying9 e22 rfl hbyt) ?_
    intro u23 e23
    refine HL.still (Runs.assign e23) ?_
    intro u2 e2
    refine HL.nil ?_
    refine HW.ret ?_
    refine RT.one rfl e2 ⟨?_, hX⟩
    rw [List.take_of_length_le (by omega)]
    rfl
end Go.Proofs.Ytbfmkjfpialihaa
