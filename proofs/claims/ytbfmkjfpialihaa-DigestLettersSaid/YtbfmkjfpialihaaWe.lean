/- Hash.Sum, sha.Sum: the digest of all that came. -/
import Derived.Test.YtbfmkjfpialihaaWd
namespace Go.Proofs.Ytbfmkjfpialihaa
set_option linter.unnecessarySimpa false
set_option linter.unusedSimpArgs false
set_option linter.unusedVariables false
open Go.RowKit
theorem hcells_one (hs : List (BitVec 32)) (rest : List UInt8) (n : Int) : ∀ v ∈ hcells hs rest n, v.oneCell' = true := by
  intro v hv
  unfold hcells at hv
  rcases List.mem_append.1 hv with hv | hv
  · rcases List.mem_append.1 hv with hv | hv
    · exact one_map W32 (fun _ => rfl) _ v hv
    · exact one_map B8 (fun _ => rfl) _ v hv
  · simp at hv; subst hv; rfl
theorem run_bytes1 (c : UInt8) (w : World) : (Instr.buildSlice 22 1 #[(0, B8 c)]).run Try.prog w = .ok (.slice (some ⟨w.heap.size, 0, none⟩) 1 1) (w.alloc (.cells ([c].map B8).toArray 5)) := by kernel_rfl
/-- A slice of one byte that the text writes out. -/
theorem HO.bytes1 {ρ : Operand → Value} {h : Heap} {d : Option Tmp} {ty : TypeId} {pos : String} {af : Array Edge} {gd : Option (Nat × Bool)} {K : Value → Heap → Prop} {x : Operand} (c : UInt8) (hx : ρ x = B8 c)
    (k : ∀ h', Nw h h' (.cells ([c].map B8).toArray 5 (0, 0)) → K (.slice (some ⟨h.size, 0, none⟩) 1 1) h') : HO Try.prog ⟨d, .buildSlice 22 1 #[(0, x)], ty, pos, af, gd⟩ ρ h K :=
  HO.buildSlice (fun w => by
    have e : (#[(0, x)] : Array (Nat × Operand)).map (fun (i, x) => (i, ρ x)) = #[(0, B8 c)] := by simp [hx]
    rw [e]
    exact run_bytes1 c w) k
theorem src_block {h : Heap} {nb sb : Nat} {xs : List UInt8} {t : TypeId} {fr : Nat × Nat} (hb : h[sb]? = some (.cells (xs.map B8).toArray t fr)) (hne : sb ≠ nb) : Src h nb (some ⟨sb, 0, none⟩) xs :=
  .inr ⟨sb, 0, rfl, hne, fun j hj => by rw [Nat.zero_add]; exact cellH_map 0 hb hj⟩
theorem zeros_spec (n z : Nat) (hz : z ≤ zeros n) : (n + 1 + z) % 64 = 56 ↔ z = zeros n := by
  unfold zeros at *
  omega
def lenR (m : Nat) : Nat → List UInt8
  | 0 => List.replicate 8 0
  | k + 1 => (lenR m k).set (7 - k) (UInt8.ofNat (m / 2 ^ (8 * k)))
theorem lenR_len (m k : Nat) : (lenR m k).length = 8 := by
  induction k with
  | zero => rfl
  | succ k ih => simp [lenR, ih]
theorem lenR_eq (m : Nat) : lenR m 8 = lenBytes m := by
  simp [lenR, lenBytes, List.range, List.range.loop, List.replicate]
theorem lenBytes_len (m : Nat) : (lenBytes m).length = 8 := by simp [lenBytes]
/-- A row that is filled from its begin. -/
theorem fill_step {α : Type} (f : Nat → α) (n k : Nat) (z : α) (hk : k < n) : ((List.range k).map f ++ List.replicate (n - k) z).set k (f k) = (List.range (k + 1)).map f ++ List.replicate (n - (k + 1)) z := by
  rw [List.set_append_right _ _ (by simp)]
  simp only [List.length_map, List.length_range, Nat.sub_self]
  rw [show n - k = (n - (k + 1)) + 1 by omega, List.replicate_succ, List.set_cons_zero, List.range_succ, List.map_append, List.append_assoc]
  rfl
theorem shr64i (m k : Nat) (hk : k ≤ 64) : ((m : Int)).fdiv (2 ^ (min (k : Int).toNat IntKind.u64.bits)) = ((m / 2 ^ k : Nat) : Int) := by
  have e : min (k : Int).toNat IntKind.u64.bits = k := by simp [IntKind.bits]; omega
  rw [e, Int.fdiv_eq_ediv_of_nonneg _ (Int.pow_nonneg (by decide))]
  simp
theorem u8_of_nat (m : Nat) : IntKind.u8.wrap (m : Int) = ((UInt8.ofNat m).toNat : Int) := by
  rw [IntKind.wrap_u8, UInt8.toNat_ofNat']
  omega
theorem shr32i (x : BitVec 32) (k : Nat) (hk : k ≤ 32) : ((x.toNat : Int)).fdiv (2 ^ (min (k : Int).toNat IntKind.u32.bits)) = ((x >>> k).toNat : Int) := shr32c x k hk
/-- A digest's byte. -/
def digAt (hs : List (BitVec 32)) (k : Nat) : UInt8 := UInt8.ofNat ((hs.getD (k / 4) 0) >>> (8 * (3 - k % 4))).toNat
theorem digBytes_eq (hs : List (BitVec 32)) : (List.range 32).map (digAt hs) ++ List.replicate (32 - 32) 0 = digBytes hs := by rw [Nat.sub_self, List.replicate_zero, List.append_nil]; rfl
set_option maxRecDepth 10000 in
theorem hsum_ch (h : Heap) (b : Nat) (P : List UInt8) (hb : HashAt h b P) (hlen : P.length < 1152921504606846976) :
    CH Try.prog 18 #[.pointer (some ⟨b, 0, none⟩)] h fun v h' => v = .agg ((SHA P).map B8).toArray ∧ Ext h h' := by
  refine CH.of_body Try.func18 rfl rfl rfl ?_
  intro f hf
  have hbl := hb.lt
  have p0 : f 0 = .pointer (some ⟨b, 0, none⟩) := by rw [hf]; exact fr0_at rfl
  obtain ⟨hs, rest, s, hbb⟩ := hb
  -- region 0
  repeat refine HW.seq ?_
  refine HW.region ?_
  refine HL.one (HO.alloc zr25 ?_)
  intro h1 w1
  intro u2 e2
  refine HL.nil ?_
  have s1 := w1.size
  -- region 1
  repeat refine HW.seq ?_
  refine HW.region ?_
  refine HL.still (Runs.move p0) ?_
  intro u9 e9
  refine HL.still (Runs.nilc e9) ?_
  intro u10 e10
  refine HL.still (Runs.loadAgg Try.underlying53 rfl sz53 e10 (by rw [hcells_len, s.h8, s.len]) (load_blk (w1.keep hbb))) ?_
  intro u11 e11
  refine HL.one (HO.alloc zr53 ?_)
  intro h2 w2
  intro u3 e3
  refine HL.zero (HO.storeAll sz53 e3 e11 (hcells_one _ _ _) w2.new (by rw [hcells_len, s.h8, s.len]) rfl ?_)
  intro h3 w3
  refine HL.nil ?_
  have s2 := w2.size
  have s3 := w3.size
  have hX3 : HashAt h3 h1.size P := ⟨hs, rest, s, w3.new⟩
  have hN3 := w3.keep (w2.keep w1.new) (by omega)
  -- region 2
  repeat refine HW.seq ?_
  refine HW.region ?_
  refine HL.still (Runs.move p0) ?_
  intro u12 e12
  refine HL.still (Runs.nilc e12) ?_
  intro u13 e13
  refine HL.still (Runs.fld (o' := 72) Try.underlying53 rfl sz3 (by decide) e13 (by rfl)) ?_
  intro u14 e14
  refine HL.still (Runs.load Try.underlying3 rfl e14 (hcell_n (w3.keep (w2.keep (w1.keep hbb)) (by omega)) s.h8 s.len)) ?_
  intro u15 e15
  refine HL.still (Runs.conv Try.underlying3 Try.underlying54 e15 (u64w (by omega))) ?_
  intro u16 e16
  refine HL.still (Runs.mul e16 rfl (u64w (by omega))) ?_
  intro u17 e17
  refine HL.still (Runs.assign e17) ?_
  intro u4 e4
  refine HL.nil ?_
  -- region 3
  repeat refine HW.seq ?_
  refine HW.region ?_
  refine HL.one (HO.bytes1 128 rfl ?_)
  intro h4 w4
  intro u18 e18
  refine HL.one (HO.call Try.func17 bd17 nm17 (args2 e3 e18) rfl ((write_ch _ h1.size P [128] (some ⟨h3.size, 0, none⟩) 1 (hX3.keep (w4.old _ (by omega))) (src_block w4.new (by omega)) (Nat.le_refl _) (by simp; omega)).mono ?_))
  rintro _ h5 ⟨rfl, hX5, E5⟩
  intro u19 e19
  refine HL.nil ?_
  have s4 := w4.size
  have hN5 := E5.keep (w4.keep hN3) (by omega)
  have B5 : Bel h.size h h5 := bel_of_exb ((((w1.ext).ext w2.ext (Nat.le_refl _)).wr w3 (by omega)).ext w4.ext (Nat.le_refl _)) E5 (Nat.le_refl _) (by omega)
  repeat refine HW.seq ?_
  refine HW.block ?_
  refine HW.loop (fun m f h' => ∃ z : Nat, z ≤ zeros P.length ∧ m = zeros P.length - z ∧ f 2 = .pointer (some ⟨h.size, 0, none⟩) ∧ f 3 = .pointer (some ⟨h1.size, 0, none⟩) ∧ f 4 = .int .u64 ((P.length : Int) * 8) ∧
    HashAt h' h1.size (P ++ [128] ++ List.replicate z 0) ∧ h'[h.size]? = some (.cells ((List.replicate 32 (0 : UInt8)).map B8).toArray 25 (0, 0)) ∧ Bel h.size h h' ∧ h1.size < h'.size) (zeros P.length)
    ⟨0, Nat.zero_le _, rfl, e2, e3, e4, by simpa using hX5, hN5, B5, hX5.lt⟩ ?_
  clear hX3 hN3 hX5 hN5 B5 hbb e2 e3 e4
  rintro m f h' ⟨z, hz, hm, f2, f3, f4, hX, hN, hB, hsz⟩
  have hz63 : zeros P.length < 64 := by unfold zeros; omega
  obtain ⟨hs', rest', s', hb'⟩ := id hX
  have hQl : (P ++ [128] ++ List.replicate z (0 : UInt8)).length = P.length + 1 + z := by simp; omega
  have hm64 : ((P ++ [128] ++ List.replicate z (0 : UInt8)).length : Int) % 64 = (((P.length + 1 + z) % 64 : Nat) : Int) := by rw [hQl]; omega
  have hzs := zeros_spec P.length z hz
  by_cases hlt : z < zeros P.length
  · skip
    -- region 4
    repeat refine HW.seq ?_
    refine HW.region ?_
    refine HL.still (Runs.fld (o' := 72) Try.underlying53 rfl sz3 (by decide) f3 (by rfl)) ?_
    intro u20 e20
    refine HL.still (Runs.load Try.underlying3 rfl e20 (hcell_n hb' s'.h8 s'.len)) ?_
    intro u21 e21
    refine HL.still (Runs.rem e21 rfl (by decide) ((rem64 (by omega) (by decide)).trans hm64)) ?_
    intro u22 e22
    refine HL.still (Runs.neq e22 rfl rfl) ?_
    intro u23 e23
    refine HL.nil ?_
    repeat refine HW.seq ?_
    refine HW.yes ?_ ?_
    exact e23.trans (congrArg Value.bool (by simp; omega))
    refine HW.skip ?_
    repeat refine HW.seq ?_
    refine HW.block ?_
    -- region 5
    repeat refine HW.seq ?_
    refine HW.region ?_
    refine HL.one (HO.bytes1 0 rfl ?_)
    intro h6 w6
    intro u24 e24
    refine HL.one (HO.call Try.func17 bd17 nm17 (args2 f3 e24) rfl ((write_ch _ h1.size _ [0] (some ⟨h'.size, 0, none⟩) 1 (hX.keep (w6.old _ (by omega))) (src_block w6.new (by omega)) (Nat.le_refl _) (by rw [hQl]; simp; omega)).mono ?_))
    rintro _ h7 ⟨rfl, hX7, E7⟩
    intro u25 e25
    refine HL.nil ?_
    have s6 := w6.size
    have hs7 := E7.size
    refine ⟨zeros P.length - (z + 1), by omega, z + 1, by omega, rfl, f2, f3, f4, ?_, E7.keep (w6.keep hN) (by omega), bel_of_exb (hB.nw w6 (Nat.le_refl _)) E7 (Nat.le_refl _) (by omega), by omega⟩
    rw [List.replicate_succ', ← List.append_assoc]
    exact hX7
  · have hzz : z = zeros P.length := by omega
    -- region 4
    repeat refine HW.seq ?_
    refine HW.region ?_
    refine HL.still (Runs.fld (o' := 72) Try.underlying53 rfl sz3 (by decide) f3 (by rfl)) ?_
    intro u20 e20
    refine HL.still (Runs.load Try.underlying3 rfl e20 (hcell_n hb' s'.h8 s'.len)) ?_
    intro u21 e21
    refine HL.still (Runs.rem e21 rfl (by decide) ((rem64 (by omega) (by decide)).trans hm64)) ?_
    intro u22 e22
    refine HL.still (Runs.neq e22 rfl rfl) ?_
    intro u23 e23
    refine HL.nil ?_
    repeat refine HW.seq ?_
    refine HW.no ?_ ?_
    exact e23.trans (congrArg Value.bool (by simp; omega))
    refine HW.exitHere ?_
    subst hzz
    clear hzs hlt hm
    -- region 6
    repeat refine HW.seq ?_
    refine HW.region ?_
    refine HL.one (HO.alloc zr55 ?_)
    intro h6 w6
    intro u5 e5
    refine HL.nil ?_
    have s6 := w6.size
    -- region 7
    repeat refine HW.seq ?_
    refine HW.region ?_
    refine HL.still (Runs.move rfl) ?_
    intro u26 e26
    refine HL.nil ?_
    repeat refine HW.seq ?_
    refine HW.block ?_
    refine HW.loop (fun m f h'' => ∃ k : Nat, k ≤ 8 ∧ m = 8 - k ∧ f 26 = I64 k ∧ f 2 = .pointer (some ⟨h.size, 0, none⟩) ∧ f 3 = .pointer (some ⟨h1.size, 0, none⟩) ∧ f 4 = .int .u64 ((P.length : Int) * 8) ∧ f 5 = .pointer (some ⟨h'.size, 0, none⟩) ∧
      HashAt h'' h1.size (P ++ [128] ++ List.replicate (zeros P.length) 0) ∧ h''[h.size]? = some (.cells ((List.replicate 32 (0 : UInt8)).map B8).toArray 25 (0, 0)) ∧ h''[h'.size]? = some (.cells ((lenR (P.length * 8) k).map B8).toArray 55 (0, 0)) ∧ Bel h.size h h'' ∧ h''.size = h6.size) 8
      ⟨0, Nat.zero_le _, rfl, e26, f2, f3, f4, e5, hX.keep (w6.old _ hsz), w6.keep hN, w6.new, hB.nw w6 (Nat.le_refl _), rfl⟩ ?_
    clear hX hN hB hb' f2 f3 f4 e5 e26
    rintro m f h'' ⟨k, hk, hm, f26, f2, f3, f4, f5, hX, hN, hL, hB, hsz2⟩
    have hll := lenR_len (P.length * 8) k
    by_cases hlt : k < 8
    · skip
      -- region 8
      repeat refine HW.seq ?_
      refine HW.region ?_
      refine HL.still (Runs.lss f26 rfl rfl) ?_
      intro u27 e27
      refine HL.nil ?_
      repeat refine HW.seq ?_
      refine HW.yes ?_ ?_
      exact e27.trans (congrArg Value.bool (decide_eq_true (by omega)))
      refine HW.skip ?_
      repeat refine HW.seq ?_
      refine HW.block ?_
      -- region 9
      repeat refine HW.seq ?_
      refine HW.region ?_
      refine HL.still (Runs.move f26) ?_
      intro u28 e28
      refine HL.still (Runs.assign e28) ?_
      intro u6 e6
      refine HL.nil ?_
      have hsh : ((P.length : Int) * 8).fdiv (2 ^ (min ((8 : Int) * (k : Int)).toNat IntKind.u64.bits)) = (((P.length * 8) / 2 ^ (8 * k) : Nat) : Int) := shr64i (P.length * 8) (8 * k) (by omega)
      -- region 10
      repeat refine HW.seq ?_
      refine HW.region ?_
      refine HL.still (Runs.move e6) ?_
      intro u29 e29
      refine HL.still (Runs.sub rfl e29 (i64w (by omega))) ?_
      intro u30 e30
      refine HL.still (Runs.move f4) ?_
      intro u31 e31
      refine HL.still (Runs.move e6) ?_
      intro u32 e32
      refine HL.still (Runs.mul rfl e32 (i64w (by omega))) ?_
      intro u33 e33
      refine HL.still (Runs.shr e31 e33 (by omega) hsh) ?_
      intro u34 e34
      refine HL.still (Runs.conv Try.underlying54 Try.underlying5 e34 (u8_of_nat _)) ?_
      intro u35 e35
      refine HL.still (Runs.ixArr (o' := 7 - k) Try.underlying55 sz5 f5 e30 (by omega) (by omega) (by omega)) ?_
      intro u36 e36
      refine HL.zero (HO.store (s := 1) sz5 e36 e35 rfl hL (by simp; omega) rfl ?_)
      intro h7 w7
      refine HL.nil ?_
      have hL7 := w7.new
      rw [← List.map_set] at hL7
      have s7 := w7.size
      -- region 11
      repeat refine HW.seq ?_
      refine HW.region ?_
      refine HL.still (Runs.add f26 rfl (i64w (by omega))) ?_
      intro u37 e37
      refine HL.still (Runs.move e37) ?_
      intro u26 e26
      refine HL.nil ?_
      exact ⟨8 - (k + 1), by omega, k + 1, by omega, rfl, e26, f2, f3, f4, f5, hX.keep (w7.old _ (by omega)), w7.keep hN (by omega), hL7, hB.wr w7 (by omega), by omega⟩
    · have hk8 : k = 8 := by omega
      subst hk8
      -- region 8
      repeat refine HW.seq ?_
      refine HW.region ?_
      refine HL.still (Runs.lss f26 rfl rfl) ?_
      intro u27 e27
      refine HL.nil ?_
      repeat refine HW.seq ?_
      refine HW.no ?_ ?_
      exact e27.trans (congrArg Value.bool (decide_eq_false (by omega)))
      refine HW.exitHere ?_
      rw [lenR_eq] at hL
      -- region 12
      repeat refine HW.seq ?_
      refine HW.region ?_
      refine HL.still (Runs.sliceArr Try.underlying55 sz5 f5 rfl rfl (by decide) (by decide) (if_neg (by decide))) ?_
      intro u38 e38
      refine HL.one (HO.call Try.func17 bd17 nm17 (args2 f3 e38) rfl ((write_ch _ h1.size _ (lenBytes (P.length * 8)) (some ⟨h'.size, 0, none⟩) 8 hX (src_block hL (by omega)) (by rw [lenBytes_len]; exact Nat.le_refl _) (by rw [hQl, lenBytes_len]; omega)).mono ?_))
      rintro _ h8 ⟨rfl, hX8, E8⟩
      intro u39 e39
      refine HL.nil ?_
      have hN8 := E8.keep hN (by omega)
      have B8' : Bel h.size h h8 := bel_of_exb hB E8 (Nat.le_refl _) (by omega)
      have hs8 := E8.size
      rw [show P ++ [128] ++ List.replicate (zeros P.length) 0 ++ lenBytes (P.length * 8) = padded P from rfl] at hX8
      obtain ⟨hs8', rest8, st8, hb8⟩ := hX8
      -- region 13
      repeat refine HW.seq ?_
      refine HW.region ?_
      refine HL.one (HO.alloc zr25 ?_)
      intro h9 w9
      intro u7 e7
      refine HL.nil ?_
      have s9 := w9.size
      -- region 14
      repeat refine HW.seq ?_
      refine HW.region ?_
      refine HL.still (Runs.move rfl) ?_
      intro u40 e40
      refine HL.nil ?_
      repeat refine HW.seq ?_
      refine HW.block ?_
      refine HW.loop (fun m f g => ∃ k : Nat, k ≤ 32 ∧ m = 32 - k ∧ f 40 = I64 k ∧ f 2 = .pointer (some ⟨h.size, 0, none⟩) ∧ f 3 = .pointer (some ⟨h1.size, 0, none⟩) ∧ f 7 = .pointer (some ⟨h8.size, 0, none⟩) ∧
        g[h1.size]? = some (.cells (hcells hs8' rest8 ((padded P).length : Int)).toArray 53 (0, 0)) ∧ g[h.size]? = some (.cells ((List.replicate 32 (0 : UInt8)).map B8).toArray 25 (0, 0)) ∧ g[h8.size]? = some (.cells (((List.range k).map (digAt hs8') ++ List.replicate (32 - k) 0).map B8).toArray 25 (0, 0)) ∧ Bel h.size h g ∧ g.size = h9.size) 32
        ⟨0, Nat.zero_le _, rfl, e40, f2, f3, e7, w9.keep hb8, w9.keep hN8, w9.new, B8'.nw w9 (Nat.le_refl _), rfl⟩ ?_
      clear hX hN hB hN8 B8' hb8 f2 f3 e7 e40
      rintro m f g ⟨k, hk, hm, f40, f2, f3, f7, hX, hN, hO, hB, hsz9⟩
      have hol : ((List.range k).map (digAt hs8') ++ List.replicate (32 - k) (0 : UInt8)).length = 32 := by simp; omega
      by_cases hlt : k < 32
      · skip
        -- region 15
        repeat refine HW.seq ?_
        refine HW.region ?_
        refine HL.still (Runs.lss f40 rfl rfl) ?_
        intro u41 e41
        refine HL.nil ?_
        repeat refine HW.seq ?_
        refine HW.yes ?_ ?_
        exact e41.trans (congrArg Value.bool (decide_eq_true (by omega)))
        refine HW.skip ?_
        repeat refine HW.seq ?_
        refine HW.block ?_
        -- region 16
        repeat refine HW.seq ?_
        refine HW.region ?_
        refine HL.still (Runs.move f40) ?_
        intro u42 e42
        refine HL.still (Runs.assign e42) ?_
        intro u8 e8
        refine HL.nil ?_
        have hsh : (((hs8'.getD (k / 4) 0).toNat : Int)).fdiv (2 ^ (min ((8 : Int) * ((3 : Int) - (k : Int) % 4)).toNat IntKind.u32.bits)) = (((hs8'.getD (k / 4) 0) >>> (8 * (3 - k % 4))).toNat : Int) := by
          rw [show (8 : Int) * ((3 : Int) - (k : Int) % 4) = ((8 * (3 - k % 4) : Nat) : Int) by omega]
          exact shr32i _ _ (by omega)
        -- region 17
        repeat refine HW.seq ?_
        refine HW.region ?_
        refine HL.still (Runs.move e8) ?_
        intro u43 e43
        refine HL.still (Runs.move e8) ?_
        intro u44 e44
        refine HL.still (Runs.quo e44 rfl (by decide) (quo64 (by omega) (by decide))) ?_
        intro u45 e45
        refine HL.still (Runs.fld (o' := 0) Try.underlying53 rfl sz47 (by decide) f3 (by rfl)) ?_
        intro u46 e46
        refine HL.still (Runs.ixArr (o' := k / 4) Try.underlying47 sz45 e46 e45 (by omega) (by omega) (by omega)) ?_
        intro u47 e47
        refine HL.still (Runs.load Try.underlying45 rfl e47 (hcell_h hX (k / 4) (by rw [st8.h8]; omega))) ?_
        intro u48 e48
        refine HL.still (Runs.move e8) ?_
        intro u49 e49
        refine HL.still (Runs.rem e49 rfl (by decide) (rem64 (by omega) (by decide))) ?_
        intro u50 e50
        refine HL.still (Runs.sub rfl e50 (i64w (by omega))) ?_
        intro u51 e51
        refine HL.still (Runs.mul rfl e51 (i64w (by omega))) ?_
        intro u52 e52
        refine HL.still (Runs.shr e48 e52 (by omega) hsh) ?_
        intro u53 e53
        refine HL.still (Runs.conv Try.underlying45 Try.underlying5 e53 (u8_of_nat _)) ?_
        intro u54 e54
        refine HL.still (Runs.ixArr (o' := k) Try.underlying25 sz5 f7 e43 (by omega) (by omega) (by omega)) ?_
        intro u55 e55
        refine HL.zero (HO.store (s := 1) sz5 e55 e54 rfl hO (by rw [List.length_map, hol]; omega) rfl ?_)
        intro h10 w10
        refine HL.nil ?_
        have hO10 := w10.new
        rw [← List.map_set, show UInt8.ofNat ((hs8'.getD (k / 4) 0) >>> (8 * (3 - k % 4))).toNat = digAt hs8' k from rfl, fill_step (digAt hs8') 32 k 0 hlt] at hO10
        have s10 := w10.size
        -- region 18
        repeat refine HW.seq ?_
        refine HW.region ?_
        refine HL.still (Runs.add f40 rfl (i64w (by omega))) ?_
        intro u56 e56
        refine HL.still (Runs.move e56) ?_
        intro u40 e40
        refine HL.nil ?_
        exact ⟨32 - (k + 1), by omega, k + 1, by omega, rfl, e40, f2, f3, f7, w10.keep hX (by omega), w10.keep hN (by omega), hO10, hB.wr w10 (by omega), by omega⟩
      · have hk32 : k = 32 := by omega
        subst hk32
        -- region 15
        repeat refine HW.seq ?_
        refine HW.region ?_
        refine HL.still (Runs.lss f40 rfl rfl) ?_
        intro u41 e41
        refine HL.nil ?_
        repeat refine HW.seq ?_
        refine HW.no ?_ ?_
        exact e41.trans (congrArg Value.bool (decide_eq_false (by omega)))
        refine HW.exitHere ?_
        rw [digBytes_eq] at hO
        -- region 19
        repeat refine HW.seq ?_
        refine HW.region ?_
        refine HL.still (Runs.loadAgg Try.underlying25 rfl sz25 f7 (by rw [List.length_map, digBytes_len]) (load_blk hO)) ?_
        intro u57 e57
        refine HL.zero (HO.storeAll sz25 f2 e57 (one_map B8 (fun _ => rfl) _) hN (by rw [List.length_map, digBytes_len]) rfl ?_)
        intro h11 w11
        refine HL.nil ?_
        refine HW.ret ?_
        refine RT.cell rfl f2 w11.new Try.underlying25 rfl sz25 (by rw [List.length_map, digBytes_len]) ⟨?_, hB.wr w11 (by omega)⟩
        rw [SHA, ← st8.words]
theorem Byt.src {h h' : Heap} {a : Option Addr} {xs : List UInt8} (x : Byt h a xs) (k : Ext h h') {nb : Nat} (hnb : h.size ≤ nb) : Src h' nb a xs := by
  rcases x with x | ⟨sb, so, h1, h2⟩
  · exact .inl x
  · by_cases hn : xs = []
    · exact .inl hn
    · have hp : 0 < xs.length := List.length_pos_iff.2 hn
      have hlt := lt_of_cellH (h2 0 hp)
      exact .inr ⟨sb, so, h1, by omega, fun j hj => by rw [cellH_keep (k.old sb hlt)]; exact h2 j hj⟩
theorem sum_ch (h : Heap) (xs : List UInt8) (a : Option Addr) (cap : Nat) (hsrc : Byt h a xs) (hcap : xs.length ≤ cap) (hlen : xs.length < 1152921504606846976) :
    CH Try.prog 14 #[.slice a xs.length cap] h fun v h' => v = .agg ((SHA xs).map B8).toArray ∧ Ext h h' := by
  refine CH.of_body Try.func14 rfl rfl rfl ?_
  intro f hf
  have p0 : f 0 = .slice a xs.length cap := by rw [hf]; exact fr0_at rfl
  -- region 0
  repeat refine HW.seq ?_
  refine HW.region ?_
  refine HL.one (HO.alloc zr25 ?_)
  intro h1 w1
  intro u2 e2
  refine HL.nil ?_
  -- region 1
  repeat refine HW.seq ?_
  refine HW.region ?_
  refine HL.one (HO.call Try.func16 bd16 nm16 (args0) rfl ((new_ch _).mono ?_))
  rintro _ h2 ⟨rfl, hH2, E2⟩
  intro u4 e4
  refine HL.still (Runs.assign e4) ?_
  intro u3 e3
  refine HL.nil ?_
  have s1 := w1.size
  have z2 := E2.size
  -- region 2
  repeat refine HW.seq ?_
  refine HW.region ?_
  refine HL.still (Runs.move e3) ?_
  intro u5 e5
  refine HL.still (Runs.move p0) ?_
  intro u6 e6
  refine HL.one (HO.call Try.func17 bd17 nm17 (args2 e5 e6) rfl ((write_ch _ h1.size [] xs a cap hH2 (hsrc.src ((w1.ext).ext E2 (Nat.le_refl _)) (by omega)) hcap (by simp; omega)).mono ?_))
  rintro _ h3 ⟨rfl, hH3, E3⟩
  intro u7 e7
  refine HL.nil ?_
  have z3 := E3.size
  rw [List.nil_append] at hH3
  -- region 3
  repeat refine HW.seq ?_
  refine HW.region ?_
  refine HL.still (Runs.move e3) ?_
  intro u8 e8
  refine HL.one (HO.call Try.func18 bd18 nm18 (args1 e8) rfl ((hsum_ch _ h1.size xs hH3 hlen).mono ?_))
  rintro _ h4 ⟨rfl, E4⟩
  intro u9 e9
  refine HL.zero (HO.storeAll sz25 e2 e9 (one_map B8 (fun _ => rfl) _) (E4.keepE (E3.keep (E2.keepE w1.new) (by omega))) (by rw [List.length_map, SHA_len]) rfl ?_)
  intro h5 w5
  refine HL.nil ?_
  have B3 : Bel h.size h h3 := bel_of_exb ((w1.ext).ext E2 (Nat.le_refl _)) E3 (Nat.le_refl _) (by omega)
  refine HW.ret ?_
  exact RT.cell rfl e2 w5.new Try.underlying25 rfl sz25 (by rw [List.length_map, SHA_len]) ⟨rfl, (B3.ext E4 (Nat.le_refl _)).wr w5 (Nat.le_refl _)⟩
end Go.Proofs.Ytbfmkjfpialihaa
