/- Hash.Sum, sha.Sum: the digest of all that came. -/
import Derived.Test.YtklelhfgbjpifaaSha1
namespace Go.Proofs.Ytklelhfgbjpifaa
set_option linter.unnecessarySimpa false
set_option linter.unusedSimpArgs false
set_option linter.unusedVariables false
open Go.RowKit
theorem hcells_one (hs : List (BitVec 32)) (rest : List UInt8) (n : Int) : ∀ v ∈ hcells hs rest n, v.oneCell' = true := by
  intro v hv
  unfold hcells at hv
  rcases List.mem_append.1 hv with hv | hv
  · rcases List.mem_append.1 hv with hv | hv
    · exact one_map W32 (fun _ => rfl) _ v hv
    · exact one_map B8 (fun _ => rfl) _ v hv
  · simp at hv; subst hv; rfl
theorem run_bytes1 (c : UInt8) (w : World) : (Instr.buildSlice 29 1 #[(0, B8 c)]).run Try.prog w = .ok (.slice (some ⟨w.heap.size, 0, none⟩) 1 1) (w.alloc (.cells ([c].map B8).toArray 5)) := by kernel_rfl
set_option maxRecDepth 10000 in
/-- A slice of one byte that the text writes out. -/
theorem HO.bytes1 {ρ : Operand → Value} {h : Heap} {d : Option Tmp} {ty : TypeId} {pos : String} {af : Array Edge} {gd : Option (Nat × Bool)} {K : Value → Heap → Prop} {x : Operand} (c : UInt8) (hx : ρ x = B8 c)
    (k : ∀ h', Nw h h' (.cells ([c].map B8).toArray 5 (0, 0)) → K (.slice (some ⟨h.size, 0, none⟩) 1 1) h') : HO Try.prog ⟨d, .buildSlice 29 1 #[(0, x)], ty, pos, af, gd⟩ ρ h K :=
  HO.buildSlice (fun w => by
    have e : (#[(0, x)] : Array (Nat × Operand)).map (fun (i, x) => (i, ρ x)) = #[(0, B8 c)] := by simp [hx]
    rw [e]
    exact run_bytes1 c w) k
theorem src_block {h : Heap} {nb sb : Nat} {xs : List UInt8} {t : TypeId} {fr : Nat × Nat} (hb : h[sb]? = some (.cells (xs.map B8).toArray t fr)) (hne : sb ≠ nb) : Src h nb (some ⟨sb, 0, none⟩) xs :=
  .inr ⟨sb, 0, rfl, hne, fun j hj => by rw [Nat.zero_add]; exact cellH_map 0 hb hj⟩
theorem zeros_spec (n z : Nat) (hz : z ≤ zeros n) : (n + 1 + z) % 64 = 56 ↔ z = zeros n := by
  unfold zeros at *
  omega
def lenR (m : Nat) : Nat → List UInt8
  | 0 => List.replicate 8 0
  | k + 1 => (lenR m k).set (7 - k) (UInt8.ofNat (m / 2 ^ (8 * k)))
theorem lenR_len (m k : Nat) : (lenR m k).length = 8 := by
  induction k with
  | zero => rfl
  | succ k ih => simp [lenR, ih]
theorem lenR_eq (m : Nat) : lenR m 8 = lenBytes m := by
  simp [lenR, lenBytes, List.range, List.range.loop, List.replicate]
theorem lenBytes_len (m : Nat) : (lenBytes m).length = 8 := by simp [lenBytes]
/-- A row that is filled from its begin. -/
theorem fill_step {α : Type} (f : Nat → α) (n k : Nat) (z : α) (hk : k < n) : ((List.range k).map f ++ List.replicate (n - k) z).set k (f k) = (List.range (k + 1)).map f ++ List.replicate (n - (k + 1)) z := by
  rw [List.set_append_right _ _ (by simp)]
  simp only [List.length_map, List.length_range, Nat.sub_self]
  rw [show n - k = (n - (k + 1)) + 1 by omega, List.replicate_succ, List.set_cons_zero, List.range_succ, List.map_append, List.append_assoc]
  rfl
theorem shr64i (m k : Nat) (hk : k ≤ 64) : ((m : Int)).fdiv (2 ^ (min (k : Int).toNat IntKind.u64.bits)) = ((m / 2 ^ k : Nat) : Int) := by
  have e : min (k : Int).toNat IntKind.u64.bits = k := by simp [IntKind.bits]; omega
  rw [e, Int.fdiv_eq_ediv_of_nonneg _ (Int.pow_nonneg (by decide))]
  simp
theorem u8_of_nat (m : Nat) : IntKind.u8.wrap (m : Int) = ((UInt8.ofNat m).toNat : Int) := by
  rw [IntKind.wrap_u8, UInt8.toNat_ofNat']
  omega
theorem shr32i (x : BitVec 32) (k : Nat) (hk : k ≤ 32) : ((x.toNat : Int)).fdiv (2 ^ (min (k : Int).toNat IntKind.u32.bits)) = ((x >>> k).toNat : Int) := shr32c x k hk
/-- A digest's byte. -/
def digAt (hs : List (BitVec 32)) (k : Nat) : UInt8 := UInt8.ofNat ((hs.getD (k / 4) 0) >>> (8 * (3 - k % 4))).toNat
theorem digBytes_eq (hs : List (BitVec 32)) : (List.range 32).map (digAt hs) ++ List.replicate (32 - 32) 0 = digBytes hs := by rw [Nat.sub_self, List.replicate_zero, List.append_nil]; rfl
set_option maxRecDepth 10000 in
theorem hsum_ch (h : Heap) (b : Nat) (P : List UInt8) (hb : HashAt h b P) (hlen : P.length < 1152921504606846976) :
    CH Try.prog 67 #[.pointer (some ⟨b, 0, none⟩)] h fun v h' => v = .agg ((SHA P).map B8).toArray ∧ Ext h h' := by
  refine CH.of_body Try.func67 rfl rfl rfl ?_
  intro f hf
  have hbl := hb.lt
  have p0 : f 0 = .pointer (some ⟨b, 0, none⟩) := by rw [hf]; exact fr0_at rfl
  obtain ⟨hs, rest, s, hbb⟩ := hb
  -- region 0
  repeat refine HW.seq ?_
  refine HW.region ?_
  refine HL.one (HO.alloc zr31 ?_)
  intro h1 w1
  intro u2 e2
  refine HL.nil ?_
  have s1 := w1.size
  -- region 1
  repeat refine HW.seq ?_
  refine HW.region ?_
  refine HL.still (Runs.move p0) ?_
  intro u9 e9
  refine HL.still (Runs.nilc e9) ?_
  intro u10 e10
  refine HL.still (Runs.loadAgg Try.underlying101 rfl sz101 e10 (by rw [hcells_len, s.h8, s.len]) (load_blk (w1.keep hbb))) ?_
  intro u11 e11
  refine HL.one (HO.alloc zr101 ?_)
  intro h2 w2
  intro u3 e3
  refine HL.zero (HO.storeAll sz101 e3 e11 (hcells_one _ _ _) w2.new (by rw [hcells_len, s.h8, s.len]) rfl ?_)
  intro h3 w3
  refine HL.nil ?_
  have s2 := w2.size
  have s3 := w3.size
  have hX3 : HashAt h3 h1.size P := ⟨hs, rest, s, w3.new⟩
  have hN3 := w3.keep (w2.keep w1.new) (by omega)
  -- region 2
  repeat refine HW.seq ?_
  refine HW.region ?_
  refine HL.still (Runs.move p0) ?_
  intro u12 e12
  refine HL.still (Runs.nilc e12) ?_
  intro u13 e13
  refine HL.still (Runs.fld (o' := 72) Try.underlying101 rfl sz3 (by decide) e13 (by rfl)) ?_
  intro u14 e14
  refine HL.still (Runs.load Try.underlying3 rfl e14 (hcell_n (w3.keep (w2.keep (w1.keep hbb)) (by omega)) s.h8 s.len)) ?_
  intro u15 e15
  refine HL.still (Runs.conv Try.underlying3 Try.underlying86 e15 (u64w (by omega))) ?_
  intro u16 e16
  refine HL.still (Runs.mul e16 rfl (u64w (by omega))) ?_
  intro u17 e17
  refine HL.still (Runs.assign e17) ?_
  intro u4 e4
  refine HL.nil ?_
  -- region 3
  repeat refine HW.seq ?_
  refine HW.region ?_
  refine HL.one (HO.bytes1 128 rfl ?_)
  intro h4 w4
  intro u18 e18
  refine HL.one (HO.call Try.func66 bd66 nm66 (args2 e3 e18) rfl ((write_ch _ h1.size P [128] (some ⟨h3.size, 0, none⟩) 1 (hX3.keep (w4.old _ (by omega))) (src_block w4.new (by omega)) (Nat.le_refl _) (by simp; omega)).mono ?_))
  rintro _ h5 ⟨rfl, hX5, E5⟩
  intro u19 e19
  refine HL.nil ?_
  have s4 := w4.size
  have hN5 := E5.keep (w4.keep hN3) (by omega)
  have B5 : Bel h.size h h5 := bel_of_exb ((((w1.ext).ext w2.ext (Nat.le_refl _)).wr w3 (by omega)).ext w4.ext (Nat.le_refl _)) E5 (Nat.le_refl _) (by omega)
  repeat refine HW.seq ?_
  refine HW.block ?_
  refine HW.loop (fun m f h' => ∃ z : Nat, z ≤ zeros P.length ∧ m = zeros P.length - z ∧ f 2 = .pointer (some ⟨h.size, 0, none⟩) ∧ f 3 = .pointer (some ⟨h1.size, 0, none⟩) ∧ f 4 = .int .u64 ((P.length : Int) * 8) ∧
    HashAt h' h1.size (P ++ [128] ++ List.replicate z 0) ∧ h'[h.size]? = some (.cells ((List.replicate 32 (0 : UInt8)).map B8).toArray 31 (0, 0)) ∧ Bel h.size h h' ∧ h1.size < h'.size) (zeros P.length)
    ⟨0, Nat.zero_le _, rfl, e2, e3, e4, by simpa using hX5, hN5, B5, hX5.lt⟩ ?_
  clear hX3 hN3 hX5 hN5 B5 hbb e2 e3 e4
  rintro m f h' ⟨z, hz, hm, f2, f3, f4, hX, hN, hB, hsz⟩
  have hz63 : zeros P.length < 64 := by unfold zeros; omega
  obtain ⟨hs', rest', s', hb'⟩ := id hX
  have hQl : (P ++ [128] ++ List.replicate z (0 : UInt8)).length = P.length + 1 + z := by simp; omega
  have hm64 : ((P ++ [128] ++ List.replicate z (0 : UInt8)).length : Int) % 64 = (((P.length + 1 + z) % 64 : Nat) : Int) := by rw [hQl]; omega
  have hzs := zeros_spec P.length z hz
  by_cases hlt : z < zeros P.length
  · skip
    -- region 4
    repeat refine HW.seq ?_
    refine HW.region ?_
    refine HL.still (Runs.fld (o' := 72) Try.underlying101 rfl sz3 (by decide) f3 (by rfl)) ?_
    intro u20 e20
    refine HL.still (Runs.load Try.underlying3 rfl e20 (hcell_n hb' s'.h8 s'.len)) ?_
    intro u21 e21
    refine HL.still (Runs.rem e21 rfl (by decide) ((rem64 (by omega) (by decide)).trans hm64)) ?_
    intro u22 e22
    refine HL.still (Runs.neq e22 rfl rfl) ?_
    intro u23 e23
    refine HL.nil ?_
    repeat refine HW.seq ?_
    refine HW.yes ?_ ?_
    exact e23.trans (congrArg Value.bool (by simp; omega))
    refine HW.skip ?_
    repeat refine HW.seq ?_
    refine HW.block ?_
    -- region 5
    repeat refine HW.seq ?_
    refine HW.region ?_
    refine HL.one (HO.bytes1 0 rfl ?_)
    intro h6 w6
    intro u24 e24
    refine HL.one (HO.call Try.func66 bd66 nm66 (args2 f3 e24) rfl ((write_ch _ h1.size _ [0] (some ⟨h'.size, 0, none⟩) 1 (hX.keep (w6.old _ (by omega))) (src_block w6.new (by omega)) (Nat.le_refl _) (by rw [hQl]; simp; omega)).mono ?_))
    rintro _ h7 ⟨rfl, hX7, E7⟩
    intro u25 e25
    refine HL.nil ?_
    have s6 := w6.size
    have hs7 := E7.size
    refine ⟨zeros P.length - (z + 1), by omega, z + 1, by omega, rfl, f2, f3, f4, ?_, E7.keep (w6.keep hN) (by omega), bel_of_exb (hB.nw w6 (Nat.le_refl _)) E7 (Nat.le_refl _) (by omega), by omega⟩
    rw [List.replicate_succ', ← List.append_assoc]
    exact hX7
  · have hzz : z = zeros P.length := by omega
    -- region 4
    repeat refine HW.seq ?_
    refine HW.region ?_
    refine HL.still (Runs.fld (o' := 72) Try.underlying101 rfl sz3 (by decide) f3 (by rfl)) ?_
    intro u20 e20
    refine HL.still (Runs.load Try.underlying3 rfl e20 (hcell_n hb' s'.h8 s'.len)) ?_
    intro u21 e21
    refine HL.still (Runs.rem e21 rfl (by decide) ((rem64 (by omega) (by decide)).trans hm64)) ?_
    intro u22 e22
    refine HL.still (Runs.neq e22 rfl rfl) ?_
    intro u23 e23
    refine HL.nil ?_
    repeat refine HW.seq ?_
    refine HW.no ?_ ?_
    exact e23.trans (congrArg Value.bool (by simp; omega))
    refine HW.exitHere ?_
    subst hzz
    clear hzs hlt hm
    -- region 6
    repeat refine HW.seq ?_
    refine HW.region ?_
    refine HL.one (HO.alloc zr102 ?_)
    intro h6 w6
    intro u5 e5
    refine HL.nil ?_
    have s6 := w6.size
    -- region 7
    repeat refine HW.seq ?_
    refine HW.region ?_
    refine HL.still (Runs.move rfl) ?_
    intro u26 e26
    refine HL.nil ?_
    repeat refine HW.seq ?_
    refine HW.block ?_
    refine HW.loop (fun m f h'' => ∃ k : Nat, k ≤ 8 ∧ m = 8 - k ∧ f 26 = I64 k ∧ f 2 = .pointer (some ⟨h.size, 0, none⟩) ∧ f 3 = .pointer (some ⟨h1.size, 0, none⟩) ∧ f 4 = .int .u64 ((P.length : Int) * 8) ∧ f 5 = .pointer (some ⟨h'.size, 0, none⟩) ∧
      HashAt h'' h1.size (P ++ [128] ++ List.replicate (zeros P.length) 0) ∧ h''[h.size]? = some (.cells ((List.replicate 32 (0 : UInt8)).map B8).toArray 31 (0, 0)) ∧ h''[h'.size]? = some (.cells ((lenR (P.length * 8) k).map B8).toArray 102 (0, 0)) ∧ Bel h.size h h'' ∧ h''.size = h6.size) 8
      ⟨0, Nat.zero_le _, rfl, e26, f2, f3, f4, e5, hX.keep (w6.old _ hsz), w6.keep hN, w6.new, hB.nw w6 (Nat.le_refl _), rfl⟩ ?_
    clear hX hN hB hb' f2 f3 f4 e5 e26
    rintro m f h'' ⟨k, hk, hm, f26, f2, f3, f4, f5, hX, hN, hL, hB, hsz2⟩
    have hll := lenR_len (P.length * 8) k
    by_cases hlt : k < 8
    · skip
      -- region 8
      repeat refine HW.seq ?_
      refine HW.region ?_
      refine HL.still (Runs.lss f26 rfl rfl) ?_
      intro u27 e27
      refine HL.nil ?_
      repeat refine HW.seq ?_
      refine HW.yes ?_ ?_
      exact e27.trans (congrArg Value.bool (decide_eq_true (by omega)))
      refine HW.skip ?_
      repeat refine HW.seq ?_
      refine HW.block ?_
      -- region 9
      repeat refine HW.seq ?_
      refine HW.region ?_
      refine HL.still (Runs.move f26) ?_
      intro u28 e28
      refine HL.still (Runs.assign e28) ?_
      intro u6 e6
      refine HL.nil ?_
      have hsh : ((P.length : Int) * 8).fdiv (2 ^ (min ((8 : Int) * (k : Int)).toNat IntKind.u64.bits)) = (((P.length * 8) / 2 ^ (8 * k) : Nat) : Int) := shr64i (P.length * 8) (8 * k) (by omega)
      -- region 10
      repeat refine HW.seq ?_
      refine HW.region ?_
      refine HL.still (Runs.move e6) ?_
      intro u29 e29
      refine HL.still (Runs.sub rfl e29 (i64w (by omega))) ?_
      intro u30 e30
      refine HL.still (Runs.move f4) ?_
      intro u31 e31
      refine HL.still (Runs.move e6) ?_
      intro u32 e32
      refine HL.still (Runs.mul rfl e32 (i64w (by omega))) ?_
      intro u33 e33
      refine HL.still (Runs.shr e31 e33 (by omega) hsh) ?_
      intro u34 e34
      refine HL.still (Runs.conv Try.underlying86 Try.underlying5 e34 (u8_of_nat _)) ?_
      intro u35 e35
      refine HL.still (Runs.ixArr (o' := 7 - k) Try.underlying102 sz5 f5 e30 (by omega) (by omega) (by omega)) ?_
      intro u36 e36
      refine HL.zero (HO.store (s := 1) sz5 e36 e35 rfl hL (by simp; omega) rfl ?_)
      intro h7 w7
      refine HL.nil ?_
      have hL7 := w7.new
      rw [← List.map_set] at hL7
      have s7 := w7.size
      -- region 11
      repeat refine HW.seq ?_
      refine HW.region ?_
      refine HL.still (Runs.add f26 rfl (i64w (by omega))) ?_
      intro u37 e37
      refine HL.still (Runs.move e37) ?_
      intro u26 e26
      refine HL.nil ?_
      exact ⟨8 - (k + 1), by omega, k + 1, by omega, rfl, e26, f2, f3, f4, f5, hX.keep (w7.old _ (by omega)), w7.keep hN (by omega), hL7, hB.wr w7 (by omega), by omega⟩
    · have hk8 : k = 8 := by omega
      subst hk8
      -- region 8
      repeat refine HW.seq ?_
      refine HW.region ?_
      refine HL.still (Runs.lss f26 rfl rfl) ?_
      intro u27 e27
      refine HL.nil ?_
      repeat refine HW.seq ?_
      refine HW.no ?_ ?_
      exact e27.trans (congrArg Value.bool (decide_eq_false (by omega)))
      refine HW.exitHere ?_
      rw [lenR_eq] at hL
      -- region 12
      repeat refine HW.seq ?_
      refine HW.region ?_
      refine HL.still (Runs.sliceArr Try.underlying102 sz5 f5 rfl rfl (by decide) (by decide) (if_neg (by decide))) ?_
      intro u38 e38
      refine HL.one (HO.call Try.func66 bd66 nm66 (args2 f3 e38) rfl ((write_ch _ h1.size _ (lenBytes (P.length * 8)) (some ⟨h'.size, 0, none⟩) 8 hX (src_block hL (by omega)) (by rw [lenBytes_len]; exact Nat.le_refl _) (by rw [hQl, lenBytes_len]; omega)).mono ?_))
      rintro _ h8 ⟨rfl, hX8, E8⟩
      intro u39 e39
      refine HL.nil ?_
      have hN8 := E8.keep hN (by omega)
      have B8' : Bel h.size h h8 := bel_of_exb hB E8 (Nat.le_refl _) (by omega)
      have hs8 := E8.size
      rw [show P ++ [128] ++ List.replicate (zeros P.length) 0 ++ lenBytes (P.length * 8) = padded P from rfl] at hX8
      obtain ⟨hs8', rest8, st8, hb8⟩ := hX8
      -- region 13
      repeat refine HW.seq ?_
      refine HW.region ?_
      refine HL.one (HO.alloc zr31 ?_)
      intro h9 w9
      intro u7 e7
      refine HL.nil ?_
      have s9 := w9.size
      -- region 14
      repeat refine HW.seq ?_
      refine HW.region ?_
      refine HL.still (Runs.move rfl) ?_
      intro u40 e40
      refine HL.nil ?_
      repeat refine HW.seq ?_
      refine HW.block ?_
      refine HW.loop (fun m f g => ∃ k : Nat, k ≤ 32 ∧ m = 32 - k ∧ f 40 = I64 k ∧ f 2 = .pointer (some ⟨h.size, 0, none⟩) ∧ f 3 = .pointer (some ⟨h1.size, 0, none⟩) ∧ f 7 = .pointer (some ⟨h8.size, 0, none⟩) ∧
        g[h1.size]? = some (.cells (hcells hs8' rest8 ((padded P).length : Int)).toArray 101 (0, 0)) ∧ g[h.size]? = some (.cells ((List.replicate 32 (0 : UInt8)).map B8).toArray 31 (0, 0)) ∧ g[h8.size]? = some (.cells (((List.range k).map (digAt hs8') ++ List.replicate (32 - k) 0).map B8).toArray 31 (0, 0)) ∧ Bel h.size h g ∧ g.size = h9.size) 32
        ⟨0, Nat.zero_le _, rfl, e40, f2, f3, e7, w9.keep hb8, w9.keep hN8, w9.new, B8'.nw w9 (Nat.le_refl _), rfl⟩ ?_
      clear hX hN hB hN8 B8' hb8 f2 f3 e7 e40
      rintro m f g ⟨k, hk, hm, f40, f2, f3, f7, hX, hN, hO, hB, hsz9⟩
      have hol : ((List.range k).map (digAt hs8') ++ List.replicate (32 - k) (0 : UInt8)).length = 32 := by simp; omega
      by_cases hlt : k < 32
      · skip
        -- region 15
        repeat refine HW.seq ?_
        refine HW.region ?_
        refine HL.still (Runs.lss f40 rfl rfl) ?_
        intro u41 e41
        refine HL.nil ?_
        repeat refine HW.seq ?_
        refine HW.yes ?_ ?_
        exact e41.trans (congrArg Value.bool (decide_eq_true (by omega)))
        refine HW.skip ?_
        repeat refine HW.seq ?_
        refine HW.block ?_
        -- region 16
        repeat refine HW.seq ?_
        refine HW.region ?_
        refine HL.still (Runs.move f40) ?_
        intro u42 e42
        refine HL.still (Runs.assign e42) ?_
        intro u8 e8
        refine HL.nil ?_
        have hsh : (((hs8'.getD (k / 4) 0).toNat : Int)).fdiv (2 ^ (min ((8 : Int) * ((3 : Int) - (k : Int) % 4)).toNat IntKind.u32.bits)) = (((hs8'.getD (k / 4) 0) >>> (8 * (3 - k % 4))).toNat : Int) := by
          rw [show (8 : Int) * ((3 : Int) - (k : Int) % 4) = ((8 * (3 - k % 4) : Nat) : Int) by omega]
          exact shr32i _ _ (by omega)
        -- region 17
        repeat refine HW.seq ?_
        refine HW.region ?_
        refine HL.still (Runs.move e8) ?_
        intro u43 e43
        refine HL.still (Runs.move e8) ?_
        intro u44 e44
        refine HL.still (Runs.quo e44 rfl (by decide) (quo64 (by omega) (by decide))) ?_
        intro u45 e45
        refine HL.still (Runs.fld (o' := 0) Try.underlying101 rfl sz71 (by decide) f3 (by rfl)) ?_
        intro u46 e46
        refine HL.still (Runs.ixArr (o' := k / 4) Try.underlying71 sz69 e46 e45 (by omega) (by omega) (by omega)) ?_
        intro u47 e47
        refine HL.still (Runs.load Try.underlying69 rfl e47 (hcell_h hX (k / 4) (by rw [st8.h8]; omega))) ?_
        intro u48 e48
        refine HL.still (Runs.move e8) ?_
        intro u49 e49
        refine HL.still (Runs.rem e49 rfl (by decide) (rem64 (by omega) (by decide))) ?_
        intro u50 e50
        refine HL.still (Runs.sub rfl e50 (i64w (by omega))) ?_
        intro u51 e51
        refine HL.still (Runs.mul rfl e51 (i64w (by omega))) ?_
        intro u52 e52
        refine HL.still (Runs.shr e48 e52 (by omega) hsh) ?_
        intro u53 e53
        refine HL.still (Runs.conv Try.underlying69 Try.underlying5 e53 (u8_of_nat _)) ?_
        intro u54 e54
        refine HL.still (Runs.ixArr (o' := k) Try.underlying31 sz5 f7 e43 (by omega) (by omega) (by omega)) ?_
        intro u55 e55
        refine HL.zero (HO.store (s := 1) sz5 e55 e54 rfl hO (by rw [List.length_map, hol]; omega) rfl ?_)
        intro h10 w10
        refine HL.nil ?_
        have hO10 := w10.new
        rw [← List.map_set, show UInt8.ofNat ((hs8'.getD (k / 4) 0) >>> (8 * (3 - k % 4))).toNat = digAt hs8' k from rfl, fill_step (digAt hs8') 32 k 0 hlt] at hO10
        have s10 := w10.size
        -- region 18
        repeat refine HW.seq ?_
        refine HW.region ?_
        refine HL.still (Runs.add f40 rfl (i64w (by omega))) ?_
        intro u56 e56
        refine HL.still (Runs.move e56) ?_
        intro u40 e40
        refine HL.nil ?_
        exact ⟨32 - (k + 1), by omega, k + 1, by omega, rfl, e40, f2, f3, f7, w10.keep hX (by omega), w10.keep hN (by omega), hO10, hB.wr w10 (by omega), by omega⟩
      · have hk32 : k = 32 := by omega
        subst hk32
        -- region 15
        repeat refine HW.seq ?_
        refine HW.region ?_
        refine HL.still (Runs.lss f40 rfl rfl) ?_
        intro u41 e41
        refine HL.nil ?_
        repeat refine HW.seq ?_
        refine HW.no ?_ ?_
        exact e41.trans (congrArg Value.bool (decide_eq_false (by omega)))
        refine HW.exitHere ?_
        rw [digBytes_eq] at hO
        -- region 19
        repeat refine HW.seq ?_
        refine HW.region ?_
        refine HL.still (Runs.loadAgg Try.underlying31 rfl sz31 f7 (by rw [List.length_map, digBytes_len]) (load_blk hO)) ?_
        intro u57 e57
        refine HL.zero (HO.storeAll sz31 f2 e57 (one_map B8 (fun _ => rfl) _) hN (by rw [List.length_map, digBytes_len]) rfl ?_)
        intro h11 w11
        refine HL.nil ?_
        refine HW.ret ?_
        refine RT.cell rfl f2 w11.new Try.underlying31 rfl sz31 (by rw [List.length_map, digBytes_len]) ⟨?_, hB.wr w11 (by omega)⟩
        rw [SHA, ← st8.words]
theorem Byt.src {h h' : Heap} {a : Option Addr} {xs : List UInt8} (x : Byt h a xs) (k : Ext h h') {nb : Nat} (hnb : h.size ≤ nb) : Src h' nb a xs := by
  rcases x with x | ⟨sb, so, h1, h2⟩
  · exact .inl x
  · by_cases hn : xs = []
    · exact .inl hn
    · have hp : 0 < xs.length := List.length_pos_iff.2 hn
      have hlt := lt_of_cellH (h2 0 hp)
      exact .inr ⟨sb, so, h1, by omega, fun j hj => by rw [cellH_keep (k.old sb hlt)]; exact h2 j hj⟩
set_option maxRecDepth 10000 in
theorem sum_ch (h : Heap) (xs : List UInt8) (a : Option Addr) (cap : Nat) (hsrc : Byt h a xs) (hcap : xs.length ≤ cap) (hlen : xs.length < 1152921504606846976) :
    CH Try.prog 54 #[.slice a xs.length cap] h fun v h' => v = .agg ((SHA xs).map B8).toArray ∧ Ext h h' := by
  refine CH.of_body Try.func54 rfl rfl rfl ?_
  intro f hf
  have p0 : f 0 = .slice a xs.length cap := by rw [hf]; exact fr0_at rfl
  -- region 0
  repeat refine HW.seq ?_
  refine HW.region ?_
  refine HL.one (HO.alloc zr31 ?_)
  intro h1 w1
  intro u2 e2
  refine HL.nil ?_
  -- region 1
  repeat refine HW.seq ?_
  refine HW.region ?_
  refine HL.one (HO.call Try.func65 bd65 nm65 (args0) rfl ((new_ch _).mono ?_))
  rintro _ h2 ⟨rfl, hH2, E2⟩
  intro u4 e4
  refine HL.still (Runs.assign e4) ?_
  intro u3 e3
  refine HL.nil ?_
  have s1 := w1.size
  have z2 := E2.size
  -- region 2
  repeat refine HW.seq ?_
  refine HW.region ?_
  refine HL.still (Runs.move e3) ?_
  intro u5 e5
  refine HL.still (Runs.move p0) ?_
  intro u6 e6
  refine HL.one (HO.call Try.func66 bd66 nm66 (args2 e5 e6) rfl ((write_ch _ h1.size [] xs a cap hH2 (hsrc.src ((w1.ext).ext E2 (Nat.le_refl _)) (by omega)) hcap (by simp; omega)).mono ?_))
  rintro _ h3 ⟨rfl, hH3, E3⟩
  intro u7 e7
  refine HL.nil ?_
  have z3 := E3.size
  rw [List.nil_append] at hH3
  -- region 3
  repeat refine HW.seq ?_
  refine HW.region ?_
  refine HL.still (Runs.move e3) ?_
  intro u8 e8
  refine HL.one (HO.call Try.func67 bd67 nm67 (args1 e8) rfl ((hsum_ch _ h1.size xs hH3 hlen).mono ?_))
  rintro _ h4 ⟨rfl, E4⟩
  intro u9 e9
  refine HL.zero (HO.storeAll sz31 e2 e9 (one_map B8 (fun _ => rfl) _) (E4.keepE (E3.keep (E2.keepE w1.new) (by omega))) (by rw [List.length_map, SHA_len]) rfl ?_)
  intro h5 w5
  refine HL.nil ?_
  have B3 : Bel h.size h h3 := bel_of_exb ((w1.ext).ext E2 (Nat.le_refl _)) E3 (Nat.le_refl _) (by omega)
  refine HW.ret ?_
  exact RT.cell rfl e2 w5.new Try.underlying31 rfl sz31 (by rw [List.length_map, SHA_len]) ⟨rfl, (B3.ext E4 (Nat.le_refl _)).wr w5 (Nat.le_refl _)⟩
end Go.Proofs.Ytklelhfgbjpifaa
/-! onionskinref01.pad: the padded message. -/
namespace Go.Proofs.Ytklelhfgbjpifaa
set_option linter.unnecessarySimpa false
set_option linter.unusedSimpArgs false
set_option linter.unusedVariables false
open Go.RowKit
set_option maxRecDepth 10000 in
theorem run_bytes0 (w : World) : (Instr.buildSlice 29 0 #[]).run Try.prog w = .ok (.slice (some ⟨w.heap.size, 0, none⟩) 0 0) (w.alloc (.cells (([] : List UInt8).map B8).toArray 5)) := by kernel_rfl
set_option maxRecDepth 10000 in
theorem HO.bytes0 {ρ : Operand → Value} {h : Heap} {d : Option Tmp} {ty : TypeId} {pos : String} {af : Array Edge} {gd : Option (Nat × Bool)} {K : Value → Heap → Prop}
    (k : ∀ h', Nw h h' (.cells (([] : List UInt8).map B8).toArray 5 (0, 0)) → K (.slice (some ⟨h.size, 0, none⟩) 0 0) h') : HO Try.prog ⟨d, .buildSlice 29 0 #[], ty, pos, af, gd⟩ ρ h K :=
  HO.buildSlice (fun w => by
    have e : (#[] : Array (Nat × Operand)).map (fun (i, x) => (i, ρ x)) = #[] := by simp
    rw [e]
    exact run_bytes0 w) k
/-- The place of a number's byte i, of eight. -/
def lbAt (m i : Nat) : UInt8 := UInt8.ofNat (m / 2 ^ (8 * (7 - i)))
set_option maxRecDepth 10000 in
theorem lenBytes_map (m : Nat) : (List.range 8).map (lbAt m) = lenBytes m := rfl
set_option maxRecDepth 10000 in
theorem pad_ch (h : Heap) (xs : List UInt8) (a : Option Addr) (cap : Nat) (hsrc : Byt h a xs) (hlen : xs.length < 35184372088832) :
    CH Try.prog 48 #[.slice a xs.length cap] h fun v h' => ∃ a' cap', v = .slice a' (padded xs).length cap' ∧ Bs h' h.size 5 a' cap' (padded xs) ∧ Ext h h' := by
  refine CH.of_body Try.func48 rfl rfl rfl ?_
  intro f hf
  have p0 : f 0 = .slice a xs.length cap := by rw [hf]; exact fr0_at rfl
  have hz63 : zeros xs.length < 64 := by unfold zeros; omega
  -- region 0
  repeat refine HW.seq ?_
  refine HW.region ?_
  refine HL.still (Runs.assign rfl) ?_
  intro u2 e2
  refine HL.nil ?_
  -- region 1
  repeat refine HW.seq ?_
  refine HW.region ?_
  refine HL.one (HO.bytes0 ?_)
  intro h1 w1
  intro u6 e6
  refine HL.still (Runs.move p0) ?_
  intro u7 e7
  refine HL.one (HO.app Try.underlying29 in5 rfl e6 e7 rfl rfl (Bs.lit (xs := []) w1 (Nat.le_refl _) (Nat.zero_le _)) (hsrc.ext w1.ext) (by simp; omega) (by rw [w1.size]; omega) ?_)
  intro a2 c2 h2 B2 G2
  intro u8 e8
  refine HL.still (Runs.assign e8) ?_
  intro u3 e3
  refine HL.nil ?_
  have X2 : Ext h h2 := G2.bel w1.ext (Bs.lit (xs := []) w1 (Nat.le_refl _) (Nat.zero_le _)) (Nat.le_refl _) (Nat.le_refl _)
  have z2 := X2.size
  rw [List.nil_append] at B2 e8 e3
  -- region 2
  repeat refine HW.seq ?_
  refine HW.region ?_
  refine HL.still (Runs.move e3) ?_
  intro u9 e9
  refine HL.one (HO.bytes1 128 rfl ?_)
  intro h3 w3
  intro u10 e10
  refine HL.one (HO.app Try.underlying29 in5 rfl e9 e10 rfl rfl (B2.ext w3.ext) (byt_block w3.new) (by simp; omega) (by rw [w3.size]; omega) ?_)
  intro a4 c4 h4 B4 G4
  intro u11 e11
  refine HL.still (Runs.assign e11) ?_
  intro u3 e3
  refine HL.nil ?_
  have X4 : Ext h h4 := G4.bel (X2.nw w3 (Nat.le_refl _)) (B2.ext w3.ext) (Nat.le_refl _) (Nat.le_refl _)
  have hQ0 : (xs ++ [128]).length = xs.length + 1 := by simp
  repeat refine HW.seq ?_
  refine HW.block ?_
  refine HW.loop (fun m f h' => ∃ z : Nat, z ≤ zeros xs.length ∧ m = zeros xs.length - z ∧ f 0 = .slice a xs.length cap ∧ ∃ a' c', f 3 = .slice a' (xs ++ [128] ++ List.replicate z 0).length c' ∧ Bs h' h.size 5 a' c' (xs ++ [128] ++ List.replicate z 0) ∧ Ext h h') (zeros xs.length)
    ⟨0, Nat.zero_le _, rfl, p0, a4, c4, e3.trans (by simp), by simpa using B4, X4⟩ ?_
  clear e3 e11 B2 G2 B4 G4 X2 X4 z2
  rintro m f h' ⟨z, hz, hm, f0, a', c', f3, hB, hX⟩
  have hQl : (xs ++ [128] ++ List.replicate z (0 : UInt8)).length = xs.length + 1 + z := by simp; omega
  have hm64 : ((xs ++ [128] ++ List.replicate z (0 : UInt8)).length : Int) % 64 = (((xs.length + 1 + z) % 64 : Nat) : Int) := by rw [hQl]; omega
  have hzs := zeros_spec xs.length z hz
  have hsz := hX.size
  by_cases hlt : z < zeros xs.length
  · skip
    -- region 3
    repeat refine HW.seq ?_
    refine HW.region ?_
    refine HL.still (Runs.move f3) ?_
    intro u12 e12
    refine HL.still (Runs.lenSl rfl Try.underlying29 e12) ?_
    intro u13 e13
    refine HL.still (Runs.rem e13 rfl (by decide) ((rem64 (by omega) (by decide)).trans hm64)) ?_
    intro u14 e14
    refine HL.still (Runs.neq e14 rfl rfl) ?_
    intro u15 e15
    refine HL.nil ?_
    repeat refine HW.seq ?_
    refine HW.yes ?_ ?_
    exact e15.trans (congrArg Value.bool (by simp; omega))
    refine HW.skip ?_
    repeat refine HW.seq ?_
    refine HW.block ?_
    -- region 4
    repeat refine HW.seq ?_
    refine HW.region ?_
    refine HL.still (Runs.move f3) ?_
    intro u16 e16
    refine HL.one (HO.bytes1 0 rfl ?_)
    intro h6 w6
    intro u17 e17
    refine HL.one (HO.app Try.underlying29 in5 rfl e16 e17 rfl rfl (hB.ext w6.ext) (byt_block w6.new) (by rw [hQl]; simp; omega) (by rw [w6.size]; omega) ?_)
    intro a7 c7 h7 B7 G7
    intro u18 e18
    refine HL.still (Runs.assign e18) ?_
    intro u3 e3
    refine HL.nil ?_
    have X7 : Ext h h7 := G7.bel (hX.nw w6 (Nat.le_refl _)) (hB.ext w6.ext) (Nat.le_refl _) (Nat.le_refl _)
    refine ⟨zeros xs.length - (z + 1), by omega, z + 1, by omega, rfl, f0, a7, c7, ?_, ?_, X7⟩
    · rw [List.replicate_succ', ← List.append_assoc]; exact e3
    · rw [List.replicate_succ', ← List.append_assoc]; exact B7
  · have hzz : z = zeros xs.length := by omega
    -- region 3
    repeat refine HW.seq ?_
    refine HW.region ?_
    refine HL.still (Runs.move f3) ?_
    intro u12 e12
    refine HL.still (Runs.lenSl rfl Try.underlying29 e12) ?_
    intro u13 e13
    refine HL.still (Runs.rem e13 rfl (by decide) ((rem64 (by omega) (by decide)).trans hm64)) ?_
    intro u14 e14
    refine HL.still (Runs.neq e14 rfl rfl) ?_
    intro u15 e15
    refine HL.nil ?_
    repeat refine HW.seq ?_
    refine HW.no ?_ ?_
    exact e15.trans (congrArg Value.bool (by simp; omega))
    refine HW.exitHere ?_
    subst hzz
    clear hzs hlt hm
    -- region 5
    repeat refine HW.seq ?_
    refine HW.region ?_
    refine HL.still (Runs.move f0) ?_
    intro u19 e19
    refine HL.still (Runs.lenSl rfl Try.underlying29 e19) ?_
    intro u20 e20
    refine HL.still (Runs.conv Try.underlying3 Try.underlying86 e20 (u64w (by omega))) ?_
    intro u21 e21
    refine HL.still (Runs.mul e21 rfl (u64w (by omega))) ?_
    intro u22 e22
    refine HL.still (Runs.assign e22) ?_
    intro u4 e4
    refine HL.nil ?_
    -- region 6
    repeat refine HW.seq ?_
    refine HW.region ?_
    refine HL.still (Runs.assign rfl) ?_
    intro u5 e5
    refine HL.nil ?_
    obtain ⟨Q, hQ⟩ : ∃ Q, Q = xs ++ [128] ++ List.replicate (zeros xs.length) (0 : UInt8) := ⟨_, rfl⟩
    rw [← hQ] at hQl f3 hB
    repeat refine HW.seq ?_
    refine HW.block ?_
    refine HW.loop (fun m f g => ∃ k : Nat, k ≤ 8 ∧ m = 8 - k ∧ f 5 = I64 (7 - k) ∧ f 4 = .int .u64 ((xs.length : Int) * 8) ∧ ∃ a' c', f 3 = .slice a' (Q ++ (List.range k).map (lbAt (xs.length * 8))).length c' ∧ Bs g h.size 5 a' c' (Q ++ (List.range k).map (lbAt (xs.length * 8))) ∧ Ext h g) 8
      ⟨0, Nat.zero_le _, rfl, e5, e4, a', c', f3.trans (by simp), by simpa using hB, hX⟩ ?_
    clear hX hB f3 e5 e4 f0
    rintro m f g ⟨k, hk, hm, f5, f4, a', c', f3, hB, hX⟩
    have hRl : (Q ++ (List.range k).map (lbAt (xs.length * 8))).length = Q.length + k := by simp
    have hsz := hX.size
    by_cases hlt : k < 8
    · skip
      -- region 7
      repeat refine HW.seq ?_
      refine HW.region ?_
      refine HL.still (Runs.move f5) ?_
      intro u23 e23
      refine HL.still (Runs.geq e23 rfl rfl) ?_
      intro u24 e24
      refine HL.nil ?_
      repeat refine HW.seq ?_
      refine HW.yes ?_ ?_
      exact e24.trans (congrArg Value.bool (decide_eq_true (by omega)))
      refine HW.skip ?_
      repeat refine HW.seq ?_
      refine HW.block ?_
      have hsh : ((xs.length : Int) * 8).fdiv (2 ^ (min ((8 : Int) * (7 - (k : Int))).toNat IntKind.u64.bits)) = (((xs.length * 8) / 2 ^ (8 * (7 - k)) : Nat) : Int) := by
        rw [show (8 : Int) * (7 - (k : Int)) = ((8 * (7 - k) : Nat) : Int) by omega]
        exact shr64i (xs.length * 8) (8 * (7 - k)) (by omega)
      -- region 9
      repeat refine HW.seq ?_
      refine HW.region ?_
      refine HL.still (Runs.move f3) ?_
      intro u27 e27
      refine HL.still (Runs.move f4) ?_
      intro u28 e28
      refine HL.still (Runs.move f5) ?_
      intro u29 e29
      refine HL.still (Runs.conv Try.underlying3 Try.underlying72 e29 (u64w (by omega))) ?_
      intro u30 e30
      refine HL.still (Runs.mul rfl e30 (u64w (by omega))) ?_
      intro u31 e31
      refine HL.still (Runs.shr e28 e31 (by omega) hsh) ?_
      intro u32 e32
      refine HL.still (Runs.conv Try.underlying86 Try.underlying5 e32 (u8_of_nat _)) ?_
      intro u33 e33
      refine HL.one (HO.bytes1 (lbAt (xs.length * 8) k) e33 ?_)
      intro h6 w6
      intro u34 e34
      refine HL.one (HO.app Try.underlying29 in5 rfl e27 e34 rfl rfl (hB.ext w6.ext) (byt_block w6.new) (by rw [hRl]; simp; omega) (by rw [w6.size]; omega) ?_)
      intro a7 c7 h7 B7 G7
      intro u35 e35
      refine HL.still (Runs.assign e35) ?_
      intro u3 e3
      refine HL.nil ?_
      have X7 : Ext h h7 := G7.bel (hX.nw w6 (Nat.le_refl _)) (hB.ext w6.ext) (Nat.le_refl _) (Nat.le_refl _)
      -- region 8
      repeat refine HW.seq ?_
      refine HW.region ?_
      refine HL.still (Runs.move f5) ?_
      intro u25 e25
      refine HL.still (Runs.sub e25 rfl (i64w (by omega))) ?_
      intro u26 e26
      refine HL.still (Runs.assign e26) ?_
      intro u5 e5
      refine HL.nil ?_
      have er : Q ++ (List.range (k + 1)).map (lbAt (xs.length * 8)) = Q ++ (List.range k).map (lbAt (xs.length * 8)) ++ [lbAt (xs.length * 8) k] := by rw [List.range_succ, List.map_append, List.append_assoc]; rfl
      refine ⟨8 - (k + 1), by omega, k + 1, by omega, rfl, ?_, f4, a7, c7, ?_, ?_, X7⟩
      · exact e5.trans (congrArg (Value.int .i64) (by omega))
      · rw [er]; exact e3
      · rw [er]; exact B7
    · have hk8 : k = 8 := by omega
      subst hk8
      -- region 7
      repeat refine HW.seq ?_
      refine HW.region ?_
      refine HL.still (Runs.move f5) ?_
      intro u23 e23
      refine HL.still (Runs.geq e23 rfl rfl) ?_
      intro u24 e24
      refine HL.nil ?_
      repeat refine HW.seq ?_
      refine HW.no ?_ ?_
      exact e24.trans (congrArg Value.bool (decide_eq_false (by omega)))
      refine HW.exitHere ?_
      -- region 10
      repeat refine HW.seq ?_
      refine HW.region ?_
      refine HL.still (Runs.move f3) ?_
      intro u36 e36
      refine HL.still (Runs.assign e36) ?_
      intro u2 e2
      refine HL.nil ?_
      refine HW.ret ?_
      rw [lenBytes_map, hQ] at hB e2
      exact RT.one rfl e2 ⟨a', c', rfl, hB, hX⟩
end Go.Proofs.Ytklelhfgbjpifaa
/-! onionskinref01.Sum is the same digest. -/
namespace Go.Proofs.Ytklelhfgbjpifaa
set_option linter.unnecessarySimpa false
set_option linter.unusedSimpArgs false
set_option linter.unusedVariables false
open Go.RowKit
set_option maxRecDepth 10000 in
theorem getD_set_self {α : Type} (l : List α) (k : Nat) (x z : α) (h : k < l.length) : (l.set k x).getD k z = x := by
  simp [h]
set_option maxRecDepth 10000 in
theorem getD_set_ne {α : Type} (l : List α) (k j : Nat) (x z : α) (h : k ≠ j) : (l.set k x).getD j z = l.getD j z := by
  simp [h]
set_option maxRecDepth 10000 in
theorem schA_zero (bs : List UInt8) (k j : Nat) (h : k ≤ 4 * j) : (schA bs k).getD j 0 = 0 := by
  induction k with
  | zero =>
    show (List.replicate 64 (0 : BitVec 32)).getD j 0 = 0
    rw [List.getD_eq_getElem?_getD, List.getElem?_replicate]
    split <;> rfl
  | succ k ih =>
    rw [schA, getD_set_ne _ _ _ _ _ (by omega)]
    exact ih (by omega)
/-- A block's word. -/
def wordOf (x0 x1 x2 x3 : UInt8) : BitVec 32 := BitVec.ofNat 32 x0.toNat <<< 24 ||| BitVec.ofNat 32 x1.toNat <<< 16 ||| BitVec.ofNat 32 x2.toNat <<< 8 ||| BitVec.ofNat 32 x3.toNat
set_option maxRecDepth 10000 in
theorem word4 (a b c d : BitVec 32) : ((((0 : BitVec 32) <<< 8 ||| a) <<< 8 ||| b) <<< 8 ||| c) <<< 8 ||| d = a <<< 24 ||| b <<< 16 ||| c <<< 8 ||| d := by
  rw [show (0 : BitVec 32) <<< 8 ||| a = a by rw [show (0 : BitVec 32) <<< 8 = 0#32 by decide]; exact BitVec.zero_or]
  simp only [BitVec.shiftLeft_or_distrib, ← BitVec.shiftLeft_add, Nat.reduceAdd]
set_option maxRecDepth 10000 in
theorem schA_word (bs : List UInt8) (t : Nat) (ht : t < 16) : schA bs (4 * (t + 1)) = (schA bs (4 * t)).set t (wordOf (bs.getD (4 * t) 0) (bs.getD (4 * t + 1) 0) (bs.getD (4 * t + 2) 0) (bs.getD (4 * t + 3) 0)) := by
  have hl := schA_len bs (4 * t)
  have h0 := schA_zero bs (4 * t) t (Nat.le_refl _)
  rw [show 4 * (t + 1) = 4 * t + 1 + 1 + 1 + 1 by omega]
  simp only [schA]
  rw [show (4 * t) / 4 = t by omega, show (4 * t + 1) / 4 = t by omega, show (4 * t + 1 + 1) / 4 = t by omega, show (4 * t + 1 + 1 + 1) / 4 = t by omega, h0]
  rw [getD_set_self _ _ _ _ (by (try simp only [List.length_set]); omega), List.set_set, getD_set_self _ _ _ _ (by (try simp only [List.length_set]); omega), List.set_set, getD_set_self _ _ _ _ (by (try simp only [List.length_set]); omega), List.set_set, word4]
  rfl
/-- The words, t of them told. -/
def refW (bs : List UInt8) (t : Nat) : List (BitVec 32) := if t ≤ 16 then schA bs (4 * t) else schB (schA bs 64) (t - 16)
set_option maxRecDepth 10000 in
theorem refW_len (bs : List UInt8) (t : Nat) : (refW bs t).length = 64 := by
  unfold refW
  split
  · exact schA_len _ _
  · rw [schB_len, schA_len]
set_option maxRecDepth 10000 in
theorem refW_lo (bs : List UInt8) (t : Nat) (ht : t < 16) : refW bs (t + 1) = (refW bs t).set t (wordOf (bs.getD (4 * t) 0) (bs.getD (4 * t + 1) 0) (bs.getD (4 * t + 2) 0) (bs.getD (4 * t + 3) 0)) := by
  unfold refW
  rw [if_pos (by omega), if_pos (by omega)]
  exact schA_word bs t ht
set_option maxRecDepth 10000 in
theorem refW_hi (bs : List UInt8) (t : Nat) (ht : 16 ≤ t) : refW bs (t + 1) = (refW bs t).set t (sg1 ((refW bs t).getD (t - 2) 0) + (refW bs t).getD (t - 7) 0 + sg0 ((refW bs t).getD (t - 15) 0) + (refW bs t).getD (t - 16) 0) := by
  have e : refW bs t = schB (schA bs 64) (t - 16) := by
    unfold refW
    split
    · have : t = 16 := by omega
      subst this
      rfl
    · rfl
  rw [e]
  unfold refW
  rw [if_neg (by omega), show t + 1 - 16 = (t - 16) + 1 by omega, schB, show 16 + (t - 16) = t by omega]
set_option maxRecDepth 10000 in
theorem refW_all (bs : List UInt8) : refW bs 64 = sched bs := rfl
set_option maxRecDepth 10000 in
theorem getD_drop_take (l : List UInt8) (o n j : Nat) (hj : j < n) : ((l.drop o).take n).getD j 0 = l.getD (o + j) 0 := by
  rw [List.getD_eq_getElem?_getD, List.getD_eq_getElem?_getD, List.getElem?_take, if_pos hj, List.getElem?_drop]
set_option maxRecDepth 10000 in
theorem rnd_list (k w : BitVec 32) (s : H8) (x y : BitVec 32) (hx : x = s.h + ep1 s.e + (s.e &&& s.f ^^^ ~~~s.e &&& s.g) + k + w) (hy : y = s.a &&& s.b ^^^ s.a &&& s.c ^^^ s.b &&& s.c) :
    [x + ep0 s.a + y, s.a, s.b, s.c, s.d + x, s.e, s.f, s.g] = (rnd k w s).list := by
  subst hx
  subst hy
  simp only [rnd, H8.list, BitVec.add_assoc]
set_option maxRecDepth 10000 in
theorem H8.of_list (l : List (BitVec 32)) (h : l.length = 8) : (H8.of l).list = l := by
  match l, h with
  | [a, b, c, d, e, f, g, i], _ => rfl
set_option maxRecDepth 10000 in
theorem rsum_ch (h : Heap) (xs : List UInt8) (a : Option Addr) (cap : Nat) (hsrc : Byt h a xs) (hlen : xs.length < 35184372088832) :
    CH Try.prog 20 #[.slice a xs.length cap] h fun v h' => v = .agg ((SHA xs).map B8).toArray ∧ Ext h h' := by
  refine CH.of_body Try.func20 rfl rfl rfl ?_
  intro f hf
  have p0 : f 0 = .slice a xs.length cap := by rw [hf]; exact fr0_at rfl
  -- region 0
  repeat refine HW.seq ?_
  refine HW.region ?_
  refine HL.one (HO.alloc zr31 ?_)
  intro h1 w1
  intro u2 e2
  refine HL.nil ?_
  -- region 1
  repeat refine HW.seq ?_
  refine HW.region ?_
  refine HL.still (Runs.build (v := .agg (kt.map W32).toArray) (fun w => by kernel_rfl)) ?_
  intro u22 e22
  refine HL.one (HO.alloc zr70 ?_)
  intro h2 w2
  intro u3 e3
  refine HL.zero (HO.storeAll sz70 e3 e22 (one_map W32 (fun _ => rfl) _) w2.new rfl rfl ?_)
  intro h3 w3
  refine HL.nil ?_
  -- region 2
  repeat refine HW.seq ?_
  refine HW.region ?_
  refine HL.still (Runs.build8 (x0 := 0x6a09e667) (x1 := 0xbb67ae85) (x2 := 0x3c6ef372) (x3 := 0xa54ff53a) (x4 := 0x510e527f) (x5 := 0x9b05688c) (x6 := 0x1f83d9ab) (x7 := 0x5be0cd19) rfl rfl rfl rfl rfl rfl rfl rfl) ?_
  intro u23 e23
  refine HL.one (HO.alloc zr71 ?_)
  intro h4 w4
  intro u4 e4
  refine HL.zero (HO.storeAll sz71 e4 e23 (one_map W32 (fun _ => rfl) _) w4.new rfl rfl ?_)
  intro h5 w5
  refine HL.nil ?_
  have s1 := w1.size
  have s2 := w2.size
  have s3 := w3.size
  have s4 := w4.size
  have s5 := w5.size
  have X5 : Ext h h5 := ((((w1.ext).ext w2.ext (Nat.le_refl _)).wr w3 (by omega)).ext w4.ext (Nat.le_refl _)).wr w5 (by omega)
  -- region 3
  repeat refine HW.seq ?_
  refine HW.region ?_
  refine HL.still (Runs.move p0) ?_
  intro u24 e24
  refine HL.one (HO.call Try.func48 bd48 nm48 (args1 e24) rfl ((pad_ch _ xs a cap (hsrc.ext X5) hlen).mono ?_))
  rintro _ h6 ⟨a6, c6, rfl, B6, E6⟩
  intro u25 e25
  refine HL.still (Runs.assign e25) ?_
  intro u5 e5
  refine HL.nil ?_
  have s6 := E6.size
  have hN6 := E6.keepE (w5.keep (w4.keep (w3.keep (w2.keep w1.new) (by omega))) (by omega))
  have hK6 := E6.keepE (w5.keep (w4.keep w3.new) (by omega))
  have hH6 := E6.keepE w5.new
  have X6 : Ext h h6 := X5.ext E6 (Nat.le_refl _)
  obtain ⟨p, hp⟩ : ∃ p, p = padded xs := ⟨_, rfl⟩
  rw [← hp] at B6 e5
  have hpl : p.length % 64 = 0 := by rw [hp]; exact padded_mod xs
  have hpl2 : p.length < 35184372089000 := by rw [hp, padded_len]; unfold zeros; omega
  have hpp : 0 < p.length := by rw [hp, padded_len]; omega
  obtain ⟨pb, ha6, hpb, hpb6, hP6⟩ : ∃ pb, a6 = some ⟨pb, 0, none⟩ ∧ h5.size ≤ pb ∧ pb < h6.size ∧ ∀ j, j < p.length → cellH h6 pb j = some (B8 (p.getD j 0)) := by
    rcases B6.byt with e | ⟨sb, so, e1, e2⟩
    · rw [e] at hpp; cases hpp
    · rcases B6.blk with e3 | ⟨g, e3, e4, e5⟩
      · rw [e3] at e1; cases e1
      · rw [e3] at e1; cases e1
        exact ⟨_, e3, e4, e5, fun j hj => by have := e2 j hj; rwa [Nat.zero_add] at this⟩
  subst ha6
  -- region 4
  repeat refine HW.seq ?_
  refine HW.region ?_
  refine HL.still (Runs.assign rfl) ?_
  intro u6 e6
  refine HL.nil ?_
  repeat refine HW.seq ?_
  refine HW.block ?_
  refine HW.loop (fun m f g => ∃ k : Nat, k ≤ p.length / 64 ∧ m = p.length / 64 - k ∧ f 6 = I64 ((64 * k : Nat) : Int) ∧ f 2 = .pointer (some ⟨h.size, 0, none⟩) ∧ f 3 = .pointer (some ⟨h1.size, 0, none⟩) ∧ f 4 = .pointer (some ⟨h3.size, 0, none⟩) ∧ f 5 = .slice (some ⟨pb, 0, none⟩) p.length c6 ∧
    g[h.size]? = some (.cells ((List.replicate 32 (0 : UInt8)).map B8).toArray 31 (0, 0)) ∧ g[h1.size]? = some (.cells (kt.map W32).toArray 70 (0, 0)) ∧ g[h3.size]? = some (.cells ((foldB p k).map W32).toArray 71 (0, 0)) ∧ (∀ j, j < p.length → cellH g pb j = some (B8 (p.getD j 0))) ∧ Bel h.size h g ∧ h6.size ≤ g.size) (p.length / 64)
    ⟨0, Nat.zero_le _, rfl, e6, e2, e3, e4, e5, hN6, hK6, hH6, hP6, X6, Nat.le_refl _⟩ ?_
  clear e2 e3 e4 e5 e6 hN6 hK6 hH6 hP6 X5
  rintro m f g ⟨k, hk, hm, f6, f2, f3, f4, f5, hN, hK, hH, hP, hX, hg6⟩
  have hfl : (foldB p k).length = 8 := foldB_len p k
  by_cases hlt : k < p.length / 64
  · skip
    -- region 5
    repeat refine HW.seq ?_
    refine HW.region ?_
    refine HL.still (Runs.move f6) ?_
    intro u26 e26
    refine HL.still (Runs.move f5) ?_
    intro u27 e27
    refine HL.still (Runs.lenSl rfl Try.underlying29 e27) ?_
    intro u28 e28
    refine HL.still (Runs.lss e26 e28 rfl) ?_
    intro u29 e29
    refine HL.nil ?_
    repeat refine HW.seq ?_
    refine HW.yes ?_ ?_
    exact e29.trans (congrArg Value.bool (decide_eq_true (by omega)))
    refine HW.skip ?_
    repeat refine HW.seq ?_
    refine HW.block ?_
    -- region 7
    repeat refine HW.seq ?_
    refine HW.region ?_
    refine HL.one (HO.alloc zr70 ?_)
    intro h7 w7
    intro u7 e7
    refine HL.nil ?_
    have s7 := w7.size
    -- region 8
    repeat refine HW.seq ?_
    refine HW.region ?_
    refine HL.still (Runs.assign rfl) ?_
    intro u8 e8
    refine HL.nil ?_
    obtain ⟨bs, hbs⟩ : ∃ bs, bs = (p.drop (64 * k)).take 64 := ⟨_, rfl⟩
    repeat refine HW.seq ?_
    refine HW.block ?_
    refine HW.loop (fun m f g' => ∃ t : Nat, t ≤ 64 ∧ m = 64 - t ∧ f 8 = I64 t ∧ f 6 = I64 ((64 * k : Nat) : Int) ∧ f 2 = .pointer (some ⟨h.size, 0, none⟩) ∧ f 3 = .pointer (some ⟨h1.size, 0, none⟩) ∧ f 4 = .pointer (some ⟨h3.size, 0, none⟩) ∧ f 5 = .slice (some ⟨pb, 0, none⟩) p.length c6 ∧ f 7 = .pointer (some ⟨g.size, 0, none⟩) ∧
      g'[g.size]? = some (.cells ((refW bs t).map W32).toArray 70 (0, 0)) ∧ Bel g.size g g' ∧ g'.size = g.size + 1) 64
      ⟨0, Nat.zero_le _, rfl, e8, f6, f2, f3, f4, f5, e7, w7.new, w7.ext, s7⟩ ?_
    clear e7 e8 f2 f3 f4 f5 f6
    rintro m f g' ⟨t, ht, hm', f8, f6, f2, f3, f4, f5, f7, hW, hE, hs'⟩
    have hwl := refW_len bs t
    by_cases hlt2 : t < 64
    · skip
      -- region 9
      repeat refine HW.seq ?_
      refine HW.region ?_
      refine HL.still (Runs.move f8) ?_
      intro u32 e32
      refine HL.still (Runs.lss e32 rfl rfl) ?_
      intro u33 e33
      refine HL.nil ?_
      repeat refine HW.seq ?_
      refine HW.yes ?_ ?_
      exact e33.trans (congrArg Value.bool (decide_eq_true (by omega)))
      refine HW.skip ?_
      repeat refine HW.seq ?_
      refine HW.block ?_
      -- region 11
      repeat refine HW.seq ?_
      refine HW.region ?_
      refine HL.still (Runs.move f8) ?_
      intro u36 e36
      refine HL.still (Runs.lss e36 rfl rfl) ?_
      intro u37 e37
      refine HL.nil ?_
      by_cases hlo : t < 16
      · skip
        repeat refine HW.seq ?_
        refine HW.yes ?_ ?_
        exact e37.trans (congrArg Value.bool (decide_eq_true (by omega)))
        have hP' : ∀ j, j < 64 → cellH g' pb (64 * k + j) = some (B8 (bs.getD j 0)) := fun j hj => by
          rw [cellH_keep (hE.old pb (by omega)), hP _ (by omega), hbs, getD_drop_take _ _ _ _ hj]
        -- region 12
        repeat refine HW.seq ?_
        refine HW.region ?_
        refine HL.still (Runs.move f6) ?_
        intro u38 e38
        refine HL.still (Runs.move f8) ?_
        intro u39 e39
        refine HL.still (Runs.mul rfl e39 (i64w (by omega))) ?_
        intro u40 e40
        refine HL.still (Runs.add e38 e40 (i64w (by omega))) ?_
        intro u41 e41
        refine HL.still (Runs.assign e41) ?_
        intro u9 e9
        refine HL.nil ?_
        -- region 13
        repeat refine HW.seq ?_
        refine HW.drawTail 31 mixed (by kernel_rfl) ?_
        refine HS.still (Runs.move f8) ?_
        intro u42 e42
        refine HS.still (Runs.move f5) ?_
        intro u43 e43
        refine HS.still (Runs.move e9) ?_
        intro u44 e44
        refine HS.still (Runs.ixSl (o' := 64 * k + 4 * t) Try.underlying29 sz5 e43 e44 (by omega) (by omega) (by omega)) ?_
        intro u45 e45
        refine HS.still (Runs.load Try.underlying5 rfl e45 (hP' (4 * t) (by omega))) ?_
        intro u46 e46
        refine HS.still (Runs.conv Try.underlying5 Try.underlying69 e46 (conv_u8_u32 _)) ?_
        intro u47 e47
        refine HS.still (Runs.shl e47 rfl (by decide) (shl32c _ 24 (by decide))) ?_
        intro u48 e48
        refine HS.still (Runs.move f5) ?_
        intro u49 e49
        refine HS.still (Runs.move e9) ?_
        intro u50 e50
        refine HS.still (Runs.add e50 rfl (i64w (by omega))) ?_
        intro u51 e51
        refine HS.still (Runs.ixSl (o' := 64 * k + (4 * t + 1)) Try.underlying29 sz5 e49 e51 (by omega) (by omega) (by omega)) ?_
        intro u52 e52
        refine HS.still (Runs.load Try.underlying5 rfl e52 (hP' (4 * t + 1) (by omega))) ?_
        intro u53 e53
        refine HS.still (Runs.conv Try.underlying5 Try.underlying69 e53 (conv_u8_u32 _)) ?_
        intro u54 e54
        refine HS.still (Runs.shl e54 rfl (by decide) (shl32c _ 16 (by decide))) ?_
        intro u55 e55
        refine HS.still (Runs.or e48 e55 (bits_or32 _ _)) ?_
        intro u56 e56
        refine HS.still (Runs.move f5) ?_
        intro u57 e57
        refine HS.still (Runs.move e9) ?_
        intro u58 e58
        refine HS.still (Runs.add e58 rfl (i64w (by omega))) ?_
        intro u59 e59
        refine HS.still (Runs.ixSl (o' := 64 * k + (4 * t + 2)) Try.underlying29 sz5 e57 e59 (by omega) (by omega) (by omega)) ?_
        intro u60 e60
        refine HS.still (Runs.load Try.underlying5 rfl e60 (hP' (4 * t + 2) (by omega))) ?_
        intro u61 e61
        refine HS.still (Runs.conv Try.underlying5 Try.underlying69 e61 (conv_u8_u32 _)) ?_
        intro u62 e62
        refine HS.still (Runs.shl e62 rfl (by decide) (shl32c _ 8 (by decide))) ?_
        intro u63 e63
        refine HS.still (Runs.or e56 e63 (bits_or32 _ _)) ?_
        intro u64 e64
        refine HS.still (Runs.move f5) ?_
        intro u65 e65
        refine HS.still (Runs.move e9) ?_
        intro u66 e66
        refine HS.still (Runs.add e66 rfl (i64w (by omega))) ?_
        intro u67 e67
        refine HS.still (Runs.ixSl (o' := 64 * k + (4 * t + 3)) Try.underlying29 sz5 e65 e67 (by omega) (by omega) (by omega)) ?_
        intro u68 e68
        refine HS.still (Runs.load Try.underlying5 rfl e68 (hP' (4 * t + 3) (by omega))) ?_
        intro u69 e69
        refine HS.still (Runs.conv Try.underlying5 Try.underlying69 e69 (conv_u8_u32 _)) ?_
        intro u70 e70
        refine HS.still (Runs.or e64 e70 (bits_or32 _ _)) ?_
        intro u71 e71
        refine HS.still (Runs.ixArr (o' := t) Try.underlying70 sz69 f7 e42 (by omega) (by omega) (by omega)) ?_
        intro u72 e72
        refine HS.nil ?_
        refine HL.zero (HO.store (s := 1) sz69 e72 e71 rfl hW (by rw [List.length_map]; omega) rfl ?_)
        intro h8 w8
        refine HL.nil ?_
        have hW8 := w8.new
        rw [← List.map_set] at hW8
        have s8 := w8.size
        -- region 10
        repeat refine HW.seq ?_
        refine HW.region ?_
        refine HL.still (Runs.move f8) ?_
        intro u34 e34
        refine HL.still (Runs.add e34 rfl (i64w (by omega))) ?_
        intro u35 e35
        refine HL.still (Runs.assign e35) ?_
        intro u8 e8
        refine HL.nil ?_
        refine ⟨64 - (t + 1), by omega, t + 1, by omega, rfl, e8, f6, f2, f3, f4, f5, f7, ?_, hE.wr w8 (Nat.le_refl _), by omega⟩
        rw [refW_lo bs t hlo]
        exact hW8
      · skip
        repeat refine HW.seq ?_
        refine HW.no ?_ ?_
        exact e37.trans (congrArg Value.bool (decide_eq_false (by omega)))
        -- region 14
        repeat refine HW.seq ?_
        refine HW.draw mixed (by kernel_rfl) ?_
        refine HS.still (Runs.move f8) ?_
        intro u73 e73
        refine HS.still (Runs.sub e73 rfl (i64w (by omega))) ?_
        intro u74 e74
        refine HS.still (Runs.ixArr (o' := t - 15) Try.underlying70 sz69 f7 e74 (by omega) (by omega) (by omega)) ?_
        intro u75 e75
        refine HS.still (Runs.load Try.underlying69 rfl e75 (cellH_map (j := t - 15) 0 hW (by omega))) ?_
        intro u76 e76
        refine HS.call (fun w _ => run_call Try.func49 bd49 nm49 (args2 e76 rfl) rfl w) (fun w _ => turn_w 7 (by decide) (by decide) _ w) ?_
        intro u77 e77
        refine HS.still (Runs.move f8) ?_
        intro u78 e78
        refine HS.still (Runs.sub e78 rfl (i64w (by omega))) ?_
        intro u79 e79
        refine HS.still (Runs.ixArr (o' := t - 15) Try.underlying70 sz69 f7 e79 (by omega) (by omega) (by omega)) ?_
        intro u80 e80
        refine HS.still (Runs.load Try.underlying69 rfl e80 (cellH_map (j := t - 15) 0 hW (by omega))) ?_
        intro u81 e81
        refine HS.call (fun w _ => run_call Try.func49 bd49 nm49 (args2 e81 rfl) rfl w) (fun w _ => turn_w 18 (by decide) (by decide) _ w) ?_
        intro u82 e82
        refine HS.still (Runs.xor e77 e82 (bits_xor32 _ _)) ?_
        intro u83 e83
        refine HS.still (Runs.move f8) ?_
        intro u84 e84
        refine HS.still (Runs.sub e84 rfl (i64w (by omega))) ?_
        intro u85 e85
        refine HS.still (Runs.ixArr (o' := t - 15) Try.underlying70 sz69 f7 e85 (by omega) (by omega) (by omega)) ?_
        intro u86 e86
        refine HS.still (Runs.load Try.underlying69 rfl e86 (cellH_map (j := t - 15) 0 hW (by omega))) ?_
        intro u87 e87
        refine HS.still (Runs.shr e87 rfl (by decide) (shr32c _ 3 (by decide))) ?_
        intro u88 e88
        refine HS.still (Runs.xor e83 e88 (bits_xor32 _ _)) ?_
        intro u89 e89
        refine HS.still (Runs.assign e89) ?_
        intro u10 e10
        refine HS.nil ?_
        -- region 15
        repeat refine HW.seq ?_
        refine HW.draw mixed (by kernel_rfl) ?_
        refine HS.still (Runs.move f8) ?_
        intro u90 e90
        refine HS.still (Runs.sub e90 rfl (i64w (by omega))) ?_
        intro u91 e91
        refine HS.still (Runs.ixArr (o' := t - 2) Try.underlying70 sz69 f7 e91 (by omega) (by omega) (by omega)) ?_
        intro u92 e92
        refine HS.still (Runs.load Try.underlying69 rfl e92 (cellH_map (j := t - 2) 0 hW (by omega))) ?_
        intro u93 e93
        refine HS.call (fun w _ => run_call Try.func49 bd49 nm49 (args2 e93 rfl) rfl w) (fun w _ => turn_w 17 (by decide) (by decide) _ w) ?_
        intro u94 e94
        refine HS.still (Runs.move f8) ?_
        intro u95 e95
        refine HS.still (Runs.sub e95 rfl (i64w (by omega))) ?_
        intro u96 e96
        refine HS.still (Runs.ixArr (o' := t - 2) Try.underlying70 sz69 f7 e96 (by omega) (by omega) (by omega)) ?_
        intro u97 e97
        refine HS.still (Runs.load Try.underlying69 rfl e97 (cellH_map (j := t - 2) 0 hW (by omega))) ?_
        intro u98 e98
        refine HS.call (fun w _ => run_call Try.func49 bd49 nm49 (args2 e98 rfl) rfl w) (fun w _ => turn_w 19 (by decide) (by decide) _ w) ?_
        intro u99 e99
        refine HS.still (Runs.xor e94 e99 (bits_xor32 _ _)) ?_
        intro u100 e100
        refine HS.still (Runs.move f8) ?_
        intro u101 e101
        refine HS.still (Runs.sub e101 rfl (i64w (by omega))) ?_
        intro u102 e102
        refine HS.still (Runs.ixArr (o' := t - 2) Try.underlying70 sz69 f7 e102 (by omega) (by omega) (by omega)) ?_
        intro u103 e103
        refine HS.still (Runs.load Try.underlying69 rfl e103 (cellH_map (j := t - 2) 0 hW (by omega))) ?_
        intro u104 e104
        refine HS.still (Runs.shr e104 rfl (by decide) (shr32c _ 10 (by decide))) ?_
        intro u105 e105
        refine HS.still (Runs.xor e100 e105 (bits_xor32 _ _)) ?_
        intro u106 e106
        refine HS.still (Runs.assign e106) ?_
        intro u11 e11
        refine HS.nil ?_
        -- region 16
        repeat refine HW.seq ?_
        refine HW.drawTail 15 mixed (by kernel_rfl) ?_
        refine HS.still (Runs.move f8) ?_
        intro u107 e107
        refine HS.still (Runs.move e11) ?_
        intro u108 e108
        refine HS.still (Runs.move f8) ?_
        intro u109 e109
        refine HS.still (Runs.sub e109 rfl (i64w (by omega))) ?_
        intro u110 e110
        refine HS.still (Runs.ixArr (o' := t - 7) Try.underlying70 sz69 f7 e110 (by omega) (by omega) (by omega)) ?_
        intro u111 e111
        refine HS.still (Runs.load Try.underlying69 rfl e111 (cellH_map (j := t - 7) 0 hW (by omega))) ?_
        intro u112 e112
        refine HS.still (Runs.add e108 e112 (add32w _ _)) ?_
        intro u113 e113
        refine HS.still (Runs.move e10) ?_
        intro u114 e114
        refine HS.still (Runs.add e113 e114 (add32w _ _)) ?_
        intro u115 e115
        refine HS.still (Runs.move f8) ?_
        intro u116 e116
        refine HS.still (Runs.sub e116 rfl (i64w (by omega))) ?_
        intro u117 e117
        refine HS.still (Runs.ixArr (o' := t - 16) Try.underlying70 sz69 f7 e117 (by omega) (by omega) (by omega)) ?_
        intro u118 e118
        refine HS.still (Runs.load Try.underlying69 rfl e118 (cellH_map (j := t - 16) 0 hW (by omega))) ?_
        intro u119 e119
        refine HS.still (Runs.add e115 e119 (add32w _ _)) ?_
        intro u120 e120
        refine HS.still (Runs.ixArr (o' := t) Try.underlying70 sz69 f7 e107 (by omega) (by omega) (by omega)) ?_
        intro u121 e121
        refine HS.nil ?_
        refine HL.zero (HO.store (s := 1) sz69 e121 e120 rfl hW (by rw [List.length_map]; omega) rfl ?_)
        intro h8 w8
        refine HL.nil ?_
        have hW8 := w8.new
        rw [← List.map_set] at hW8
        have s8 := w8.size
        -- region 10
        repeat refine HW.seq ?_
        refine HW.region ?_
        refine HL.still (Runs.move f8) ?_
        intro u34 e34
        refine HL.still (Runs.add e34 rfl (i64w (by omega))) ?_
        intro u35 e35
        refine HL.still (Runs.assign e35) ?_
        intro u8 e8
        refine HL.nil ?_
        refine ⟨64 - (t + 1), by omega, t + 1, by omega, rfl, e8, f6, f2, f3, f4, f5, f7, ?_, hE.wr w8 (Nat.le_refl _), by omega⟩
        rw [refW_hi bs t (by omega)]
        exact hW8
    · have ht64 : t = 64 := by omega
      subst ht64
      -- region 9
      repeat refine HW.seq ?_
      refine HW.region ?_
      refine HL.still (Runs.move f8) ?_
      intro u32 e32
      refine HL.still (Runs.lss e32 rfl rfl) ?_
      intro u33 e33
      refine HL.nil ?_
      repeat refine HW.seq ?_
      refine HW.no ?_ ?_
      exact e33.trans (congrArg Value.bool (decide_eq_false (by omega)))
      refine HW.exitHere ?_
      rw [refW_all] at hW
      clear hwl
      have hwl := sched_len bs
      have hHg := hE.keepE hH
      have hbl := lt_of_some hH
      -- region 17
      repeat refine HW.seq ?_
      refine HW.region ?_
      refine HL.still (Runs.loadAgg Try.underlying71 rfl sz71 f4 (by rw [List.length_map]; exact hfl) (load_blk hHg)) ?_
      intro u122 e122
      refine HL.one (HO.alloc zr71 ?_)
      intro h8 w8
      intro u12 e12
      refine HL.zero (HO.storeAll sz71 e12 e122 (one_map W32 (fun _ => rfl) _) w8.new (by rw [List.length_map]; exact hfl) rfl ?_)
      intro h9 w9
      refine HL.nil ?_
      have s8 := w8.size
      have s9 := w9.size
      have hW9 := w9.keep (w8.keep hW) (by omega)
      have hE9 : Bel g.size g h9 := (hE.nw w8 (Nat.le_refl _)).wr w9 (by omega)
      have hV9 := w9.new
      -- region 18
      repeat refine HW.seq ?_
      refine HW.region ?_
      refine HL.still (Runs.assign rfl) ?_
      intro u13 e13
      refine HL.nil ?_
      have hK9 := hE9.keepE hK
      repeat refine HW.seq ?_
      refine HW.block ?_
      refine HW.loop (fun m f u => ∃ t : Nat, t ≤ 64 ∧ m = 64 - t ∧ ∃ s : H8, s = rnds (sched bs) t (H8.of (foldB p k)) ∧ f 13 = I64 t ∧ f 6 = I64 ((64 * k : Nat) : Int) ∧ f 2 = .pointer (some ⟨h.size, 0, none⟩) ∧ f 3 = .pointer (some ⟨h1.size, 0, none⟩) ∧ f 4 = .pointer (some ⟨h3.size, 0, none⟩) ∧ f 5 = .slice (some ⟨pb, 0, none⟩) p.length c6 ∧ f 7 = .pointer (some ⟨g.size, 0, none⟩) ∧ f 12 = .pointer (some ⟨g'.size, 0, none⟩) ∧
        u[g'.size]? = some (.cells (s.list.map W32).toArray 71 (0, 0)) ∧ u[g.size]? = some (.cells ((sched bs).map W32).toArray 70 (0, 0)) ∧ Bel g.size g u ∧ u.size = h9.size) 64
        ⟨0, Nat.zero_le _, rfl, H8.of (foldB p k), rfl, e13, f6, f2, f3, f4, f5, f7, e12, by rw [H8.of_list _ hfl]; exact hV9, hW9, hE9, rfl⟩ ?_
      clear e12 e13 f2 f3 f4 f5 f6 f7 hV9 hW9 hE9 hK9
      rintro m f u ⟨t, ht, hm'', s, hS, f13, f6, f2, f3, f4, f5, f7, f12, hV, hW9, hE9, hu⟩
      have hK9 := hE9.keepE hK
      by_cases hlt3 : t < 64
      · skip
        -- region 19
        repeat refine HW.seq ?_
        refine HW.region ?_
        refine HL.still (Runs.move f13) ?_
        intro u123 e123
        refine HL.still (Runs.lss e123 rfl rfl) ?_
        intro u124 e124
        refine HL.nil ?_
        repeat refine HW.seq ?_
        refine HW.yes ?_ ?_
        exact e124.trans (congrArg Value.bool (decide_eq_true (by omega)))
        refine HW.skip ?_
        repeat refine HW.seq ?_
        refine HW.block ?_
        -- region 21
        repeat refine HW.seq ?_
        refine HW.draw mixed (by kernel_rfl) ?_
        refine HS.still (Runs.ixArr (o' := 4) Try.underlying71 sz69 f12 rfl (by decide) (by decide) (by rfl)) ?_
        intro u127 e127
        refine HS.still (Runs.load Try.underlying69 rfl e127 (cellH_map (j := 4) 0 hV (show 4 < 8 by decide))) ?_
        intro u128 e128
        refine HS.call (fun w _ => run_call Try.func49 bd49 nm49 (args2 e128 rfl) rfl w) (fun w _ => turn_w 6 (by decide) (by decide) _ w) ?_
        intro u129 e129
        refine HS.still (Runs.ixArr (o' := 4) Try.underlying71 sz69 f12 rfl (by decide) (by decide) (by rfl)) ?_
        intro u130 e130
        refine HS.still (Runs.load Try.underlying69 rfl e130 (cellH_map (j := 4) 0 hV (show 4 < 8 by decide))) ?_
        intro u131 e131
        refine HS.call (fun w _ => run_call Try.func49 bd49 nm49 (args2 e131 rfl) rfl w) (fun w _ => turn_w 11 (by decide) (by decide) _ w) ?_
        intro u132 e132
        refine HS.still (Runs.xor e129 e132 (bits_xor32 _ _)) ?_
        intro u133 e133
        refine HS.still (Runs.ixArr (o' := 4) Try.underlying71 sz69 f12 rfl (by decide) (by decide) (by rfl)) ?_
        intro u134 e134
        refine HS.still (Runs.load Try.underlying69 rfl e134 (cellH_map (j := 4) 0 hV (show 4 < 8 by decide))) ?_
        intro u135 e135
        refine HS.call (fun w _ => run_call Try.func49 bd49 nm49 (args2 e135 rfl) rfl w) (fun w _ => turn_w 25 (by decide) (by decide) _ w) ?_
        intro u136 e136
        refine HS.still (Runs.xor e133 e136 (bits_xor32 _ _)) ?_
        intro u137 e137
        refine HS.still (Runs.assign e137) ?_
        intro u14 e14
        refine HS.nil ?_
        -- region 22
        repeat refine HW.seq ?_
        refine HW.region ?_
        refine HL.still (Runs.ixArr (o' := 4) Try.underlying71 sz69 f12 rfl (by decide) (by decide) (by rfl)) ?_
        intro u138 e138
        refine HL.still (Runs.load Try.underlying69 rfl e138 (cellH_map (j := 4) 0 hV (show 4 < 8 by decide))) ?_
        intro u139 e139
        refine HL.still (Runs.ixArr (o' := 5) Try.underlying71 sz69 f12 rfl (by decide) (by decide) (by rfl)) ?_
        intro u140 e140
        refine HL.still (Runs.load Try.underlying69 rfl e140 (cellH_map (j := 5) 0 hV (show 5 < 8 by decide))) ?_
        intro u141 e141
        refine HL.still (Runs.and e139 e141 (bits_and32 _ _)) ?_
        intro u142 e142
        refine HL.still (Runs.ixArr (o' := 4) Try.underlying71 sz69 f12 rfl (by decide) (by decide) (by rfl)) ?_
        intro u143 e143
        refine HL.still (Runs.load Try.underlying69 rfl e143 (cellH_map (j := 4) 0 hV (show 4 < 8 by decide))) ?_
        intro u144 e144
        refine HL.still (Runs.compl e144 (compl32 _)) ?_
        intro u145 e145
        refine HL.still (Runs.ixArr (o' := 6) Try.underlying71 sz69 f12 rfl (by decide) (by decide) (by rfl)) ?_
        intro u146 e146
        refine HL.still (Runs.load Try.underlying69 rfl e146 (cellH_map (j := 6) 0 hV (show 6 < 8 by decide))) ?_
        intro u147 e147
        refine HL.still (Runs.and e145 e147 (bits_and32 _ _)) ?_
        intro u148 e148
        refine HL.still (Runs.xor e142 e148 (bits_xor32 _ _)) ?_
        intro u149 e149
        refine HL.still (Runs.assign e149) ?_
        intro u15 e15
        refine HL.nil ?_
        -- region 23
        repeat refine HW.seq ?_
        refine HW.draw mixed (by kernel_rfl) ?_
        refine HS.still (Runs.ixArr (o' := 7) Try.underlying71 sz69 f12 rfl (by decide) (by decide) (by rfl)) ?_
        intro u150 e150
        refine HS.still (Runs.load Try.underlying69 rfl e150 (cellH_map (j := 7) 0 hV (show 7 < 8 by decide))) ?_
        intro u151 e151
        refine HS.still (Runs.move e14) ?_
        intro u152 e152
        refine HS.still (Runs.add e151 e152 (add32w _ _)) ?_
        intro u153 e153
        refine HS.still (Runs.move e15) ?_
        intro u154 e154
        refine HS.still (Runs.add e153 e154 (add32w _ _)) ?_
        intro u155 e155
        refine HS.still (Runs.move f13) ?_
        intro u156 e156
        refine HS.still (Runs.ixArr (o' := t) Try.underlying70 sz69 f3 e156 (by omega) (by omega) (by omega)) ?_
        intro u157 e157
        refine HS.still (Runs.load Try.underlying69 rfl e157 (cellH_map (j := t) 0 hK9 (by exact hlt3))) ?_
        intro u158 e158
        refine HS.still (Runs.add e155 e158 (add32w _ _)) ?_
        intro u159 e159
        refine HS.still (Runs.move f13) ?_
        intro u160 e160
        refine HS.still (Runs.ixArr (o' := t) Try.underlying70 sz69 f7 e160 (by omega) (by omega) (by omega)) ?_
        intro u161 e161
        refine HS.still (Runs.load Try.underlying69 rfl e161 (cellH_map (j := t) 0 hW9 (by omega))) ?_
        intro u162 e162
        refine HS.still (Runs.add e159 e162 (add32w _ _)) ?_
        intro u163 e163
        refine HS.still (Runs.assign e163) ?_
        intro u16 e16
        refine HS.nil ?_
        -- region 24
        repeat refine HW.seq ?_
        refine HW.draw mixed (by kernel_rfl) ?_
        refine HS.still (Runs.ixArr (o' := 0) Try.underlying71 sz69 f12 rfl (by decide) (by decide) (by rfl)) ?_
        intro u164 e164
        refine HS.still (Runs.load Try.underlying69 rfl e164 (cellH_map (j := 0) 0 hV (show 0 < 8 by decide))) ?_
        intro u165 e165
        refine HS.call (fun w _ => run_call Try.func49 bd49 nm49 (args2 e165 rfl) rfl w) (fun w _ => turn_w 2 (by decide) (by decide) _ w) ?_
        intro u166 e166
        refine HS.still (Runs.ixArr (o' := 0) Try.underlying71 sz69 f12 rfl (by decide) (by decide) (by rfl)) ?_
        intro u167 e167
        refine HS.still (Runs.load Try.underlying69 rfl e167 (cellH_map (j := 0) 0 hV (show 0 < 8 by decide))) ?_
        intro u168 e168
        refine HS.call (fun w _ => run_call Try.func49 bd49 nm49 (args2 e168 rfl) rfl w) (fun w _ => turn_w 13 (by decide) (by decide) _ w) ?_
        intro u169 e169
        refine HS.still (Runs.xor e166 e169 (bits_xor32 _ _)) ?_
        intro u170 e170
        refine HS.still (Runs.ixArr (o' := 0) Try.underlying71 sz69 f12 rfl (by decide) (by decide) (by rfl)) ?_
        intro u171 e171
        refine HS.still (Runs.load Try.underlying69 rfl e171 (cellH_map (j := 0) 0 hV (show 0 < 8 by decide))) ?_
        intro u172 e172
        refine HS.call (fun w _ => run_call Try.func49 bd49 nm49 (args2 e172 rfl) rfl w) (fun w _ => turn_w 22 (by decide) (by decide) _ w) ?_
        intro u173 e173
        refine HS.still (Runs.xor e170 e173 (bits_xor32 _ _)) ?_
        intro u174 e174
        refine HS.still (Runs.assign e174) ?_
        intro u17 e17
        refine HS.nil ?_
        -- region 25
        repeat refine HW.seq ?_
        refine HW.region ?_
        refine HL.still (Runs.ixArr (o' := 0) Try.underlying71 sz69 f12 rfl (by decide) (by decide) (by rfl)) ?_
        intro u175 e175
        refine HL.still (Runs.load Try.underlying69 rfl e175 (cellH_map (j := 0) 0 hV (show 0 < 8 by decide))) ?_
        intro u176 e176
        refine HL.still (Runs.ixArr (o' := 1) Try.underlying71 sz69 f12 rfl (by decide) (by decide) (by rfl)) ?_
        intro u177 e177
        refine HL.still (Runs.load Try.underlying69 rfl e177 (cellH_map (j := 1) 0 hV (show 1 < 8 by decide))) ?_
        intro u178 e178
        refine HL.still (Runs.and e176 e178 (bits_and32 _ _)) ?_
        intro u179 e179
        refine HL.still (Runs.ixArr (o' := 0) Try.underlying71 sz69 f12 rfl (by decide) (by decide) (by rfl)) ?_
        intro u180 e180
        refine HL.still (Runs.load Try.underlying69 rfl e180 (cellH_map (j := 0) 0 hV (show 0 < 8 by decide))) ?_
        intro u181 e181
        refine HL.still (Runs.ixArr (o' := 2) Try.underlying71 sz69 f12 rfl (by decide) (by decide) (by rfl)) ?_
        intro u182 e182
        refine HL.still (Runs.load Try.underlying69 rfl e182 (cellH_map (j := 2) 0 hV (show 2 < 8 by decide))) ?_
        intro u183 e183
        refine HL.still (Runs.and e181 e183 (bits_and32 _ _)) ?_
        intro u184 e184
        refine HL.still (Runs.xor e179 e184 (bits_xor32 _ _)) ?_
        intro u185 e185
        refine HL.still (Runs.ixArr (o' := 1) Try.underlying71 sz69 f12 rfl (by decide) (by decide) (by rfl)) ?_
        intro u186 e186
        refine HL.still (Runs.load Try.underlying69 rfl e186 (cellH_map (j := 1) 0 hV (show 1 < 8 by decide))) ?_
        intro u187 e187
        refine HL.still (Runs.ixArr (o' := 2) Try.underlying71 sz69 f12 rfl (by decide) (by decide) (by rfl)) ?_
        intro u188 e188
        refine HL.still (Runs.load Try.underlying69 rfl e188 (cellH_map (j := 2) 0 hV (show 2 < 8 by decide))) ?_
        intro u189 e189
        refine HL.still (Runs.and e187 e189 (bits_and32 _ _)) ?_
        intro u190 e190
        refine HL.still (Runs.xor e185 e190 (bits_xor32 _ _)) ?_
        intro u191 e191
        refine HL.still (Runs.assign e191) ?_
        intro u18 e18
        refine HL.nil ?_
        -- region 26
        repeat refine HW.seq ?_
        refine HW.region ?_
        refine HL.still (Runs.move e16) ?_
        intro u192 e192
        refine HL.still (Runs.move e17) ?_
        intro u193 e193
        refine HL.still (Runs.add e192 e193 (add32w _ _)) ?_
        intro u194 e194
        refine HL.still (Runs.move e18) ?_
        intro u195 e195
        refine HL.still (Runs.add e194 e195 (add32w _ _)) ?_
        intro u196 e196
        refine HL.still (Runs.ixArr (o' := 0) Try.underlying71 sz69 f12 rfl (by decide) (by decide) (by rfl)) ?_
        intro u197 e197
        refine HL.still (Runs.load Try.underlying69 rfl e197 (cellH_map (j := 0) 0 hV (show 0 < 8 by decide))) ?_
        intro u198 e198
        refine HL.still (Runs.ixArr (o' := 1) Try.underlying71 sz69 f12 rfl (by decide) (by decide) (by rfl)) ?_
        intro u199 e199
        refine HL.still (Runs.load Try.underlying69 rfl e199 (cellH_map (j := 1) 0 hV (show 1 < 8 by decide))) ?_
        intro u200 e200
        refine HL.still (Runs.ixArr (o' := 2) Try.underlying71 sz69 f12 rfl (by decide) (by decide) (by rfl)) ?_
        intro u201 e201
        refine HL.still (Runs.load Try.underlying69 rfl e201 (cellH_map (j := 2) 0 hV (show 2 < 8 by decide))) ?_
        intro u202 e202
        refine HL.still (Runs.ixArr (o' := 3) Try.underlying71 sz69 f12 rfl (by decide) (by decide) (by rfl)) ?_
        intro u203 e203
        refine HL.still (Runs.load Try.underlying69 rfl e203 (cellH_map (j := 3) 0 hV (show 3 < 8 by decide))) ?_
        intro u204 e204
        refine HL.still (Runs.move e16) ?_
        intro u205 e205
        refine HL.still (Runs.add e204 e205 (add32w _ _)) ?_
        intro u206 e206
        refine HL.still (Runs.ixArr (o' := 4) Try.underlying71 sz69 f12 rfl (by decide) (by decide) (by rfl)) ?_
        intro u207 e207
        refine HL.still (Runs.load Try.underlying69 rfl e207 (cellH_map (j := 4) 0 hV (show 4 < 8 by decide))) ?_
        intro u208 e208
        refine HL.still (Runs.ixArr (o' := 5) Try.underlying71 sz69 f12 rfl (by decide) (by decide) (by rfl)) ?_
        intro u209 e209
        refine HL.still (Runs.load Try.underlying69 rfl e209 (cellH_map (j := 5) 0 hV (show 5 < 8 by decide))) ?_
        intro u210 e210
        refine HL.still (Runs.ixArr (o' := 6) Try.underlying71 sz69 f12 rfl (by decide) (by decide) (by rfl)) ?_
        intro u211 e211
        refine HL.still (Runs.load Try.underlying69 rfl e211 (cellH_map (j := 6) 0 hV (show 6 < 8 by decide))) ?_
        intro u212 e212
        refine HL.still (Runs.build8 e196 e198 e200 e202 e206 e208 e210 e212) ?_
        intro u213 e213
        refine HL.zero (HO.storeAll sz71 f12 e213 (one_map W32 (fun _ => rfl) _) hV rfl rfl ?_)
        intro h10 w10
        refine HL.nil ?_
        have s10 := w10.size
        -- region 20
        repeat refine HW.seq ?_
        refine HW.region ?_
        refine HL.still (Runs.move f13) ?_
        intro u125 e125
        refine HL.still (Runs.add e125 rfl (i64w (by omega))) ?_
        intro u126 e126
        refine HL.still (Runs.assign e126) ?_
        intro u13 e13
        refine HL.nil ?_
        refine ⟨64 - (t + 1), by omega, t + 1, by omega, rfl, rnd (kt.getD t 0) ((sched bs).getD t 0) s, by rw [rnds, ← hS], e13, f6, f2, f3, f4, f5, f7, f12, ?_, w10.keep hW9 (by omega), hE9.wr w10 (by omega), by omega⟩
        have hV10 := w10.new
        rw [← rnd_list _ _ _ _ _ rfl rfl]
        exact hV10
      · have ht64 : t = 64 := by omega
        subst ht64
        -- region 19
        repeat refine HW.seq ?_
        refine HW.region ?_
        refine HL.still (Runs.move f13) ?_
        intro u123 e123
        refine HL.still (Runs.lss e123 rfl rfl) ?_
        intro u124 e124
        refine HL.nil ?_
        repeat refine HW.seq ?_
        refine HW.no ?_ ?_
        exact e124.trans (congrArg Value.bool (decide_eq_false (by omega)))
        refine HW.exitHere ?_
        -- region 27
        repeat refine HW.seq ?_
        refine HW.region ?_
        refine HL.still (Runs.assign rfl) ?_
        intro u19 e19
        refine HL.nil ?_
        repeat refine HW.seq ?_
        refine HW.block ?_
        refine HW.loop (fun m f v => ∃ i : Nat, i ≤ 8 ∧ m = 8 - i ∧ f 19 = I64 i ∧ f 6 = I64 ((64 * k : Nat) : Int) ∧ f 2 = .pointer (some ⟨h.size, 0, none⟩) ∧ f 3 = .pointer (some ⟨h1.size, 0, none⟩) ∧ f 4 = .pointer (some ⟨h3.size, 0, none⟩) ∧ f 5 = .slice (some ⟨pb, 0, none⟩) p.length c6 ∧ f 12 = .pointer (some ⟨g'.size, 0, none⟩) ∧
          v[g'.size]? = some (.cells (s.list.map W32).toArray 71 (0, 0)) ∧ v[h3.size]? = some (.cells ((addTo (foldB p k) s.list i).map W32).toArray 71 (0, 0)) ∧ ExB h3.size g v ∧ v.size = u.size) 8
          ⟨0, Nat.zero_le _, rfl, e19, f6, f2, f3, f4, f5, f12, hV, hE9.keepE hH, ExB.of_ext hE9, rfl⟩ ?_
        clear e19 f2 f3 f4 f5 f6 f7 f12 hV hW9 hK9
        rintro m f v ⟨i, hi, hm3, f19, f6, f2, f3, f4, f5, f12, hV, hA, hEx, hv⟩
        have hal : (addTo (foldB p k) s.list i).length = 8 := by rw [addTo_len, hfl]
        by_cases hlt4 : i < 8
        · skip
          -- region 28
          repeat refine HW.seq ?_
          refine HW.region ?_
          refine HL.still (Runs.move f19) ?_
          intro u214 e214
          refine HL.still (Runs.lss e214 rfl rfl) ?_
          intro u215 e215
          refine HL.nil ?_
          repeat refine HW.seq ?_
          refine HW.yes ?_ ?_
          exact e215.trans (congrArg Value.bool (decide_eq_true (by omega)))
          refine HW.skip ?_
          repeat refine HW.seq ?_
          refine HW.block ?_
          -- region 30
          repeat refine HW.seq ?_
          refine HW.drawTail 9 mixed (by kernel_rfl) ?_
          refine HS.still (Runs.move f19) ?_
          intro u218 e218
          refine HS.still (Runs.move f19) ?_
          intro u219 e219
          refine HS.still (Runs.ixArr (o' := i) Try.underlying71 sz69 f4 e219 (by omega) (by omega) (by omega)) ?_
          intro u220 e220
          refine HS.still (Runs.load Try.underlying69 rfl e220 (cellH_map (j := i) 0 hA (by omega))) ?_
          intro u221 e221
          refine HS.still (Runs.move f19) ?_
          intro u222 e222
          refine HS.still (Runs.ixArr (o' := i) Try.underlying71 sz69 f12 e222 (by omega) (by omega) (by omega)) ?_
          intro u223 e223
          refine HS.still (Runs.load Try.underlying69 rfl e223 (cellH_map (j := i) 0 hV (by exact hlt4))) ?_
          intro u224 e224
          refine HS.still (Runs.add e221 e224 (add32w _ _)) ?_
          intro u225 e225
          refine HS.still (Runs.ixArr (o' := i) Try.underlying71 sz69 f4 e218 (by omega) (by omega) (by omega)) ?_
          intro u226 e226
          refine HS.nil ?_
          refine HL.zero (HO.store (s := 1) sz69 e226 e225 rfl hA (by rw [List.length_map]; omega) rfl ?_)
          intro h11 w11
          refine HL.nil ?_
          have hA11 := w11.new
          rw [← List.map_set] at hA11
          have s11 := w11.size
          -- region 29
          repeat refine HW.seq ?_
          refine HW.region ?_
          refine HL.still (Runs.move f19) ?_
          intro u216 e216
          refine HL.still (Runs.add e216 rfl (i64w (by omega))) ?_
          intro u217 e217
          refine HL.still (Runs.assign e217) ?_
          intro u19 e19
          refine HL.nil ?_
          exact ⟨8 - (i + 1), by omega, i + 1, by omega, rfl, e19, f6, f2, f3, f4, f5, f12, w11.keep hV (by omega), hA11, hEx.trans (ExB.of_wr w11), by omega⟩
        · have hi8 : i = 8 := by omega
          subst hi8
          -- region 28
          repeat refine HW.seq ?_
          refine HW.region ?_
          refine HL.still (Runs.move f19) ?_
          intro u214 e214
          refine HL.still (Runs.lss e214 rfl rfl) ?_
          intro u215 e215
          refine HL.nil ?_
          repeat refine HW.seq ?_
          refine HW.no ?_ ?_
          exact e215.trans (congrArg Value.bool (decide_eq_false (by omega)))
          refine HW.exitHere ?_
          -- region 6
          repeat refine HW.seq ?_
          refine HW.region ?_
          refine HL.still (Runs.move f6) ?_
          intro u30 e30
          refine HL.still (Runs.add e30 rfl (i64w (by omega))) ?_
          intro u31 e31
          refine HL.still (Runs.assign e31) ?_
          intro u6 e6
          refine HL.nil ?_
          have hfold : addTo (foldB p k) s.list 8 = foldB p (k + 1) := by rw [hS, foldB, compress, hbs]
          rw [hfold] at hA
          have hgs := hX.size
          refine ⟨p.length / 64 - (k + 1), by omega, k + 1, by omega, rfl, ?_, f2, f3, f4, f5, hEx.keep hN (by omega), hEx.keep hK (by omega), hA, fun j hj => ?_, bel_of_exb hX hEx (Nat.le_refl _) (by omega), by omega⟩
          · exact e6.trans (congrArg (Value.int .i64) (by omega))
          · rw [cellH_keep (hEx.old pb (by omega) (by omega))]
            exact hP j hj
  · have hkk : k = p.length / 64 := by omega
    subst hkk
    -- region 5
    repeat refine HW.seq ?_
    refine HW.region ?_
    refine HL.still (Runs.move f6) ?_
    intro u26 e26
    refine HL.still (Runs.move f5) ?_
    intro u27 e27
    refine HL.still (Runs.lenSl rfl Try.underlying29 e27) ?_
    intro u28 e28
    refine HL.still (Runs.lss e26 e28 rfl) ?_
    intro u29 e29
    refine HL.nil ?_
    repeat refine HW.seq ?_
    refine HW.no ?_ ?_
    exact e29.trans (congrArg Value.bool (decide_eq_false (by omega)))
    refine HW.exitHere ?_
    obtain ⟨hs8', hhs8⟩ : ∃ l, l = foldB p (p.length / 64) := ⟨_, rfl⟩
    rw [← hhs8] at hH hfl
    -- region 31
    repeat refine HW.seq ?_
    refine HW.region ?_
    refine HL.one (HO.alloc zr31 ?_)
    intro h9 w9
    intro u20 e20
    refine HL.nil ?_
    have s9 := w9.size
    have hgs := hX.size
    -- region 32
    repeat refine HW.seq ?_
    refine HW.region ?_
    refine HL.still (Runs.assign rfl) ?_
    intro u21 e21
    refine HL.nil ?_
    repeat refine HW.seq ?_
    refine HW.block ?_
    refine HW.loop (fun m f v => ∃ k : Nat, k ≤ 32 ∧ m = 32 - k ∧ f 21 = I64 k ∧ f 2 = .pointer (some ⟨h.size, 0, none⟩) ∧ f 4 = .pointer (some ⟨h3.size, 0, none⟩) ∧ f 20 = .pointer (some ⟨g.size, 0, none⟩) ∧
      v[g.size]? = some (.cells (((List.range k).map (digAt hs8') ++ List.replicate (32 - k) 0).map B8).toArray 31 (0, 0)) ∧ Bel g.size g v ∧ v.size = h9.size) 32
      ⟨0, Nat.zero_le _, rfl, e21, f2, f4, e20, w9.new, w9.ext, rfl⟩ ?_
    clear f2 f4 e20 e21
    rintro m f v ⟨k, hk, hm, f21, f2, f4, f20, hO, hB, hv⟩
    have hol : ((List.range k).map (digAt hs8') ++ List.replicate (32 - k) (0 : UInt8)).length = 32 := by simp; omega
    have hHv := hB.keepE hH
    by_cases hlt : k < 32
    · skip
      -- region 33
      repeat refine HW.seq ?_
      refine HW.region ?_
      refine HL.still (Runs.move f21) ?_
      intro u227 e227
      refine HL.still (Runs.lss e227 rfl rfl) ?_
      intro u228 e228
      refine HL.nil ?_
      repeat refine HW.seq ?_
      refine HW.yes ?_ ?_
      exact e228.trans (congrArg Value.bool (decide_eq_true (by omega)))
      refine HW.skip ?_
      repeat refine HW.seq ?_
      refine HW.block ?_
      have hsh : (((hs8'.getD (k / 4) 0).toNat : Int)).fdiv (2 ^ (min ((8 : Int) * ((3 : Int) - (k : Int) % 4)).toNat IntKind.u32.bits)) = (((hs8'.getD (k / 4) 0) >>> (8 * (3 - k % 4))).toNat : Int) := by
        rw [show (8 : Int) * ((3 : Int) - (k : Int) % 4) = ((8 * (3 - k % 4) : Nat) : Int) by omega]
        exact shr32i _ _ (by omega)
      -- region 35
      repeat refine HW.seq ?_
      refine HW.region ?_
      refine HL.still (Runs.move f21) ?_
      intro u231 e231
      refine HL.still (Runs.move f21) ?_
      intro u232 e232
      refine HL.still (Runs.quo e232 rfl (by decide) (quo64 (by omega) (by decide))) ?_
      intro u233 e233
      refine HL.still (Runs.ixArr (o' := k / 4) Try.underlying71 sz69 f4 e233 (by omega) (by omega) (by omega)) ?_
      intro u234 e234
      refine HL.still (Runs.load Try.underlying69 rfl e234 (cellH_map (j := k / 4) 0 hHv (by omega))) ?_
      intro u235 e235
      refine HL.still (Runs.move f21) ?_
      intro u236 e236
      refine HL.still (Runs.rem e236 rfl (by decide) (rem64 (by omega) (by decide))) ?_
      intro u237 e237
      refine HL.still (Runs.sub rfl e237 (i64w (by omega))) ?_
      intro u238 e238
      refine HL.still (Runs.conv Try.underlying3 Try.underlying72 e238 (u64w (by omega))) ?_
      intro u239 e239
      refine HL.still (Runs.mul rfl e239 (u64w (by omega))) ?_
      intro u240 e240
      refine HL.still (Runs.shr e235 e240 (by omega) hsh) ?_
      intro u241 e241
      refine HL.still (Runs.conv Try.underlying69 Try.underlying5 e241 (u8_of_nat _)) ?_
      intro u242 e242
      refine HL.still (Runs.ixArr (o' := k) Try.underlying31 sz5 f20 e231 (by omega) (by omega) (by omega)) ?_
      intro u243 e243
      refine HL.zero (HO.store (s := 1) sz5 e243 e242 rfl hO (by rw [List.length_map, hol]; omega) rfl ?_)
      intro h10 w10
      refine HL.nil ?_
      have hO10 := w10.new
      rw [← List.map_set, show UInt8.ofNat ((hs8'.getD (k / 4) 0) >>> (8 * (3 - k % 4))).toNat = digAt hs8' k from rfl, fill_step (digAt hs8') 32 k 0 hlt] at hO10
      have s10 := w10.size
      -- region 34
      repeat refine HW.seq ?_
      refine HW.region ?_
      refine HL.still (Runs.move f21) ?_
      intro u229 e229
      refine HL.still (Runs.add e229 rfl (i64w (by omega))) ?_
      intro u230 e230
      refine HL.still (Runs.assign e230) ?_
      intro u21 e21
      refine HL.nil ?_
      exact ⟨32 - (k + 1), by omega, k + 1, by omega, rfl, e21, f2, f4, f20, hO10, hB.wr w10 (by omega), by omega⟩
    · have hk32 : k = 32 := by omega
      subst hk32
      -- region 33
      repeat refine HW.seq ?_
      refine HW.region ?_
      refine HL.still (Runs.move f21) ?_
      intro u227 e227
      refine HL.still (Runs.lss e227 rfl rfl) ?_
      intro u228 e228
      refine HL.nil ?_
      repeat refine HW.seq ?_
      refine HW.no ?_ ?_
      exact e228.trans (congrArg Value.bool (decide_eq_false (by omega)))
      refine HW.exitHere ?_
      rw [digBytes_eq] at hO
      -- region 36
      repeat refine HW.seq ?_
      refine HW.region ?_
      refine HL.still (Runs.loadAgg Try.underlying31 rfl sz31 f20 (by rw [List.length_map, digBytes_len]) (load_blk hO)) ?_
      intro u244 e244
      refine HL.zero (HO.storeAll sz31 f2 e244 (one_map B8 (fun _ => rfl) _) (hB.keepE hN) (by rw [List.length_map, digBytes_len]) rfl ?_)
      intro h11 w11
      refine HL.nil ?_
      refine HW.ret ?_
      refine RT.cell rfl f2 w11.new Try.underlying31 rfl sz31 (by rw [List.length_map, digBytes_len]) ⟨?_, (hX.trans (hB.mono (by omega))).wr w11 (by omega)⟩
      rw [SHA, ← hp, ← hhs8]
end Go.Proofs.Ytklelhfgbjpifaa
/-! Digests: plain laws of their order. -/
namespace Go.Proofs.Ytklelhfgbjpifaa
set_option linter.unnecessarySimpa false
set_option linter.unusedSimpArgs false
set_option linter.unusedVariables false
open Go.RowKit
def zero32 : List UInt8 := List.replicate 32 0
def lessL : List UInt8 → List UInt8 → Bool
  | x :: xs, y :: ys => if x = y then lessL xs ys else decide (x.toNat < y.toNat)
  | _, _ => false
theorem less_irrefl (a : List UInt8) : lessL a a = false := by
  induction a with
  | nil => rfl
  | cons x a ih => simp [lessL, ih]
theorem less_asymm (a b : List UInt8) : lessL a b = true → lessL b a = false := by
  induction a generalizing b with
  | nil => intro h; cases b <;> simp [lessL] at h
  | cons x a ih =>
    cases b with
    | nil => intro h; simp [lessL] at h
    | cons y b =>
      unfold lessL
      by_cases e : x = y
      · subst e; simpa using ih b
      · rw [if_neg e, if_neg (Ne.symm e)]
        simp; omega
theorem less_total (a b : List UInt8) (h : a.length = b.length) : (lessL a b || lessL b a) = !(a == b) := by
  induction a generalizing b with
  | nil => cases b with
    | nil => rfl
    | cons => cases h
  | cons x a ih =>
    cases b with
    | nil => cases h
    | cons y b =>
      unfold lessL
      by_cases e : x = y
      · subst e
        have := ih b (by simpa using h)
        simpa using this
      · rw [if_neg e, if_neg (Ne.symm e)]
        have : x.toNat ≠ y.toNat := fun q => e (UInt8.toNat_inj.1 q)
        have h1 : (x :: a == y :: b) = false := by simp [e]
        rw [h1]
        simp; omega
theorem less_trans (a b c : List UInt8) : lessL a b = true → lessL b c = true → lessL a c = true := by
  induction a generalizing b c with
  | nil => intro h; cases b <;> simp [lessL] at h
  | cons x a ih =>
    cases b with
    | nil => intro h; simp [lessL] at h
    | cons y b =>
      cases c with
      | nil => intro _ h; simp [lessL] at h
      | cons z c =>
        unfold lessL
        by_cases e1 : x = y
        · subst e1
          by_cases e2 : x = z
          · subst e2; simpa using ih b c
          · simp [e2]
        · by_cases e2 : y = z
          · subst e2
            simp only [e1, if_false, if_true]
            exact fun h _ => h
          · rw [if_neg e1, if_neg e2]
            intro h1 h2
            simp at h1 h2
            have e3 : x ≠ z := by intro q; subst q; omega
            rw [if_neg e3]
            simp; omega
/-- slices.Compare's answer. -/
def cmpL : List UInt8 → List UInt8 → Int
  | x :: xs, y :: ys => if x = y then cmpL xs ys else if x.toNat < y.toNat then -1 else 1
  | _, _ => 0
theorem cmp_less (a b : List UInt8) : decide (cmpL a b < 0) = lessL a b := by
  induction a generalizing b with
  | nil => cases b <;> rfl
  | cons x a ih =>
    cases b with
    | nil => rfl
    | cons y b =>
      unfold cmpL lessL
      by_cases e : x = y
      · rw [if_pos e, if_pos e]; exact ih b
      · rw [if_neg e, if_neg e]
        by_cases h : x.toNat < y.toNat <;> simp [h]
end Go.Proofs.Ytklelhfgbjpifaa
/-! The small functions of digests: strings.CutPrefix, strings.IndexByte, cmp.Compare, value, digit. -/
namespace Go.Proofs.Ytklelhfgbjpifaa
set_option linter.unnecessarySimpa false
set_option linter.unusedSimpArgs false
set_option linter.unusedVariables false
open Go.RowKit
theorem CH.same {P : Program} {fn : FuncId} {args : Array Value} {h : Heap} {v : Value} (c : CH P fn args h fun x h' => x = v ∧ h' = h) : CH P fn args h fun x h' => x = v ∧ Ext h h' :=
  c.mono fun _ _ q => ⟨q.1, by rw [q.2]; exact Bel.refl _ _⟩
theorem nan_ch (h : Heap) (c : UInt8) : CH Try.prog 72 #[B8 c] h fun v h' => v = .bool false ∧ h' = h := by
  refine CH.of_body Try.func72 rfl rfl rfl ?_
  intro f hf
  have p0 : f 0 = B8 c := by rw [hf]; exact fr0_at rfl
  -- region 0
  repeat refine HW.seq ?_
  refine HW.region ?_
  refine HL.still (Runs.assign rfl) ?_
  intro u2 e2
  refine HL.nil ?_
  -- region 1
  repeat refine HW.seq ?_
  refine HW.region ?_
  refine HL.still (Runs.move p0) ?_
  intro u3 e3
  refine HL.still (Runs.move p0) ?_
  intro u4 e4
  refine HL.still (Runs.neq e3 e4 (t := false) (by simp)) ?_
  intro u5 e5
  refine HL.still (Runs.assign e5) ?_
  intro u2 e2
  refine HL.nil ?_
  refine HW.ret ?_
  exact RT.one rfl e2 ⟨rfl, rfl⟩
/-- cmp.Compare of two bytes. -/
theorem cmp_ch (h : Heap) (x y : UInt8) : CH Try.prog 64 #[B8 x, B8 y] h fun v h' => v = I64 (if x = y then 0 else if x.toNat < y.toNat then -1 else 1) ∧ h' = h := by
  refine CH.of_body Try.func64 rfl rfl rfl ?_
  intro f hf
  have p0 : f 0 = B8 x := by rw [hf]; exact fr0_at rfl
  have p1 : f 1 = B8 y := by rw [hf]; exact fr0_at rfl
  have hxy : x = y ↔ x.toNat = y.toNat := ⟨fun e => by rw [e], UInt8.toNat_inj.1⟩
  -- region 0
  repeat refine HW.seq ?_
  refine HW.region ?_
  refine HL.still (Runs.assign rfl) ?_
  intro u4 e4
  refine HL.nil ?_
  -- region 1
  repeat refine HW.seq ?_
  refine HW.region ?_
  refine HL.still (Runs.move p0) ?_
  intro u7 e7
  refine HL.one (HO.call Try.func72 bd72 nm72 (args1 e7) rfl ((nan_ch _ x).mono ?_))
  rintro _ _ ⟨rfl, rfl⟩
  intro u8 e8
  refine HL.still (Runs.assign e8) ?_
  intro u5 e5
  refine HL.nil ?_
  -- region 2
  repeat refine HW.seq ?_
  refine HW.region ?_
  refine HL.still (Runs.move p1) ?_
  intro u9 e9
  refine HL.one (HO.call Try.func72 bd72 nm72 (args1 e9) rfl ((nan_ch _ y).mono ?_))
  rintro _ _ ⟨rfl, rfl⟩
  intro u10 e10
  refine HL.still (Runs.assign e10) ?_
  intro u6 e6
  refine HL.nil ?_
  -- region 3
  repeat refine HW.seq ?_
  refine HW.region ?_
  refine HL.still (Runs.move e5) ?_
  intro u11 e11
  refine HL.nil ?_
  repeat refine HW.seq ?_
  refine HW.no ?_ ?_
  exact e11
  refine HW.skip ?_
  -- region 7
  repeat refine HW.seq ?_
  refine HW.region ?_
  refine HL.still (Runs.move e6) ?_
  intro u13 e13
  refine HL.nil ?_
  repeat refine HW.seq ?_
  refine HW.no ?_ ?_
  exact e13
  refine HW.skip ?_
  by_cases h1 : x.toNat < y.toNat
  · skip
    -- region 9
    repeat refine HW.seq ?_
    refine HW.region ?_
    refine HL.still (Runs.move p0) ?_
    intro u14 e14
    refine HL.still (Runs.move p1) ?_
    intro u15 e15
    refine HL.still (Runs.lss e14 e15 (t := true) (decide_eq_true (by omega))) ?_
    intro u16 e16
    refine HL.nil ?_
    repeat refine HW.seq ?_
    refine HW.yes ?_ ?_
    exact e16
    -- region 10
    repeat refine HW.seq ?_
    refine HW.region ?_
    refine HL.still (Runs.assign rfl) ?_
    intro u4 e4
    refine HL.nil ?_
    refine HW.ret ?_
    refine RT.one rfl e4 ⟨?_, rfl⟩
    rw [if_neg (by rw [hxy]; omega), if_pos h1]
  · skip
    -- region 9
    repeat refine HW.seq ?_
    refine HW.region ?_
    refine HL.still (Runs.move p0) ?_
    intro u14 e14
    refine HL.still (Runs.move p1) ?_
    intro u15 e15
    refine HL.still (Runs.lss e14 e15 (t := false) (decide_eq_false (by omega))) ?_
    intro u16 e16
    refine HL.nil ?_
    repeat refine HW.seq ?_
    refine HW.no ?_ ?_
    exact e16
    refine HW.skip ?_
    by_cases h2 : x.toNat > y.toNat
    · skip
      -- region 11
      repeat refine HW.seq ?_
      refine HW.region ?_
      refine HL.still (Runs.move p0) ?_
      intro u17 e17
      refine HL.still (Runs.move p1) ?_
      intro u18 e18
      refine HL.still (Runs.gtr e17 e18 (t := true) (decide_eq_true (by omega))) ?_
      intro u19 e19
      refine HL.nil ?_
      repeat refine HW.seq ?_
      refine HW.yes ?_ ?_
      exact e19
      -- region 12
      repeat refine HW.seq ?_
      refine HW.region ?_
      refine HL.still (Runs.assign rfl) ?_
      intro u4 e4
      refine HL.nil ?_
      refine HW.ret ?_
      refine RT.one rfl e4 ⟨?_, rfl⟩
      rw [if_neg (by rw [hxy]; omega), if_neg h1]
    · skip
      -- region 11
      repeat refine HW.seq ?_
      refine HW.region ?_
      refine HL.still (Runs.move p0) ?_
      intro u17 e17
      refine HL.still (Runs.move p1) ?_
      intro u18 e18
      refine HL.still (Runs.gtr e17 e18 (t := false) (decide_eq_false (by omega))) ?_
      intro u19 e19
      refine HL.nil ?_
      repeat refine HW.seq ?_
      refine HW.no ?_ ?_
      exact e19
      refine HW.skip ?_
      -- region 13
      repeat refine HW.seq ?_
      refine HW.region ?_
      refine HL.still (Runs.assign rfl) ?_
      intro u4 e4
      refine HL.nil ?_
      refine HW.ret ?_
      refine RT.one rfl e4 ⟨?_, rfl⟩
      rw [if_pos (by rw [hxy]; omega)]
end Go.Proofs.Ytklelhfgbjpifaa
/-! Digests in order: slices.Compare, digest.Less, onionskinref02.Less. -/
namespace Go.Proofs.Ytklelhfgbjpifaa
set_option linter.unnecessarySimpa false
set_option linter.unusedSimpArgs false
set_option linter.unusedVariables false
open Go.RowKit
set_option maxRecDepth 10000 in
theorem Byt.at {h : Heap} {a : Option Addr} {xs : List UInt8} (x : Byt h a xs) {k : Nat} (hk : k < xs.length) : ∃ sb so, a = some ⟨sb, so, none⟩ ∧ cellH h sb (so + k) = some (B8 (xs.getD k 0)) := by
  rcases x with e | ⟨sb, so, q1, q2⟩
  · rw [e] at hk; cases hk
  · exact ⟨sb, so, q1, q2 k hk⟩
set_option maxRecDepth 10000 in
theorem drop_at {xs : List UInt8} {k : Nat} (hk : k < xs.length) : xs.drop k = xs.getD k 0 :: xs.drop (k + 1) := by
  rw [List.drop_eq_getElem_cons hk]
  simp [hk]
set_option maxRecDepth 10000 in
theorem cmp_step {xs ys : List UInt8} {k : Nat} (h1 : k < xs.length) (h2 : k < ys.length) : cmpL (xs.drop k) (ys.drop k) = if xs.getD k 0 = ys.getD k 0 then cmpL (xs.drop (k + 1)) (ys.drop (k + 1)) else if (xs.getD k 0).toNat < (ys.getD k 0).toNat then -1 else 1 := by
  rw [drop_at h1, drop_at h2, cmpL]
set_option maxRecDepth 10000 in
theorem less_step {xs ys : List UInt8} {k : Nat} (h1 : k < xs.length) (h2 : k < ys.length) : lessL (xs.drop k) (ys.drop k) = if xs.getD k 0 = ys.getD k 0 then lessL (xs.drop (k + 1)) (ys.drop (k + 1)) else decide ((xs.getD k 0).toNat < (ys.getD k 0).toNat) := by
  rw [drop_at h1, drop_at h2, lessL]
set_option maxRecDepth 10000 in
/-- slices.Compare of two rows of bytes of one length. -/
theorem compare_ch (h : Heap) (xs ys : List UInt8) (a b : Option Addr) (n c d : Nat) (hn : xs.length = n) (hm : ys.length = n) (ha : Byt h a xs) (hb : Byt h b ys) (hlt : n < 4611686018427387904) :
    CH Try.prog 53 #[.slice a n c, .slice b n d] h fun v h' => v = I64 (cmpL xs ys) ∧ h' = h := by
  refine CH.of_body Try.func53 rfl rfl rfl ?_
  intro f hf
  have p0 : f 0 = .slice a n c := by rw [hf]; exact fr0_at rfl
  have p1 : f 1 = .slice b n d := by rw [hf]; exact fr0_at rfl
  -- region 0
  repeat refine HW.seq ?_
  refine HW.region ?_
  refine HL.still (Runs.assign rfl) ?_
  intro u4 e4
  refine HL.nil ?_
  -- region 1
  repeat refine HW.seq ?_
  refine HW.region ?_
  refine HL.still (Runs.move p0) ?_
  intro u9 e9
  refine HL.still (Runs.lenSl rfl Try.underlying29 e9) ?_
  intro u10 e10
  refine HL.still (Runs.move rfl) ?_
  intro u11 e11
  refine HL.nil ?_
  repeat refine HW.seq ?_
  refine HW.block ?_
  refine HW.loop (fun m f h' => ∃ k : Nat, k ≤ n ∧ m = n - k ∧ f 11 = I64 k ∧ f 10 = I64 n ∧ f 9 = .slice a n c ∧ f 0 = .slice a n c ∧ f 1 = .slice b n d ∧ cmpL xs ys = cmpL (xs.drop k) (ys.drop k) ∧ h' = h) n
    ⟨0, Nat.zero_le _, rfl, e11, e10, e9, p0, p1, rfl, rfl⟩ ?_
  rintro m f h' ⟨k, hk, hm', f11, f10, f9, f0, f1, hc, rfl⟩
  by_cases hkn : k < n
  · obtain ⟨sb, so, ha', hca⟩ := ha.at (k := k) (by omega)
    obtain ⟨tb, to, hb', hcb⟩ := hb.at (k := k) (by omega)
    have f9' := f9
    have f1' := f1
    rw [ha'] at f9'
    rw [hb'] at f1'
    rw [cmp_step (by omega) (by omega)] at hc
    -- region 2
    repeat refine HW.seq ?_
    refine HW.region ?_
    refine HL.still (Runs.lss f11 f10 rfl) ?_
    intro u12 e12
    refine HL.nil ?_
    repeat refine HW.seq ?_
    refine HW.yes ?_ ?_
    exact e12.trans (congrArg Value.bool (decide_eq_true (by omega)))
    refine HW.skip ?_
    repeat refine HW.seq ?_
    refine HW.block ?_
    -- region 3
    repeat refine HW.seq ?_
    refine HW.region ?_
    refine HL.still (Runs.move f11) ?_
    intro u13 e13
    refine HL.still (Runs.ixSl (o' := so + k) Try.underlying29 sz5 f9' f11 (by omega) (by omega) (by omega)) ?_
    intro u14 e14
    refine HL.still (Runs.load Try.underlying5 rfl e14 hca) ?_
    intro u15 e15
    refine HL.still (Runs.assign e13) ?_
    intro u5 e5
    refine HL.still (Runs.assign e15) ?_
    intro u6 e6
    refine HL.nil ?_
    -- region 4
    repeat refine HW.seq ?_
    refine HW.region ?_
    refine HL.still (Runs.move e5) ?_
    intro u16 e16
    refine HL.still (Runs.move f1') ?_
    intro u17 e17
    refine HL.still (Runs.lenSl rfl Try.underlying29 e17) ?_
    intro u18 e18
    refine HL.still (Runs.geq e16 e18 rfl) ?_
    intro u19 e19
    refine HL.nil ?_
    repeat refine HW.seq ?_
    refine HW.no ?_ ?_
    exact e19.trans (congrArg Value.bool (decide_eq_false (by omega)))
    refine HW.skip ?_
    -- region 6
    repeat refine HW.seq ?_
    refine HW.region ?_
    refine HL.still (Runs.move f1') ?_
    intro u20 e20
    refine HL.still (Runs.move e5) ?_
    intro u21 e21
    refine HL.still (Runs.ixSl (o' := to + k) Try.underlying29 sz5 e20 e21 (by omega) (by omega) (by omega)) ?_
    intro u22 e22
    refine HL.still (Runs.load Try.underlying5 rfl e22 hcb) ?_
    intro u23 e23
    refine HL.still (Runs.assign e23) ?_
    intro u7 e7
    refine HL.nil ?_
    by_cases hxy : xs.getD k 0 = ys.getD k 0
    · rw [if_pos hxy] at hc
      -- region 7
      repeat refine HW.seq ?_
      refine HW.region ?_
      refine HL.still (Runs.move e6) ?_
      intro u24 e24
      refine HL.still (Runs.move e7) ?_
      intro u25 e25
      refine HL.one (HO.call Try.func64 bd64 nm64 (args2 e24 e25) rfl ((cmp_ch _ (xs.getD k 0) (ys.getD k 0)).mono ?_))
      rintro _ h' ⟨rfl, hh'⟩
      intro u26 e26
      refine HL.still (Runs.assign e26) ?_
      intro u8 e8
      refine HL.nil ?_
      rw [if_pos hxy] at e8
      -- region 8
      repeat refine HW.seq ?_
      refine HW.region ?_
      refine HL.still (Runs.move e8) ?_
      intro u27 e27
      refine HL.still (Runs.neq e27 rfl (t := false) rfl) ?_
      intro u28 e28
      refine HL.nil ?_
      repeat refine HW.seq ?_
      refine HW.no ?_ ?_
      exact e28
      refine HW.skip ?_
      -- region 10
      repeat refine HW.seq ?_
      refine HW.region ?_
      refine HL.still (Runs.add f11 rfl (i64w (by omega))) ?_
      intro u30 e30
      refine HL.still (Runs.move e30) ?_
      intro u11 e11
      refine HL.nil ?_
      exact ⟨n - (k + 1), by omega, k + 1, by omega, rfl, e11, f10, f9, f0, f1, hc, hh'⟩
    · rw [if_neg hxy] at hc
      -- region 7
      repeat refine HW.seq ?_
      refine HW.region ?_
      refine HL.still (Runs.move e6) ?_
      intro u24 e24
      refine HL.still (Runs.move e7) ?_
      intro u25 e25
      refine HL.one (HO.call Try.func64 bd64 nm64 (args2 e24 e25) rfl ((cmp_ch _ (xs.getD k 0) (ys.getD k 0)).mono ?_))
      rintro _ h' ⟨rfl, hh'⟩
      intro u26 e26
      refine HL.still (Runs.assign e26) ?_
      intro u8 e8
      refine HL.nil ?_
      rw [if_neg hxy, ← hc] at e8
      -- region 8
      repeat refine HW.seq ?_
      refine HW.region ?_
      refine HL.still (Runs.move e8) ?_
      intro u27 e27
      refine HL.still (Runs.neq e27 rfl (t := true) (by rw [hc]; split <;> rfl)) ?_
      intro u28 e28
      refine HL.nil ?_
      repeat refine HW.seq ?_
      refine HW.yes ?_ ?_
      exact e28
      -- region 9
      repeat refine HW.seq ?_
      refine HW.region ?_
      refine HL.still (Runs.move e8) ?_
      intro u29 e29
      refine HL.still (Runs.assign e29) ?_
      intro u4 e4
      refine HL.nil ?_
      refine HW.ret ?_
      exact RT.one rfl e4 ⟨rfl, hh'⟩
  · have hkn' : k = n := by omega
    subst hkn'
    rw [List.drop_of_length_le (by omega), List.drop_of_length_le (by omega)] at hc
    -- region 2
    repeat refine HW.seq ?_
    refine HW.region ?_
    refine HL.still (Runs.lss f11 f10 rfl) ?_
    intro u12 e12
    refine HL.nil ?_
    repeat refine HW.seq ?_
    refine HW.no ?_ ?_
    exact e12.trans (congrArg Value.bool (decide_eq_false (by omega)))
    refine HW.exitHere ?_
    -- region 11
    repeat refine HW.seq ?_
    refine HW.region ?_
    refine HL.still (Runs.move f0) ?_
    intro u31 e31
    refine HL.still (Runs.lenSl rfl Try.underlying29 e31) ?_
    intro u32 e32
    refine HL.still (Runs.move f1) ?_
    intro u33 e33
    refine HL.still (Runs.lenSl rfl Try.underlying29 e33) ?_
    intro u34 e34
    refine HL.still (Runs.lss e32 e34 rfl) ?_
    intro u35 e35
    refine HL.nil ?_
    repeat refine HW.seq ?_
    refine HW.no ?_ ?_
    exact e35.trans (congrArg Value.bool (decide_eq_false (by omega)))
    refine HW.skip ?_
    -- region 13
    repeat refine HW.seq ?_
    refine HW.region ?_
    refine HL.still (Runs.assign rfl) ?_
    intro u4 e4
    refine HL.nil ?_
    refine HW.ret ?_
    exact RT.one rfl e4 ⟨by rw [hc]; rfl, rfl⟩
set_option maxRecDepth 10000 in
/-- digest.Less. -/
theorem less_ch (h : Heap) (xs ys : List UInt8) (hx : xs.length = 32) (hy : ys.length = 32) : CH Try.prog 33 #[.agg (xs.map B8).toArray, .agg (ys.map B8).toArray] h fun v h' => v = .bool (lessL xs ys) ∧ Ext h h' := by
  refine CH.of_body Try.func33 rfl rfl rfl ?_
  intro f hf
  have p0 : f 0 = .agg (xs.map B8).toArray := by rw [hf]; exact fr0_at rfl
  have p1 : f 1 = .agg (ys.map B8).toArray := by rw [hf]; exact fr0_at rfl
  -- region 0
  repeat refine HW.seq ?_
  refine HW.region ?_
  refine HL.one (HO.box p0 ?_)
  intro h1 w1
  intro u2 e2
  refine HL.one (HO.box p1 ?_)
  intro h2 w2
  intro u3 e3
  refine HL.still (Runs.assign rfl) ?_
  intro u4 e4
  refine HL.nil ?_
  have z1 := w1.size
  have z2 := w2.size
  have hb1 : Byt h2 (some ⟨h.size, 0, none⟩) xs := byt_block (w2.keep w1.new)
  have hb2 : Byt h2 (some ⟨h1.size, 0, none⟩) ys := byt_block w2.new
  -- region 1
  repeat refine HW.seq ?_
  refine HW.grow #[0, 0, 3, 7, 15] (Mk h2.size) mixed (by kernel_rfl) (Mk.refl _) Mk.trans ?_
  refine HM.still (Mk.refl _) (fun f h K => Runs.sliceArr Try.underlying31 sz5 ((K.keep (by kernel_rfl)).trans e2) rfl rfl (by decide) (by decide) (if_neg (by decide))) ?_
  refine HM.still (Mk.refl _) (fun f h K => Runs.sliceArr Try.underlying31 sz5 ((K.keep (by kernel_rfl)).trans e3) rfl rfl (by decide) (by decide) (if_neg (by decide))) ?_
  refine HM.one (fun x _ => x = _) (fun _ _ _ _ e => e) (fun f h K => HO.call Try.func53 bd53 nm53 (args2 (K.at 0 5 rfl rfl) (K.at 1 6 rfl rfl)) rfl (((compare_ch h xs ys (some ⟨_, 0, none⟩) (some ⟨_, 0, none⟩) 32 32 32 hx hy (hb1.mk K.grown) (hb2.mk K.grown) (by decide)).same).mono fun _ _ q => ⟨Mk.of_ext q.2 K.grown.size, q.1⟩)) ?_
  refine HM.still (Mk.refl _) (fun f h K => Runs.lss (K.at 2 7 rfl rfl) rfl (cmp_less xs ys)) ?_
  refine HM.still (Mk.refl _) (fun f h K => Runs.assign (K.at 3 8 rfl rfl)) ?_
  intro f' h' hR V _
  refine HW.ret ?_
  exact RT.one rfl (last_at V 4 4 rfl) ⟨rfl, (w1.ext.ext w2.ext (Nat.le_refl _)).trans (hR.bel.mono (by omega))⟩
set_option maxRecDepth 10000 in
/-- onionskinref02.Less. -/
theorem rless_ch (h : Heap) (xs ys : List UInt8) (hx : xs.length = 32) (hy : ys.length = 32) : CH Try.prog 60 #[.agg (xs.map B8).toArray, .agg (ys.map B8).toArray] h fun v h' => v = .bool (lessL xs ys) ∧ Ext h h' := by
  refine CH.of_body Try.func60 rfl rfl rfl ?_
  intro f hf
  have p0 : f 0 = .agg (xs.map B8).toArray := by rw [hf]; exact fr0_at rfl
  have p1 : f 1 = .agg (ys.map B8).toArray := by rw [hf]; exact fr0_at rfl
  -- region 0
  repeat refine HW.seq ?_
  refine HW.region ?_
  refine HL.one (HO.box p0 ?_)
  intro h1 w1
  intro u2 e2
  refine HL.one (HO.box p1 ?_)
  intro h2 w2
  intro u3 e3
  refine HL.still (Runs.assign rfl) ?_
  intro u4 e4
  refine HL.nil ?_
  have z1 := w1.size
  have z2 := w2.size
  have hb1 : h2[h.size]? = some (.cells (xs.map B8).toArray 31 (0, 0)) := w2.keep w1.new
  have hb2 : h2[h1.size]? = some (.cells (ys.map B8).toArray 31 (0, 0)) := w2.new
  have X2 : Ext h h2 := w1.ext.ext w2.ext (Nat.le_refl _)
  -- region 1
  repeat refine HW.seq ?_
  refine HW.region ?_
  refine HL.still (Runs.assign rfl) ?_
  intro u5 e5
  refine HL.nil ?_
  repeat refine HW.seq ?_
  refine HW.block ?_
  refine HW.loop (fun m f h' => ∃ k : Nat, k ≤ 32 ∧ m = 32 - k ∧ f 5 = I64 k ∧ f 2 = .pointer (some ⟨h.size, 0, none⟩) ∧ f 3 = .pointer (some ⟨h1.size, 0, none⟩) ∧ lessL xs ys = lessL (xs.drop k) (ys.drop k) ∧ h' = h2) 32
    ⟨0, Nat.zero_le _, rfl, e5, e2, e3, rfl, rfl⟩ ?_
  rintro m f h' ⟨k, hk, hm', f5, f2, f3, hc, rfl⟩
  by_cases hkn : k < 32
  · have ca := cellH_map (j := k) 0 hb1 (by omega)
    have cb := cellH_map (j := k) 0 hb2 (by omega)
    rw [less_step (by omega) (by omega)] at hc
    -- region 2
    repeat refine HW.seq ?_
    refine HW.region ?_
    refine HL.still (Runs.move f5) ?_
    intro u6 e6
    refine HL.still (Runs.lss e6 rfl rfl) ?_
    intro u7 e7
    refine HL.nil ?_
    repeat refine HW.seq ?_
    refine HW.yes ?_ ?_
    exact e7.trans (congrArg Value.bool (decide_eq_true (by omega)))
    refine HW.skip ?_
    repeat refine HW.seq ?_
    refine HW.block ?_
    have hne : ∀ x y : UInt8, (((x.toNat : Int) != (y.toNat : Int)) = true ↔ x ≠ y) := fun x y => by
      rw [bne_iff_ne]
      exact ⟨fun q e => q (by rw [e]), fun q e => q (UInt8.toNat_inj.1 (by omega))⟩
    by_cases hxy : xs.getD k 0 = ys.getD k 0
    · rw [if_pos hxy] at hc
      -- region 4
      repeat refine HW.seq ?_
      refine HW.draw mixed (by kernel_rfl) ?_
      refine HS.still (Runs.move f5) ?_
      intro u10 e10
      refine HS.still (Runs.ixArr (o' := k) Try.underlying31 sz5 f2 e10 (by omega) (by omega) (by omega)) ?_
      intro u11 e11
      refine HS.still (Runs.load Try.underlying5 rfl e11 ca) ?_
      intro u12 e12
      refine HS.still (Runs.move f5) ?_
      intro u13 e13
      refine HS.still (Runs.ixArr (o' := k) Try.underlying31 sz5 f3 e13 (by omega) (by omega) (by omega)) ?_
      intro u14 e14
      refine HS.still (Runs.load Try.underlying5 rfl e14 cb) ?_
      intro u15 e15
      refine HS.still (Runs.neq e12 e15 (t := false) (by rw [hxy]; simp)) ?_
      intro u16 e16
      refine HS.nil ?_
      repeat refine HW.seq ?_
      refine HW.no ?_ ?_
      exact e16
      refine HW.skip ?_
      -- region 3
      repeat refine HW.seq ?_
      refine HW.region ?_
      refine HL.still (Runs.move f5) ?_
      intro u8 e8
      refine HL.still (Runs.add e8 rfl (i64w (by omega))) ?_
      intro u9 e9
      refine HL.still (Runs.assign e9) ?_
      intro u5 e5
      refine HL.nil ?_
      exact ⟨32 - (k + 1), by omega, k + 1, by omega, rfl, e5, f2, f3, hc, rfl⟩
    · rw [if_neg hxy] at hc
      -- region 4
      repeat refine HW.seq ?_
      refine HW.draw mixed (by kernel_rfl) ?_
      refine HS.still (Runs.move f5) ?_
      intro u10 e10
      refine HS.still (Runs.ixArr (o' := k) Try.underlying31 sz5 f2 e10 (by omega) (by omega) (by omega)) ?_
      intro u11 e11
      refine HS.still (Runs.load Try.underlying5 rfl e11 ca) ?_
      intro u12 e12
      refine HS.still (Runs.move f5) ?_
      intro u13 e13
      refine HS.still (Runs.ixArr (o' := k) Try.underlying31 sz5 f3 e13 (by omega) (by omega) (by omega)) ?_
      intro u14 e14
      refine HS.still (Runs.load Try.underlying5 rfl e14 cb) ?_
      intro u15 e15
      refine HS.still (Runs.neq e12 e15 (t := true) ((hne _ _).2 hxy)) ?_
      intro u16 e16
      refine HS.nil ?_
      repeat refine HW.seq ?_
      refine HW.yes ?_ ?_
      exact e16
      -- region 5
      repeat refine HW.seq ?_
      refine HW.draw mixed (by kernel_rfl) ?_
      refine HS.still (Runs.move f5) ?_
      intro u17 e17
      refine HS.still (Runs.ixArr (o' := k) Try.underlying31 sz5 f2 e17 (by omega) (by omega) (by omega)) ?_
      intro u18 e18
      refine HS.still (Runs.load Try.underlying5 rfl e18 ca) ?_
      intro u19 e19
      refine HS.still (Runs.move f5) ?_
      intro u20 e20
      refine HS.still (Runs.ixArr (o' := k) Try.underlying31 sz5 f3 e20 (by omega) (by omega) (by omega)) ?_
      intro u21 e21
      refine HS.still (Runs.load Try.underlying5 rfl e21 cb) ?_
      intro u22 e22
      refine HS.still (Runs.lss e19 e22 (t := lessL xs ys) (by rw [hc]; exact decide_eq_decide.2 Int.ofNat_lt)) ?_
      intro u23 e23
      refine HS.still (Runs.assign e23) ?_
      intro u4 e4
      refine HS.nil ?_
      refine HW.ret ?_
      exact RT.one rfl e4 ⟨rfl, X2⟩
  · have hkn' : k = 32 := by omega
    subst hkn'
    rw [List.drop_of_length_le (by omega), List.drop_of_length_le (by omega)] at hc
    -- region 2
    repeat refine HW.seq ?_
    refine HW.region ?_
    refine HL.still (Runs.move f5) ?_
    intro u6 e6
    refine HL.still (Runs.lss e6 rfl rfl) ?_
    intro u7 e7
    refine HL.nil ?_
    repeat refine HW.seq ?_
    refine HW.no ?_ ?_
    exact e7.trans (congrArg Value.bool (decide_eq_false (by omega)))
    refine HW.exitHere ?_
    -- region 6
    repeat refine HW.seq ?_
    refine HW.region ?_
    refine HL.still (Runs.assign rfl) ?_
    intro u4 e4
    refine HL.nil ?_
    refine HW.ret ?_
    exact RT.one rfl e4 ⟨by rw [hc]; rfl, X2⟩
set_option maxRecDepth 10000 in
/-- digest.Of. -/
theorem of_ch (h : Heap) (xs : List UInt8) (a : Option Addr) (cap : Nat) (hsrc : Byt h a xs) (hcap : xs.length ≤ cap) (hlen : xs.length < 1152921504606846976) :
    CH Try.prog 31 #[.slice a xs.length cap] h fun v h' => v = .agg ((SHA xs).map B8).toArray ∧ Ext h h' := by
  refine CH.of_body Try.func31 rfl rfl rfl ?_
  intro f hf
  have p0 : f 0 = .slice a xs.length cap := by rw [hf]; exact fr0_at rfl
  -- region 0
  repeat refine HW.seq ?_
  refine HW.region ?_
  refine HL.one (HO.alloc zr31 ?_)
  intro h1 w1
  intro u2 e2
  refine HL.nil ?_
  -- region 1
  repeat refine HW.seq ?_
  refine HW.region ?_
  refine HL.still (Runs.move p0) ?_
  intro u3 e3
  refine HL.one (HO.call Try.func54 bd54 nm54 (args1 e3) rfl ((sum_ch h1 xs a cap (hsrc.ext w1.ext) hcap hlen).mono ?_))
  rintro _ h2 ⟨rfl, E2⟩
  intro u4 e4
  refine HL.zero (HO.storeAll sz31 e2 e4 (one_map B8 (fun _ => rfl) _) (E2.keepE w1.new) (by rw [List.length_map, SHA_len]) rfl ?_)
  intro h3 w3
  refine HL.nil ?_
  refine HW.ret ?_
  exact RT.cell rfl e2 w3.new Try.underlying31 rfl sz31 (by rw [List.length_map, SHA_len]) ⟨rfl, (w1.ext.ext E2 (Nat.le_refl _)).wr w3 (Nat.le_refl _)⟩
end Go.Proofs.Ytklelhfgbjpifaa
