/- sha.Hash.mix: a whole block taken in. -/
import Derived.Test.YtbfmkjfpialihaaWb
namespace Go.Proofs.Ytbfmkjfpialihaa
set_option linter.unnecessarySimpa false
set_option linter.unusedSimpArgs false
set_option linter.unusedVariables false
open Go.RowKit
/-- The eight words of a round. -/
structure H8 where
  a : BitVec 32
  b : BitVec 32
  c : BitVec 32
  d : BitVec 32
  e : BitVec 32
  f : BitVec 32
  g : BitVec 32
  h : BitVec 32
def H8.list (s : H8) : List (BitVec 32) := [s.a, s.b, s.c, s.d, s.e, s.f, s.g, s.h]
def H8.of (l : List (BitVec 32)) : H8 := ⟨l.getD 0 0, l.getD 1 0, l.getD 2 0, l.getD 3 0, l.getD 4 0, l.getD 5 0, l.getD 6 0, l.getD 7 0⟩
def ep1 (e : BitVec 32) : BitVec 32 := rotr 6 e ^^^ rotr 11 e ^^^ rotr 25 e
def ep0 (a : BitVec 32) : BitVec 32 := rotr 2 a ^^^ rotr 13 a ^^^ rotr 22 a
/-- A round. -/
def rnd (k w : BitVec 32) (s : H8) : H8 :=
  ⟨s.h + ep1 s.e + (s.e &&& s.f ^^^ ~~~s.e &&& s.g) + k + w + (ep0 s.a + (s.a &&& s.b ^^^ s.a &&& s.c ^^^ s.b &&& s.c)), s.a, s.b, s.c, s.d + (s.h + ep1 s.e + (s.e &&& s.f ^^^ ~~~s.e &&& s.g) + k + w), s.e, s.f, s.g⟩
def rnds (w : List (BitVec 32)) : Nat → H8 → H8
  | 0, s => s
  | t + 1, s => rnd (kt.getD t 0) (w.getD t 0) (rnds w t s)
def addTo (hs xs : List (BitVec 32)) : Nat → List (BitVec 32)
  | 0 => hs
  | k + 1 => (addTo hs xs k).set k ((addTo hs xs k).getD k 0 + xs.getD k 0)
theorem addTo_len (hs xs : List (BitVec 32)) (k : Nat) : (addTo hs xs k).length = hs.length := by
  induction k with
  | zero => rfl
  | succ k ih => simp [addTo, ih]
/-- What a block's words come to. -/
def compress (hs : List (BitVec 32)) (bs : List UInt8) : List (BitVec 32) := addTo hs (rnds (sched bs) 64 (H8.of hs)).list 8
theorem compress_len (hs : List (BitVec 32)) (bs : List UInt8) : (compress hs bs).length = hs.length := addTo_len _ _ _
/-- A hash's cells. -/
def hcells (hs : List (BitVec 32)) (rest : List UInt8) (n : Int) : List Value := hs.map W32 ++ rest.map B8 ++ [I64 n]
theorem hcell_h {h : Heap} {b : Nat} {hs : List (BitVec 32)} {rest : List UInt8} {n : Int} (hb : h[b]? = some (.cells (hcells hs rest n).toArray 53 (0, 0))) (k : Nat) (hk : k < hs.length) : cellH h b k = some (W32 (hs.getD k 0)) := by
  refine cellH_list hb ?_
  rw [hcells, List.append_assoc, List.getElem?_append_left (by simpa using hk)]
  exact getD_map W32 hs k 0 hk
theorem hcell_n {h : Heap} {b : Nat} {hs : List (BitVec 32)} {rest : List UInt8} {n : Int} (hb : h[b]? = some (.cells (hcells hs rest n).toArray 53 (0, 0))) (h8 : hs.length = 8) (h64 : rest.length = 64) : cellH h b 72 = some (I64 n) := by
  refine cellH_list hb ?_
  rw [hcells, List.getElem?_append_right (by simp [h8, h64])]
  simp [h8, h64]
theorem hcells_set_h {hs : List (BitVec 32)} {rest : List UInt8} {n : Int} (k : Nat) (hk : k < hs.length) (x : BitVec 32) : (hcells hs rest n).set k (W32 x) = hcells (hs.set k x) rest n := by
  unfold hcells
  rw [List.append_assoc, List.set_append_left _ _ (by simpa using hk), ← List.append_assoc, List.map_set]
theorem hcells_len (hs : List (BitVec 32)) (rest : List UInt8) (n : Int) : (hcells hs rest n).length = hs.length + rest.length + 1 := by simp [hcells]; omega
theorem run_build8 (x0 x1 x2 x3 x4 x5 x6 x7 : BitVec 32) (w : World) : (Instr.build 47 #[(0, W32 x0), (1, W32 x1), (2, W32 x2), (3, W32 x3), (4, W32 x4), (5, W32 x5), (6, W32 x6), (7, W32 x7)]).run Try.prog w = .ok (.agg ([x0, x1, x2, x3, x4, x5, x6, x7].map W32).toArray) w := by kernel_rfl
theorem Runs.build8 {ρ : Operand → Value} {h : Heap} {d : Option Tmp} {ty : TypeId} {pos : String} {af : Array Edge} {gd : Option (Nat × Bool)} {o0 o1 o2 o3 o4 o5 o6 o7 : Operand} {x0 x1 x2 x3 x4 x5 x6 x7 : BitVec 32}
    (e0 : ρ o0 = W32 x0) (e1 : ρ o1 = W32 x1) (e2 : ρ o2 = W32 x2) (e3 : ρ o3 = W32 x3) (e4 : ρ o4 = W32 x4) (e5 : ρ o5 = W32 x5) (e6 : ρ o6 = W32 x6) (e7 : ρ o7 = W32 x7) :
    Runs Try.prog ⟨d, .build 47 #[(0, o0), (1, o1), (2, o2), (3, o3), (4, o4), (5, o5), (6, o6), (7, o7)], ty, pos, af, gd⟩ ρ h (.agg ([x0, x1, x2, x3, x4, x5, x6, x7].map W32).toArray) :=
  Runs.build (fun w => by
    have e : (#[(0, o0), (1, o1), (2, o2), (3, o3), (4, o4), (5, o5), (6, o6), (7, o7)] : Array (Nat × Operand)).map (fun (i, x) => (i, ρ x)) = #[(0, W32 x0), (1, W32 x1), (2, W32 x2), (3, W32 x3), (4, W32 x4), (5, W32 x5), (6, W32 x6), (7, W32 x7)] := by
      simp [e0, e1, e2, e3, e4, e5, e6, e7]
    rw [e]
    exact run_build8 x0 x1 x2 x3 x4 x5 x6 x7 w)
set_option maxRecDepth 10000 in
theorem mix_ch (h : Heap) (b : Nat) (hs : List (BitVec 32)) (rest : List UInt8) (n : Int) (h8 : hs.length = 8) (h64 : rest.length = 64) (hb : h[b]? = some (.cells (hcells hs rest n).toArray 53 (0, 0))) :
    CH Try.prog 30 #[.pointer (some ⟨b, 0, none⟩)] h fun v h' => v = .tuple #[] ∧ h'[b]? = some (.cells (hcells (compress hs rest) rest n).toArray 53 (0, 0)) ∧ ExB b h h' := by
  refine CH.of_body Try.func30 rfl rfl rfl ?_
  intro f hf
  have hbl := lt_of_some hb
  have p0 : f 0 = .pointer (some ⟨b, 0, none⟩) := by rw [hf]; exact fr0_at rfl
  -- region 0
  repeat refine HW.seq ?_
  refine HW.region ?_
  refine HL.still (Runs.move p0) ?_
  intro u19 e19
  refine HL.still (Runs.nilc e19) ?_
  intro u20 e20
  refine HL.still (Runs.fld (o' := 8) Try.underlying53 rfl sz51 (by decide) e20 (by rfl)) ?_
  intro u21 e21
  refine HL.still (Runs.loadAgg Try.underlying51 rfl sz51 e21 (by simp [h64]) (load_mid (x := hs.map W32) (l := rest.map B8) (y := [I64 n]) hb (by simp [h8]))) ?_
  intro u22 e22
  refine HL.one (HO.call Try.func36 bd36 nm36 (args1 e22) rfl ((sched_ch _ rest h64).mono ?_))
  rintro _ h1 ⟨rfl, E1⟩
  intro u23 e23
  refine HL.one (HO.call Try.func37 bd37 nm37 (args0) rfl ((round_ch _).mono ?_))
  rintro _ h2 ⟨rfl, E2⟩
  intro u24 e24
  refine HL.one (HO.alloc zr46 ?_)
  intro h3 w3
  intro u2 e2
  refine HL.one (HO.alloc zr46 ?_)
  intro h4 w4
  intro u3 e3
  refine HL.zero (HO.storeAll sz46 e2 e23 (one_map W32 (fun _ => rfl) _) (w4.keep w3.new) (by simp [sched_len]) rfl ?_)
  intro h5 w5
  refine HL.zero (HO.storeAll sz46 e3 e24 (one_map W32 (fun _ => rfl) _) (w5.keep w4.new (by have := w3.size; omega)) rfl rfl ?_)
  intro h6 w6
  refine HL.nil ?_
  have s3 := w3.size
  have s4 := w4.size
  have s5 := w5.size
  have s6 := w6.size
  have E6 : Ext h h6 := ((((E1.ext E2 (Nat.le_refl _)).ext w3.ext (Nat.le_refl _)).ext w4.ext (Nat.le_refl _)).wr w5 (by have := E1.size; have := E2.size; omega)).wr w6 (by have := E1.size; have := E2.size; omega)
  have hb6 := E6.keepE hb
  have hw6 := w6.keep w5.new (by omega)
  have hk6 := w6.new
  have hl := sched_len rest
  -- region 1
  repeat refine HW.seq ?_
  refine HW.draw mixed (by kernel_rfl) ?_
  refine HS.still (Runs.move p0) ?_
  intro u25 e25
  refine HS.still (Runs.nilc e25) ?_
  intro u26 e26
  refine HS.still (Runs.fld (o' := 0) Try.underlying53 rfl sz47 (by decide) e26 (by rfl)) ?_
  intro u27 e27
  refine HS.still (Runs.ixArr (o' := 0) Try.underlying47 sz45 e27 rfl (by decide) (by decide) (by rfl)) ?_
  intro u28 e28
  refine HS.still (Runs.load Try.underlying45 rfl e28 (hcell_h hb6 0 (by omega))) ?_
  intro u29 e29
  refine HS.still (Runs.move p0) ?_
  intro u30 e30
  refine HS.still (Runs.nilc e30) ?_
  intro u31 e31
  refine HS.still (Runs.fld (o' := 0) Try.underlying53 rfl sz47 (by decide) e31 (by rfl)) ?_
  intro u32 e32
  refine HS.still (Runs.ixArr (o' := 1) Try.underlying47 sz45 e32 rfl (by decide) (by decide) (by rfl)) ?_
  intro u33 e33
  refine HS.still (Runs.load Try.underlying45 rfl e33 (hcell_h hb6 1 (by omega))) ?_
  intro u34 e34
  refine HS.still (Runs.move p0) ?_
  intro u35 e35
  refine HS.still (Runs.nilc e35) ?_
  intro u36 e36
  refine HS.still (Runs.fld (o' := 0) Try.underlying53 rfl sz47 (by decide) e36 (by rfl)) ?_
  intro u37 e37
  refine HS.still (Runs.ixArr (o' := 2) Try.underlying47 sz45 e37 rfl (by decide) (by decide) (by rfl)) ?_
  intro u38 e38
  refine HS.still (Runs.load Try.underlying45 rfl e38 (hcell_h hb6 2 (by omega))) ?_
  intro u39 e39
  refine HS.still (Runs.move p0) ?_
  intro u40 e40
  refine HS.still (Runs.nilc e40) ?_
  intro u41 e41
  refine HS.still (Runs.fld (o' := 0) Try.underlying53 rfl sz47 (by decide) e41 (by rfl)) ?_
  intro u42 e42
  refine HS.still (Runs.ixArr (o' := 3) Try.underlying47 sz45 e42 rfl (by decide) (by decide) (by rfl)) ?_
  intro u43 e43
  refine HS.still (Runs.load Try.underlying45 rfl e43 (hcell_h hb6 3 (by omega))) ?_
  intro u44 e44
  refine HS.still (Runs.move p0) ?_
  intro u45 e45
  refine HS.still (Runs.nilc e45) ?_
  intro u46 e46
  refine HS.still (Runs.fld (o' := 0) Try.underlying53 rfl sz47 (by decide) e46 (by rfl)) ?_
  intro u47 e47
  refine HS.still (Runs.ixArr (o' := 4) Try.underlying47 sz45 e47 rfl (by decide) (by decide) (by rfl)) ?_
  intro u48 e48
  refine HS.still (Runs.load Try.underlying45 rfl e48 (hcell_h hb6 4 (by omega))) ?_
  intro u49 e49
  refine HS.still (Runs.move p0) ?_
  intro u50 e50
  refine HS.still (Runs.nilc e50) ?_
  intro u51 e51
  refine HS.still (Runs.fld (o' := 0) Try.underlying53 rfl sz47 (by decide) e51 (by rfl)) ?_
  intro u52 e52
  refine HS.still (Runs.ixArr (o' := 5) Try.underlying47 sz45 e52 rfl (by decide) (by decide) (by rfl)) ?_
  intro u53 e53
  refine HS.still (Runs.load Try.underlying45 rfl e53 (hcell_h hb6 5 (by omega))) ?_
  intro u54 e54
  refine HS.still (Runs.move p0) ?_
  intro u55 e55
  refine HS.still (Runs.nilc e55) ?_
  intro u56 e56
  refine HS.still (Runs.fld (o' := 0) Try.underlying53 rfl sz47 (by decide) e56 (by rfl)) ?_
  intro u57 e57
  refine HS.still (Runs.ixArr (o' := 6) Try.underlying47 sz45 e57 rfl (by decide) (by decide) (by rfl)) ?_
  intro u58 e58
  refine HS.still (Runs.load Try.underlying45 rfl e58 (hcell_h hb6 6 (by omega))) ?_
  intro u59 e59
  refine HS.still (Runs.move p0) ?_
  intro u60 e60
  refine HS.still (Runs.nilc e60) ?_
  intro u61 e61
  refine HS.still (Runs.fld (o' := 0) Try.underlying53 rfl sz47 (by decide) e61 (by rfl)) ?_
  intro u62 e62
  refine HS.still (Runs.ixArr (o' := 7) Try.underlying47 sz45 e62 rfl (by decide) (by decide) (by rfl)) ?_
  intro u63 e63
  refine HS.still (Runs.load Try.underlying45 rfl e63 (hcell_h hb6 7 (by omega))) ?_
  intro u64 e64
  refine HS.still (Runs.assign e29) ?_
  intro u4 e4
  refine HS.still (Runs.assign e34) ?_
  intro u5 e5
  refine HS.still (Runs.assign e39) ?_
  intro u6 e6
  refine HS.still (Runs.assign e44) ?_
  intro u7 e7
  refine HS.still (Runs.assign e49) ?_
  intro u8 e8
  refine HS.still (Runs.assign e54) ?_
  intro u9 e9
  refine HS.still (Runs.assign e59) ?_
  intro u10 e10
  refine HS.still (Runs.assign e64) ?_
  intro u11 e11
  refine HS.nil ?_
  -- region 2
  repeat refine HW.seq ?_
  refine HW.region ?_
  refine HL.still (Runs.move rfl) ?_
  intro u65 e65
  refine HL.nil ?_
  repeat refine HW.seq ?_
  refine HW.block ?_
  refine HW.loop (fun m f h' => ∃ t : Nat, m = 64 - t ∧ t ≤ 64 ∧ ∃ s : H8, s = rnds (sched rest) t (H8.of hs) ∧ f 65 = I64 t ∧ f 0 = .pointer (some ⟨b, 0, none⟩) ∧ f 2 = .pointer (some ⟨h2.size, 0, none⟩) ∧ f 3 = .pointer (some ⟨h3.size, 0, none⟩) ∧
    f 4 = W32 s.a ∧ f 5 = W32 s.b ∧ f 6 = W32 s.c ∧ f 7 = W32 s.d ∧ f 8 = W32 s.e ∧ f 9 = W32 s.f ∧ f 10 = W32 s.g ∧ f 11 = W32 s.h ∧ h' = h6) 64
    ⟨0, rfl, Nat.zero_le _, _, rfl, e65, p0, e2, e3, e4, e5, e6, e7, e8, e9, e10, e11, rfl⟩ ?_
  rintro m f h' ⟨t, hm, ht, s, hS, f65, f0, f2, f3, f4, f5, f6, f7, f8, f9, f10, f11, rfl⟩
  by_cases hlt : t < 64
  · skip
    -- region 3
    repeat refine HW.seq ?_
    refine HW.region ?_
    refine HL.still (Runs.lss f65 rfl rfl) ?_
    intro u66 e66
    refine HL.nil ?_
    repeat refine HW.seq ?_
    refine HW.yes ?_ ?_
    exact e66.trans (congrArg Value.bool (decide_eq_true (by omega)))
    refine HW.skip ?_
    repeat refine HW.seq ?_
    refine HW.block ?_
    -- region 4
    repeat refine HW.seq ?_
    refine HW.region ?_
    refine HL.still (Runs.move f65) ?_
    intro u67 e67
    refine HL.still (Runs.assign e67) ?_
    intro u12 e12
    refine HL.nil ?_
    -- region 5
    repeat refine HW.seq ?_
    refine HW.region ?_
    refine HL.still (Runs.move f8) ?_
    intro u68 e68
    refine HL.one (HO.call Try.func38 bd38 nm38 (args2 e68 rfl) rfl ((rot_ch 6 (by decide) (by decide) _ _).mono ?_))
    rintro _ _ ⟨rfl, rfl⟩
    intro u69 e69
    refine HL.still (Runs.move f8) ?_
    intro u70 e70
    refine HL.one (HO.call Try.func38 bd38 nm38 (args2 e70 rfl) rfl ((rot_ch 11 (by decide) (by decide) _ _).mono ?_))
    rintro _ _ ⟨rfl, rfl⟩
    intro u71 e71
    refine HL.still (Runs.xor e69 e71 (bits_xor32 _ _)) ?_
    intro u72 e72
    refine HL.still (Runs.move f8) ?_
    intro u73 e73
    refine HL.one (HO.call Try.func38 bd38 nm38 (args2 e73 rfl) rfl ((rot_ch 25 (by decide) (by decide) _ _).mono ?_))
    rintro _ _ ⟨rfl, rfl⟩
    intro u74 e74
    refine HL.still (Runs.xor e72 e74 (bits_xor32 _ _)) ?_
    intro u75 e75
    refine HL.still (Runs.assign e75) ?_
    intro u13 e13
    refine HL.nil ?_
    -- region 6
    repeat refine HW.seq ?_
    refine HW.draw mixed (by kernel_rfl) ?_
    refine HS.still (Runs.move f11) ?_
    intro u76 e76
    refine HS.still (Runs.move e13) ?_
    intro u77 e77
    refine HS.still (Runs.add e76 e77 (add32w _ _)) ?_
    intro u78 e78
    refine HS.still (Runs.move f8) ?_
    intro u79 e79
    refine HS.still (Runs.move f9) ?_
    intro u80 e80
    refine HS.still (Runs.and e79 e80 (bits_and32 _ _)) ?_
    intro u81 e81
    refine HS.still (Runs.move f8) ?_
    intro u82 e82
    refine HS.still (Runs.compl e82 (compl32 _)) ?_
    intro u83 e83
    refine HS.still (Runs.move f10) ?_
    intro u84 e84
    refine HS.still (Runs.and e83 e84 (bits_and32 _ _)) ?_
    intro u85 e85
    refine HS.still (Runs.xor e81 e85 (bits_xor32 _ _)) ?_
    intro u86 e86
    refine HS.still (Runs.add e78 e86 (add32w _ _)) ?_
    intro u87 e87
    refine HS.still (Runs.move e12) ?_
    intro u88 e88
    refine HS.still (Runs.ixArr (o' := t) Try.underlying46 sz45 f3 e88 (by omega) (by omega) (by omega)) ?_
    intro u89 e89
    refine HS.still (Runs.load Try.underlying45 rfl e89 (cellH_map (j := t) 0 hk6 (by exact hlt))) ?_
    intro u90 e90
    refine HS.still (Runs.add e87 e90 (add32w _ _)) ?_
    intro u91 e91
    refine HS.still (Runs.move e12) ?_
    intro u92 e92
    refine HS.still (Runs.ixArr (o' := t) Try.underlying46 sz45 f2 e92 (by omega) (by omega) (by omega)) ?_
    intro u93 e93
    refine HS.still (Runs.load Try.underlying45 rfl e93 (cellH_map (j := t) 0 hw6 (by omega))) ?_
    intro u94 e94
    refine HS.still (Runs.add e91 e94 (add32w _ _)) ?_
    intro u95 e95
    refine HS.still (Runs.assign e95) ?_
    intro u14 e14
    refine HS.nil ?_
    -- region 7
    repeat refine HW.seq ?_
    refine HW.region ?_
    refine HL.still (Runs.move f4) ?_
    intro u96 e96
    refine HL.one (HO.call Try.func38 bd38 nm38 (args2 e96 rfl) rfl ((rot_ch 2 (by decide) (by decide) _ _).mono ?_))
    rintro _ _ ⟨rfl, rfl⟩
    intro u97 e97
    refine HL.still (Runs.move f4) ?_
    intro u98 e98
    refine HL.one (HO.call Try.func38 bd38 nm38 (args2 e98 rfl) rfl ((rot_ch 13 (by decide) (by decide) _ _).mono ?_))
    rintro _ _ ⟨rfl, rfl⟩
    intro u99 e99
    refine HL.still (Runs.xor e97 e99 (bits_xor32 _ _)) ?_
    intro u100 e100
    refine HL.still (Runs.move f4) ?_
    intro u101 e101
    refine HL.one (HO.call Try.func38 bd38 nm38 (args2 e101 rfl) rfl ((rot_ch 22 (by decide) (by decide) _ _).mono ?_))
    rintro _ _ ⟨rfl, rfl⟩
    intro u102 e102
    refine HL.still (Runs.xor e100 e102 (bits_xor32 _ _)) ?_
    intro u103 e103
    refine HL.still (Runs.assign e103) ?_
    intro u15 e15
    refine HL.nil ?_
    -- region 8
    repeat refine HW.seq ?_
    refine HW.region ?_
    refine HL.still (Runs.move e15) ?_
    intro u104 e104
    refine HL.still (Runs.move f4) ?_
    intro u105 e105
    refine HL.still (Runs.move f5) ?_
    intro u106 e106
    refine HL.still (Runs.and e105 e106 (bits_and32 _ _)) ?_
    intro u107 e107
    refine HL.still (Runs.move f4) ?_
    intro u108 e108
    refine HL.still (Runs.move f6) ?_
    intro u109 e109
    refine HL.still (Runs.and e108 e109 (bits_and32 _ _)) ?_
    intro u110 e110
    refine HL.still (Runs.xor e107 e110 (bits_xor32 _ _)) ?_
    intro u111 e111
    refine HL.still (Runs.move f5) ?_
    intro u112 e112
    refine HL.still (Runs.move f6) ?_
    intro u113 e113
    refine HL.still (Runs.and e112 e113 (bits_and32 _ _)) ?_
    intro u114 e114
    refine HL.still (Runs.xor e111 e114 (bits_xor32 _ _)) ?_
    intro u115 e115
    refine HL.still (Runs.add e104 e115 (add32w _ _)) ?_
    intro u116 e116
    refine HL.still (Runs.assign e116) ?_
    intro u16 e16
    refine HL.nil ?_
    -- region 9
    repeat refine HW.seq ?_
    refine HW.region ?_
    refine HL.still (Runs.move e14) ?_
    intro u117 e117
    refine HL.still (Runs.move e16) ?_
    intro u118 e118
    refine HL.still (Runs.add e117 e118 (add32w _ _)) ?_
    intro u119 e119
    refine HL.still (Runs.move f4) ?_
    intro u120 e120
    refine HL.still (Runs.move f5) ?_
    intro u121 e121
    refine HL.still (Runs.move f6) ?_
    intro u122 e122
    refine HL.still (Runs.move f7) ?_
    intro u123 e123
    refine HL.still (Runs.move e14) ?_
    intro u124 e124
    refine HL.still (Runs.add e123 e124 (add32w _ _)) ?_
    intro u125 e125
    refine HL.still (Runs.move f8) ?_
    intro u126 e126
    refine HL.still (Runs.move f9) ?_
    intro u127 e127
    refine HL.still (Runs.move f10) ?_
    intro u128 e128
    refine HL.still (Runs.assign e119) ?_
    intro u4 e4
    refine HL.still (Runs.assign e120) ?_
    intro u5 e5
    refine HL.still (Runs.assign e121) ?_
    intro u6 e6
    refine HL.still (Runs.assign e122) ?_
    intro u7 e7
    refine HL.still (Runs.assign e125) ?_
    intro u8 e8
    refine HL.still (Runs.assign e126) ?_
    intro u9 e9
    refine HL.still (Runs.assign e127) ?_
    intro u10 e10
    refine HL.still (Runs.assign e128) ?_
    intro u11 e11
    refine HL.nil ?_
    -- region 10
    repeat refine HW.seq ?_
    refine HW.region ?_
    refine HL.still (Runs.add f65 rfl (i64w (by omega))) ?_
    intro u129 e129
    refine HL.still (Runs.move e129) ?_
    intro u65 e65
    refine HL.nil ?_
    exact ⟨64 - (t + 1), by omega, t + 1, rfl, by omega, rnd (kt.getD t 0) ((sched rest).getD t 0) s, by rw [rnds, ← hS], e65, f0, f2, f3, e4, e5, e6, e7, e8, e9, e10, e11, rfl⟩
  · have h64' : t = 64 := by omega
    subst h64'
    -- region 3
    repeat refine HW.seq ?_
    refine HW.region ?_
    refine HL.still (Runs.lss f65 rfl rfl) ?_
    intro u66 e66
    refine HL.nil ?_
    repeat refine HW.seq ?_
    refine HW.no ?_ ?_
    exact e66.trans (congrArg Value.bool (decide_eq_false (by omega)))
    refine HW.exitHere ?_
    -- region 11
    repeat refine HW.seq ?_
    refine HW.region ?_
    refine HL.still (Runs.move f4) ?_
    intro u130 e130
    refine HL.still (Runs.move f5) ?_
    intro u131 e131
    refine HL.still (Runs.move f6) ?_
    intro u132 e132
    refine HL.still (Runs.move f7) ?_
    intro u133 e133
    refine HL.still (Runs.move f8) ?_
    intro u134 e134
    refine HL.still (Runs.move f9) ?_
    intro u135 e135
    refine HL.still (Runs.move f10) ?_
    intro u136 e136
    refine HL.still (Runs.move f11) ?_
    intro u137 e137
    refine HL.still (Runs.build8 e130 e131 e132 e133 e134 e135 e136 e137) ?_
    intro u138 e138
    refine HL.still (Runs.move rfl) ?_
    intro u139 e139
    refine HL.nil ?_
    repeat refine HW.seq ?_
    refine HW.block ?_
    refine HW.loop (fun m f h' => ∃ k : Nat, m = 8 - k ∧ k ≤ 8 ∧ f 139 = I64 k ∧ f 138 = .agg (s.list.map W32).toArray ∧ f 0 = .pointer (some ⟨b, 0, none⟩) ∧ h'[b]? = some (.cells (hcells (addTo hs s.list k) rest n).toArray 53 (0, 0)) ∧ ExB b h h') 8
      ⟨0, rfl, Nat.zero_le _, e139, e138, f0, hb6, ExB.of_ext E6⟩ ?_
    rintro m f h' ⟨k, hm, hk, f139, f138, f0, hb', hE⟩
    have hal : (addTo hs s.list k).length = 8 := by rw [addTo_len, h8]
    by_cases hlt : k < 8
    · skip
      -- region 12
      repeat refine HW.seq ?_
      refine HW.region ?_
      refine HL.still (Runs.lss f139 rfl rfl) ?_
      intro u140 e140
      refine HL.nil ?_
      repeat refine HW.seq ?_
      refine HW.yes ?_ ?_
      exact e140.trans (congrArg Value.bool (decide_eq_true (by omega)))
      refine HW.skip ?_
      repeat refine HW.seq ?_
      refine HW.block ?_
      -- region 13
      repeat refine HW.seq ?_
      refine HW.region ?_
      refine HL.still (Runs.move f139) ?_
      intro u141 e141
      refine HL.still (Runs.ixAgg Try.underlying47 Try.underlying45 rfl sz45 f138 f139 (by omega) (by omega) (toArray_map W32 s.list k 0 (by simpa [H8.list] using hlt))) ?_
      intro u142 e142
      refine HL.still (Runs.assign e141) ?_
      intro u17 e17
      refine HL.still (Runs.assign e142) ?_
      intro u18 e18
      refine HL.nil ?_
      -- region 14
      repeat refine HW.seq ?_
      refine HW.drawTail 11 mixed (by kernel_rfl) ?_
      refine HS.still (Runs.move f0) ?_
      intro u143 e143
      refine HS.still (Runs.move e17) ?_
      intro u144 e144
      refine HS.still (Runs.nilc e143) ?_
      intro u145 e145
      refine HS.still (Runs.fld (o' := 0) Try.underlying53 rfl sz47 (by decide) e145 (by rfl)) ?_
      intro u146 e146
      refine HS.still (Runs.ixArr (o' := k) Try.underlying47 sz45 e146 e144 (by omega) (by omega) (by omega)) ?_
      intro u147 e147
      refine HS.still (Runs.load Try.underlying45 rfl e147 (hcell_h hb' k (by omega))) ?_
      intro u148 e148
      refine HS.still (Runs.move e18) ?_
      intro u149 e149
      refine HS.still (Runs.add e148 e149 (add32w _ _)) ?_
      intro u150 e150
      refine HS.still (Runs.nilc e143) ?_
      intro u151 e151
      refine HS.still (Runs.fld (o' := 0) Try.underlying53 rfl sz47 (by decide) e151 (by rfl)) ?_
      intro u152 e152
      refine HS.still (Runs.ixArr (o' := k) Try.underlying47 sz45 e152 e144 (by omega) (by omega) (by omega)) ?_
      intro u153 e153
      refine HS.nil ?_
      refine HL.zero (HO.store (s := 1) sz45 e153 e150 rfl hb' (by rw [hcells_len]; omega) rfl ?_)
      intro h7 w7
      refine HL.nil ?_
      have hb7 := w7.new
      rw [hcells_set_h k (by omega)] at hb7
      -- region 15
      repeat refine HW.seq ?_
      refine HW.region ?_
      refine HL.still (Runs.add f139 rfl (i64w (by omega))) ?_
      intro u154 e154
      refine HL.still (Runs.move e154) ?_
      intro u139 e139
      refine HL.nil ?_
      exact ⟨8 - (k + 1), by omega, k + 1, rfl, by omega, e139, f138, f0, hb7, hE.trans (ExB.of_wr w7)⟩
    · have hk8 : k = 8 := by omega
      subst hk8
      -- region 12
      repeat refine HW.seq ?_
      refine HW.region ?_
      refine HL.still (Runs.lss f139 rfl rfl) ?_
      intro u140 e140
      refine HL.nil ?_
      repeat refine HW.seq ?_
      refine HW.no ?_ ?_
      exact e140.trans (congrArg Value.bool (decide_eq_false (by omega)))
      refine HW.exitHere ?_
      exact RT.zero rfl ⟨rfl, by rw [hS] at hb'; exact hb', hE⟩
end Go.Proofs.Ytbfmkjfpialihaa
