/- octal.more, octal.binary. -/
import Derived.Test.YtfogkggkjmkdiaaDoorWb
namespace Go.Proofs.YtfogkggkjmkdiaaDoor
set_option linter.unnecessarySimpa false
set_option linter.unusedSimpArgs false
set_option linter.unusedVariables false
open Go.RowKit
theorem bits_or64 (x y : Nat) (hx : x < 9223372036854775808) (hy : y < 9223372036854775808) : bits .or .i64 (x : Int) (y : Int) = ((x ||| y : Nat) : Int) := by
  have h : bits .or .i64 (x : Int) (y : Int) = IntKind.i64.wrap ((BitVec.ofInt 64 (x : Int)) ||| (BitVec.ofInt 64 (y : Int))).toNat := rfl
  have hlt : x ||| y < 2 ^ 63 := Nat.or_lt_two_pow hx hy
  have e : ((BitVec.ofInt 64 (x : Int)) ||| (BitVec.ofInt 64 (y : Int))).toNat = x ||| y := by
    rw [BitVec.toNat_or, BitVec.ofInt_natCast, BitVec.ofInt_natCast, BitVec.toNat_ofNat, BitVec.toNat_ofNat, Nat.mod_eq_of_lt (by omega), Nat.mod_eq_of_lt (by omega)]
  rw [h, e]
  exact i64w (by omega)
theorem or_add (n k d : Nat) (h : d < 2 ^ k) : n * 2 ^ k ||| d = n * 2 ^ k + d := by
  rw [← Nat.shiftLeft_eq]
  exact (Nat.shiftLeft_add_eq_or_of_lt h n).symm
/-- A number with a digit more. -/
def mv (k n d : Nat) : Nat × Bool := if (4611686018427387904 - d) / 2 ^ k < n then (0, false) else (n * 2 ^ k + d, true)
theorem mv_le (k n d : Nat) (hd : d ≤ 4611686018427387904) : (mv k n d).1 ≤ 4611686018427387904 := by
  unfold mv
  split
  · exact Nat.zero_le _
  · rename_i h
    have h1 : n ≤ (4611686018427387904 - d) / 2 ^ k := by omega
    have h2 := Nat.mul_le_mul_right (2 ^ k) h1
    have h3 := Nat.div_mul_le_self (4611686018427387904 - d) (2 ^ k)
    show n * 2 ^ k + d ≤ _
    omega
theorem more_ch (h : Heap) (k n d : Nat) (hk : k ≤ 32) (hn : n ≤ 4611686018427387904) (hd : d < 2 ^ k) (hd2 : d ≤ 4611686018427387904) : CH Tryd.prog 31 #[I64 (n : Int), I64 (k : Int), I64 (d : Int)] h fun v h' => v = .tuple #[I64 ((mv k n d).1 : Int), .bool (mv k n d).2] ∧ h' = h := by
  refine CH.of_body Tryd.func31 rfl rfl rfl ?_
  intro f hf
  have p0 : f 0 = I64 (n : Int) := by rw [hf]; exact fr0_at rfl
  have p1 : f 1 = I64 (k : Int) := by rw [hf]; exact fr0_at rfl
  have p2 : f 2 = I64 (d : Int) := by rw [hf]; exact fr0_at rfl
  have hsh : ((4611686018427387904 : Int) - (d : Int)).fdiv (2 ^ (min (k : Int).toNat IntKind.i64.bits)) = (((4611686018427387904 - d) / 2 ^ k : Nat) : Int) := by
    have e : min (k : Int).toNat IntKind.i64.bits = k := by simp [IntKind.bits]; omega
    rw [e, Int.fdiv_eq_ediv_of_nonneg _ (Int.pow_nonneg (by decide)), show (4611686018427387904 : Int) - (d : Int) = ((4611686018427387904 - d : Nat) : Int) by omega]
    simp
  -- region 0
  repeat refine HW.seq ?_
  refine HW.region ?_
  refine HL.still (Runs.assign rfl) ?_
  intro u6 e6
  refine HL.still (Runs.assign rfl) ?_
  intro u7 e7
  refine HL.nil ?_
  by_cases hb : (4611686018427387904 - d) / 2 ^ k < n
  · skip
    -- region 1
    repeat refine HW.seq ?_
    refine HW.region ?_
    refine HL.still (Runs.move p0) ?_
    intro u8 e8
    refine HL.still (Runs.move p2) ?_
    intro u9 e9
    refine HL.still (Runs.sub rfl e9 (i64w (by omega))) ?_
    intro u10 e10
    refine HL.still (Runs.move p1) ?_
    intro u11 e11
    refine HL.still (Runs.shr e10 e11 (by omega) hsh) ?_
    intro u12 e12
    refine HL.still (Runs.gtr e8 e12 (t := true) (decide_eq_true (Int.ofNat_lt.2 hb))) ?_
    intro u13 e13
    refine HL.nil ?_
    repeat refine HW.seq ?_
    refine HW.yes ?_ ?_
    exact e13
    -- region 2
    repeat refine HW.seq ?_
    refine HW.region ?_
    refine HL.still (Runs.assign rfl) ?_
    intro u6 e6
    refine HL.still (Runs.assign rfl) ?_
    intro u7 e7
    refine HL.nil ?_
    refine HW.ret ?_
    refine RT.two rfl e6 e7 ⟨?_, rfl⟩
    unfold mv
    rw [if_pos hb]
    rfl
  · skip
    -- region 1
    repeat refine HW.seq ?_
    refine HW.region ?_
    refine HL.still (Runs.move p0) ?_
    intro u8 e8
    refine HL.still (Runs.move p2) ?_
    intro u9 e9
    refine HL.still (Runs.sub rfl e9 (i64w (by omega))) ?_
    intro u10 e10
    refine HL.still (Runs.move p1) ?_
    intro u11 e11
    refine HL.still (Runs.shr e10 e11 (by omega) hsh) ?_
    intro u12 e12
    refine HL.still (Runs.gtr e8 e12 (t := false) (decide_eq_false (fun q => hb (Int.ofNat_lt.1 q)))) ?_
    intro u13 e13
    refine HL.nil ?_
    repeat refine HW.seq ?_
    refine HW.no ?_ ?_
    exact e13
    refine HW.skip ?_
    have hle := mv_le k n d hd2
    unfold mv at hle
    rw [if_neg hb] at hle
    simp only at hle
    have hshl : IntKind.i64.wrap ((n : Int) * 2 ^ (min (k : Int).toNat IntKind.i64.bits)) = ((n * 2 ^ k : Nat) : Int) := by
      have e : min (k : Int).toNat IntKind.i64.bits = k := by simp [IntKind.bits]; omega
      rw [e, show (n : Int) * 2 ^ k = ((n * 2 ^ k : Nat) : Int) by simp]
      exact i64w (by omega)
    -- region 3
    repeat refine HW.seq ?_
    refine HW.region ?_
    refine HL.still (Runs.move p0) ?_
    intro u14 e14
    refine HL.still (Runs.move p1) ?_
    intro u15 e15
    refine HL.still (Runs.shl e14 e15 (by omega) hshl) ?_
    intro u16 e16
    refine HL.still (Runs.move p2) ?_
    intro u17 e17
    refine HL.still (Runs.or e16 e17 ((bits_or64 _ _ (by omega) (by omega)).trans (by rw [or_add n k d hd]))) ?_
    intro u18 e18
    refine HL.still (Runs.assign e18) ?_
    intro u6 e6
    refine HL.still (Runs.assign rfl) ?_
    intro u7 e7
    refine HL.nil ?_
    refine HW.ret ?_
    refine RT.two rfl e6 e7 ⟨?_, rfl⟩
    unfold mv
    rw [if_neg hb]
/-- The number of bytes, the highest first. -/
def goB : Nat → List UInt8 → Nat × Bool
  | n, [] => (n, true)
  | n, c :: s => if (mv 8 n c.toNat).2 = true then goB (mv 8 n c.toNat).1 s else (0, false)
def binO (f : List UInt8) : Nat × Bool := if f.getD 0 0 = 128 then goB 0 (f.drop 1) else (0, false)
theorem mv_no {k n d : Nat} (h : (mv k n d).2 = false) : mv k n d = (0, false) := by
  unfold mv at h ⊢
  split
  · rfl
  · rename_i hh; rw [if_neg hh] at h; cases h
theorem goB_no {n : Nat} {s : List UInt8} (h : (goB n s).2 = false) : goB n s = (0, false) := by
  induction s generalizing n with
  | nil => cases h
  | cons c s ih =>
    unfold goB at h ⊢
    split
    · rename_i hh; rw [if_pos hh] at h; exact ih h
    · rfl
theorem binO_no {f : List UInt8} (h : (binO f).2 = false) : binO f = (0, false) := by
  unfold binO at h ⊢
  split
  · rename_i hh; rw [if_pos hh] at h; exact goB_no h
  · rfl
theorem Byt.drop {h : Heap} {a a' : Option Addr} {xs : List UInt8} {cap : Nat} (x : Byt h a xs) (k : Nat) (hc : xs.length ≤ cap) (hk : k ≤ xs.length) (ha : (if cap = k then a else a.map (·.add (k * 1))) = a') : Byt h a' (xs.drop k) := by
  by_cases hd : xs.drop k = []
  · exact .inl hd
  · rcases x with rfl | ⟨sb, so, h1, h3⟩
    · simp at hd
    · have hlt : k < xs.length := by
        rcases Nat.lt_or_ge k xs.length with q | q
        · exact q
        · exact absurd (List.drop_of_length_le q) hd
      rw [if_neg (by omega), h1, Option.map_some, addr_add, Nat.mul_one] at ha
      refine .inr ⟨sb, so + k, ha.symm, fun j hj => ?_⟩
      rw [List.length_drop] at hj
      have := h3 (k + j) (by omega)
      rw [← Nat.add_assoc] at this
      rw [this]
      congr 2
      simp [List.getD_eq_getElem?_getD]
theorem Byt.at {h : Heap} {a : Option Addr} {xs : List UInt8} (x : Byt h a xs) {k : Nat} (hk : k < xs.length) : ∃ sb so, a = some ⟨sb, so, none⟩ ∧ cellH h sb (so + k) = some (B8 (xs.getD k 0)) := by
  rcases x with e | ⟨sb, so, q1, q2⟩
  · rw [e] at hk; cases hk
  · exact ⟨sb, so, q1, q2 k hk⟩
theorem drop_at {xs : List UInt8} {k : Nat} (hk : k < xs.length) : xs.drop k = xs.getD k 0 :: xs.drop (k + 1) := by
  rw [List.drop_eq_getElem_cons hk]
  simp [hk]
theorem goB_step {n : Nat} {s : List UInt8} {k : Nat} (hk : k < s.length) : goB n (s.drop k) = if (mv 8 n (s.getD k 0).toNat).2 = true then goB (mv 8 n (s.getD k 0).toNat).1 (s.drop (k + 1)) else (0, false) := by
  rw [drop_at hk, goB]
/-- octal.binary. -/
theorem binary_ch (h : Heap) (xs : List UInt8) (a : Option Addr) (cap : Nat) (hsrc : Byt h a xs) (hcap : xs.length ≤ cap) (hpos : 0 < xs.length) (hlen : xs.length < 4611686018427387904) :
    CH Tryd.prog 28 #[.slice a xs.length cap] h fun v h' => v = .tuple #[I64 ((binO xs).1 : Int), .bool (binO xs).2] ∧ h' = h := by
  refine CH.of_body Tryd.func28 rfl rfl rfl ?_
  intro f hf
  have p0 : f 0 = .slice a xs.length cap := by rw [hf]; exact fr0_at rfl
  obtain ⟨sb, so, ha, hc0⟩ := hsrc.at hpos
  have p0' := p0
  rw [ha] at p0'
  -- region 0
  repeat refine HW.seq ?_
  refine HW.region ?_
  refine HL.still (Runs.assign rfl) ?_
  intro u2 e2
  refine HL.still (Runs.assign rfl) ?_
  intro u3 e3
  refine HL.nil ?_
  have h128 : ∀ c : UInt8, (((c.toNat : Int) == 128) = decide (c = 128)) := fun c => by
    by_cases e : c = 128
    · subst e; rfl
    · rw [decide_eq_false e, beq_eq_false_iff_ne]
      intro q
      exact e (UInt8.toNat_inj.1 (by show c.toNat = 128; omega))
  -- region 1
  repeat refine HW.seq ?_
  refine HW.draw mixed (by kernel_rfl) ?_
  refine HS.still (Runs.move p0') ?_
  intro u8 e8
  refine HS.still (Runs.ixSl (o' := so) Tryd.underlying22 sz5 e8 rfl (by omega) (by omega) (by omega)) ?_
  intro u9 e9
  refine HS.still (Runs.load Tryd.underlying5 rfl e9 hc0) ?_
  intro u10 e10
  refine HS.still (Runs.eql e10 rfl (h128 _)) ?_
  intro u11 e11
  refine HS.still (Runs.assign rfl) ?_
  intro u4 e4
  refine HS.still (Runs.assign e11) ?_
  intro u5 e5
  refine HS.nil ?_
  obtain ⟨a', ha'⟩ : ∃ a', (if cap = 1 then a else a.map (·.add (1 * 1))) = a' := ⟨_, rfl⟩
  have hbt := hsrc.drop 1 hcap hpos ha'
  -- region 2
  repeat refine HW.seq ?_
  refine HW.region ?_
  refine HL.still (Runs.move p0) ?_
  intro u12 e12
  refine HL.still (Runs.sliceSl Tryd.underlying22 sz5 e12 (lo := 1) (hi := xs.length) ⟨_, rfl⟩ rfl hpos hcap ha') ?_
  intro u13 e13
  refine HL.still (Runs.lenSl rfl Tryd.underlying22 e13) ?_
  intro u14 e14
  refine HL.still (Runs.move rfl) ?_
  intro u15 e15
  refine HL.nil ?_
  obtain ⟨tl, htl⟩ : ∃ tl, tl = xs.drop 1 := ⟨_, rfl⟩
  have htll : tl.length = xs.length - 1 := by rw [htl]; simp
  rw [← htl] at hbt
  rw [← htll] at e13 e14
  repeat refine HW.seq ?_
  refine HW.block ?_
  refine HW.loop (fun m f h' => ∃ k : Nat, k ≤ tl.length ∧ m = tl.length - k ∧ f 15 = I64 k ∧ f 13 = .slice a' tl.length (cap - 1) ∧ f 14 = I64 tl.length ∧ ∃ (n : Nat) (ok : Bool), f 4 = I64 (n : Int) ∧ f 5 = .bool ok ∧ n ≤ 4611686018427387904 ∧ (ok = true → goB n (tl.drop k) = binO xs) ∧ (ok = false → binO xs = (0, false)) ∧ h' = h) tl.length
    ⟨0, Nat.zero_le _, rfl, e15, e13, e14, 0, decide (xs.getD 0 0 = 128), e4, e5, Nat.zero_le _, fun q => by rw [binO, if_pos (of_decide_eq_true q), htl]; rfl, fun q => by rw [binO, if_neg (of_decide_eq_false q)], rfl⟩ ?_
  clear e4 e5 e13 e14 e15 hc0
  rintro m f h' ⟨k, hk, hm, f15, f13, f14, n, ok, f4, f5, hn, hyes, hno, rfl⟩
  have hfin : ∀ (f : St), f 4 = I64 (n : Int) → f 5 = .bool ok → (ok = true → (n, true) = binO xs) → HW Tryd.prog Tryd.f28.ntmps (Code.skip) (fun _ _ => True) (fun _ _ _ => True) (fun _ _ => True) f h' := fun f _ _ _ => HW.skip trivial
  clear hfin
  by_cases hlt : k < tl.length
  · obtain ⟨tb, to, hta, hct⟩ := hbt.at hlt
    have f13' := f13
    rw [hta] at f13'
    -- region 3
    repeat refine HW.seq ?_
    refine HW.region ?_
    refine HL.still (Runs.lss f15 f14 rfl) ?_
    intro u16 e16
    refine HL.nil ?_
    repeat refine HW.seq ?_
    refine HW.yes ?_ ?_
    exact e16.trans (congrArg Value.bool (decide_eq_true (by omega)))
    refine HW.skip ?_
    repeat refine HW.seq ?_
    refine HW.block ?_
    -- region 4
    repeat refine HW.seq ?_
    refine HW.region ?_
    refine HL.still (Runs.ixSl (o' := to + k) Tryd.underlying22 sz5 f13' f15 (by omega) (by omega) (by omega)) ?_
    intro u17 e17
    refine HL.still (Runs.load Tryd.underlying5 rfl e17 hct) ?_
    intro u18 e18
    refine HL.still (Runs.assign e18) ?_
    intro u7 e7
    refine HL.nil ?_
    cases ok with
    | false =>
      -- region 5
      repeat refine HW.seq ?_
      refine HW.region ?_
      refine HL.still (Runs.move f5) ?_
      intro u19 e19
      refine HL.still (Runs.notb e19 (t := false) (u := true) rfl) ?_
      intro u20 e20
      refine HL.nil ?_
      repeat refine HW.seq ?_
      refine HW.yes ?_ ?_
      exact e20
      refine HW.exitOut ?_
      have hR := hno rfl
      -- region 8
      repeat refine HW.seq ?_
      refine HW.region ?_
      refine HL.still (Runs.move f5) ?_
      intro u29 e29
      refine HL.still (Runs.notb e29 (t := false) (u := true) rfl) ?_
      intro u30 e30
      refine HL.nil ?_
      repeat refine HW.seq ?_
      refine HW.yes ?_ ?_
      exact e30
      -- region 9
      repeat refine HW.seq ?_
      refine HW.region ?_
      refine HL.still (Runs.assign rfl) ?_
      intro u2 e2
      refine HL.still (Runs.assign rfl) ?_
      intro u3 e3
      refine HL.nil ?_
      refine HW.ret ?_
      exact RT.two rfl e2 e3 ⟨by rw [hR]; rfl, rfl⟩
    | true =>
      have hy := hyes rfl
      rw [goB_step hlt] at hy
      have hcl := (tl.getD k 0).toNat_lt
      -- region 5
      repeat refine HW.seq ?_
      refine HW.region ?_
      refine HL.still (Runs.move f5) ?_
      intro u19 e19
      refine HL.still (Runs.notb e19 (t := true) (u := false) rfl) ?_
      intro u20 e20
      refine HL.nil ?_
      repeat refine HW.seq ?_
      refine HW.no ?_ ?_
      exact e20
      refine HW.skip ?_
      -- region 6
      repeat refine HW.seq ?_
      refine HW.region ?_
      refine HL.still (Runs.move f4) ?_
      intro u22 e22
      refine HL.still (Runs.move e7) ?_
      intro u23 e23
      refine HL.still (Runs.conv Tryd.underlying5 Tryd.underlying3 e23 (i64w (by omega))) ?_
      intro u24 e24
      refine HL.one (HO.call Tryd.func31 bd31 nm31 (args3 e22 rfl e24) rfl ((more_ch _ 8 n (tl.getD k 0).toNat (by decide) hn (by omega) (by omega)).mono ?_))
      rintro _ hq ⟨rfl, hhq⟩
      intro u25 e25
      refine HL.still (Runs.move e25) ?_
      intro u21 e21
      refine HL.still (Runs.extr e21 rfl) ?_
      intro u26 e26
      refine HL.still (Runs.extr e21 rfl) ?_
      intro u27 e27
      refine HL.still (Runs.assign e26) ?_
      intro u4 e4
      refine HL.still (Runs.assign e27) ?_
      intro u5 e5
      refine HL.nil ?_
      -- region 7
      repeat refine HW.seq ?_
      refine HW.region ?_
      refine HL.still (Runs.add f15 rfl (i64w (by omega))) ?_
      intro u28 e28
      refine HL.still (Runs.move e28) ?_
      intro u15 e15
      refine HL.nil ?_
      refine ⟨tl.length - (k + 1), by omega, k + 1, by omega, rfl, e15, f13, f14, _, _, e4, e5, mv_le 8 n _ (by omega), fun q => ?_, fun q => ?_, hhq⟩
      · rw [if_pos q] at hy; exact hy
      · rw [if_neg (by rw [q]; decide)] at hy; exact hy.symm
  · have hkl : k = tl.length := by omega
    subst hkl
    -- region 3
    repeat refine HW.seq ?_
    refine HW.region ?_
    refine HL.still (Runs.lss f15 f14 rfl) ?_
    intro u16 e16
    refine HL.nil ?_
    repeat refine HW.seq ?_
    refine HW.no ?_ ?_
    exact e16.trans (congrArg Value.bool (decide_eq_false (by omega)))
    refine HW.exitHere ?_
    rw [List.drop_of_length_le (Nat.le_refl _)] at hyes
    cases ok with
    | false =>
      have hR := hno rfl
      -- region 8
      repeat refine HW.seq ?_
      refine HW.region ?_
      refine HL.still (Runs.move f5) ?_
      intro u29 e29
      refine HL.still (Runs.notb e29 (t := false) (u := true) rfl) ?_
      intro u30 e30
      refine HL.nil ?_
      repeat refine HW.seq ?_
      refine HW.yes ?_ ?_
      exact e30
      -- region 9
      repeat refine HW.seq ?_
      refine HW.region ?_
      refine HL.still (Runs.assign rfl) ?_
      intro u2 e2
      refine HL.still (Runs.assign rfl) ?_
      intro u3 e3
      refine HL.nil ?_
      refine HW.ret ?_
      exact RT.two rfl e2 e3 ⟨by rw [hR]; rfl, rfl⟩
    | true =>
      have hy := hyes rfl
      -- region 8
      repeat refine HW.seq ?_
      refine HW.region ?_
      refine HL.still (Runs.move f5) ?_
      intro u29 e29
      refine HL.still (Runs.notb e29 (t := true) (u := false) rfl) ?_
      intro u30 e30
      refine HL.nil ?_
      repeat refine HW.seq ?_
      refine HW.no ?_ ?_
      exact e30
      refine HW.skip ?_
      -- region 10
      repeat refine HW.seq ?_
      refine HW.region ?_
      refine HL.still (Runs.move f4) ?_
      intro u31 e31
      refine HL.still (Runs.assign e31) ?_
      intro u2 e2
      refine HL.still (Runs.assign rfl) ?_
      intro u3 e3
      refine HL.nil ?_
      refine HW.ret ?_
      exact RT.two rfl e2 e3 ⟨by rw [← hy]; rfl, rfl⟩
end Go.Proofs.YtfogkggkjmkdiaaDoor
