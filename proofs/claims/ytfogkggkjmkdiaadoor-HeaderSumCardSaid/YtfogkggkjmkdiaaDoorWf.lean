/- onionskinref05.Read: its walk. -/
import Derived.Test.YtfogkggkjmkdiaaDoorWe
namespace Go.Proofs.YtfogkggkjmkdiaaDoor
set_option linter.unnecessarySimpa false
set_option linter.unusedSimpArgs false
set_option linter.unusedVariables false
open Go.RowKit
theorem goB_lo {n : Nat} {c : UInt8} (h : (mv 8 n c.toNat).2 = true) : n ≤ (4611686018427387904 - c.toNat) / 256 ∧ (mv 8 n c.toNat).1 = n * 256 + c.toNat := by
  unfold mv at h ⊢
  split at h
  · cases h
  · rename_i hh
    rw [if_neg hh]
    exact ⟨by simpa using hh, rfl⟩
theorem goB_hi {n : Nat} {c : UInt8} (h : ¬ (mv 8 n c.toNat).2 = true) : (4611686018427387904 - c.toNat) / 256 < n := by
  unfold mv at h
  split at h
  · rename_i hh; simpa using hh
  · exact absurd rfl h
theorem goO_lo {n d : Nat} (h : (mv 3 n d).2 = true) : n ≤ (4611686018427387904 - d) / 8 ∧ (mv 3 n d).1 = n * 8 + d := by
  unfold mv at h ⊢
  split at h
  · cases h
  · rename_i hh
    rw [if_neg hh]
    exact ⟨by simpa using hh, rfl⟩
theorem goO_hi {n d : Nat} (h : ¬ (mv 3 n d).2 = true) : (4611686018427387904 - d) / 8 < n := by
  unfold mv at h
  split at h
  · rename_i hh; simpa using hh
  · exact absurd rfl h
theorem u8_ne {x y : UInt8} (h : x ≠ y) : (x.toNat : Int) ≠ (y.toNat : Int) := fun e => h (UInt8.toNat_inj.1 (by omega))
theorem dw_step {s : List UInt8} {k : Nat} (hk : k < s.length) (h : s.getD k 0 = 32) : (s.drop (k + 1)).dropWhile (· == 32) = (s.drop k).dropWhile (· == 32) := by
  rw [drop_at hk, h]
  simp
theorem dw_stop {s : List UInt8} {k : Nat} (h : k < s.length → s.getD k 0 ≠ 32) : (s.drop k).dropWhile (· == 32) = s.drop k := by
  by_cases hk : k < s.length
  · rw [drop_at hk, List.dropWhile_cons_of_neg (by simpa using h hk)]
  · rw [List.drop_of_length_le (by omega)]
    rfl
set_option maxRecDepth 10000 in
theorem rread_ch (h : Heap) (xs : List UInt8) (a : Option Addr) (cap : Nat) (hsrc : Byt h a xs) (hlen : xs.length < 4611686018427387904) :
    CH Tryd.prog 15 #[.slice a xs.length cap] h fun v h' => v = .tuple #[I64 ((readO xs).1 : Int), .bool (readO xs).2] ∧ h' = h := by
  refine CH.of_body Tryd.func15 rfl rfl rfl ?_
  intro f hf
  have p0 : f 0 = .slice a xs.length cap := by rw [hf]; exact fr0_at rfl
  -- region 0
  repeat refine HW.seq ?_
  refine HW.region ?_
  refine HL.still (Runs.assign rfl) ?_
  intro u2 e2
  refine HL.still (Runs.assign rfl) ?_
  intro u3 e3
  refine HL.nil ?_
  by_cases hn : xs = []
  · subst hn
    -- region 1
    repeat refine HW.seq ?_
    refine HW.region ?_
    refine HL.still (Runs.move p0) ?_
    intro u7 e7
    refine HL.still (Runs.lenSl rfl Tryd.underlying22 e7) ?_
    intro u8 e8
    refine HL.still (Runs.eql e8 rfl (t := true) rfl) ?_
    intro u9 e9
    refine HL.nil ?_
    repeat refine HW.seq ?_
    refine HW.yes ?_ ?_
    exact e9
    -- region 2
    repeat refine HW.seq ?_
    refine HW.region ?_
    refine HL.still (Runs.assign rfl) ?_
    intro u2 e2
    refine HL.still (Runs.assign rfl) ?_
    intro u3 e3
    refine HL.nil ?_
    refine HW.ret ?_
    exact RT.two rfl e2 e3 ⟨rfl, rfl⟩
  have hpos : 0 < xs.length := List.length_pos_iff.2 hn
  obtain ⟨sb, so, ha, hc0⟩ := hsrc.at hpos
  have hc : ∀ k, k < xs.length → cellH h sb (so + k) = some (B8 (xs.getD k 0)) := fun k hk => by
    obtain ⟨sb', so', ha', hc'⟩ := hsrc.at hk
    rw [ha] at ha'
    cases ha'
    exact hc'
  rw [ha] at p0
  -- region 1
  repeat refine HW.seq ?_
  refine HW.region ?_
  refine HL.still (Runs.move p0) ?_
  intro u7 e7
  refine HL.still (Runs.lenSl rfl Tryd.underlying22 e7) ?_
  intro u8 e8
  refine HL.still (Runs.eql e8 rfl (t := false) (by simp; exact hn)) ?_
  intro u9 e9
  refine HL.nil ?_
  repeat refine HW.seq ?_
  refine HW.no ?_ ?_
  exact e9
  refine HW.skip ?_
  -- region 3
  repeat refine HW.seq ?_
  refine HW.region ?_
  refine HL.still (Runs.assign rfl) ?_
  intro u4 e4
  refine HL.nil ?_
  by_cases hbig : 128 ≤ (xs.getD 0 0).toNat
  · have hR : readO xs = binO xs := by unfold readO; rw [if_neg hn, if_pos hbig]
    rw [hR]
    obtain ⟨tl, htl⟩ : ∃ tl, tl = xs.drop 1 := ⟨_, rfl⟩
    have htll : tl.length = xs.length - 1 := by rw [htl]; simp
    have hct : ∀ k, k < tl.length → cellH h sb (so + (k + 1)) = some (B8 (tl.getD k 0)) := fun k hk => by
      rw [hc (k + 1) (by omega), htl]
      simp [List.getD_eq_getElem?_getD, Nat.add_comm]
    -- region 4
    repeat refine HW.seq ?_
    refine HW.region ?_
    refine HL.still (Runs.move p0) ?_
    intro u10 e10
    refine HL.still (Runs.ixSl (o' := so) Tryd.underlying22 sz5 e10 rfl (by omega) (by omega) (by omega)) ?_
    intro u11 e11
    refine HL.still (Runs.load Tryd.underlying5 rfl e11 hc0) ?_
    intro u12 e12
    refine HL.still (Runs.geq e12 rfl (t := true) (decide_eq_true (by omega))) ?_
    intro u13 e13
    refine HL.nil ?_
    repeat refine HW.seq ?_
    refine HW.yes ?_ ?_
    exact e13
    -- region 5
    repeat refine HW.seq ?_
    refine HW.region ?_
    refine HL.still (Runs.assign rfl) ?_
    intro u5 e5
    refine HL.nil ?_
    repeat refine HW.seq ?_
    refine HW.block ?_
    refine HW.loop (fun m f h' => ∃ k : Nat, k ≤ tl.length ∧ m = tl.length - k ∧ f 5 = I64 ((k : Int) + 1) ∧ f 0 = .slice (some ⟨sb, so, none⟩) xs.length cap ∧ ∃ n : Nat, f 4 = I64 (n : Int) ∧ n ≤ 4611686018427387904 ∧ goB n (tl.drop k) = goB 0 tl ∧ h' = h) tl.length
      ⟨0, Nat.zero_le _, rfl, e5, p0, 0, e4, Nat.zero_le _, rfl, rfl⟩ ?_
    rintro m f h' ⟨k, hk, hm, f5, f0, n, f4, hnle, hgo, rfl⟩
    by_cases hlt : k < tl.length
    · have hcl := (tl.getD k 0).toNat_lt
      rw [goB_step hlt] at hgo
      -- region 6
      repeat refine HW.seq ?_
      refine HW.region ?_
      refine HL.still (Runs.move f5) ?_
      intro u14 e14
      refine HL.still (Runs.move f0) ?_
      intro u15 e15
      refine HL.still (Runs.lenSl rfl Tryd.underlying22 e15) ?_
      intro u16 e16
      refine HL.still (Runs.lss e14 e16 rfl) ?_
      intro u17 e17
      refine HL.nil ?_
      repeat refine HW.seq ?_
      refine HW.yes ?_ ?_
      exact e17.trans (congrArg Value.bool (decide_eq_true (by omega)))
      refine HW.skip ?_
      repeat refine HW.seq ?_
      refine HW.block ?_
      by_cases hv : (mv 8 n (tl.getD k 0).toNat).2 = true
      · obtain ⟨h1, h2⟩ := goB_lo hv
        rw [if_pos hv] at hgo
        -- region 8
        repeat refine HW.seq ?_
        refine HW.region ?_
        refine HL.still (Runs.move f4) ?_
        intro u20 e20
        refine HL.still (Runs.move f0) ?_
        intro u21 e21
        refine HL.still (Runs.move f5) ?_
        intro u22 e22
        refine HL.still (Runs.ixSl (o' := so + (k + 1)) Tryd.underlying22 sz5 e21 e22 (by omega) (by omega) (by omega)) ?_
        intro u23 e23
        refine HL.still (Runs.load Tryd.underlying5 rfl e23 (hct k hlt)) ?_
        intro u24 e24
        refine HL.still (Runs.conv Tryd.underlying5 Tryd.underlying3 e24 (i64w (by omega))) ?_
        intro u25 e25
        refine HL.still (Runs.sub rfl e25 (i64w (by omega))) ?_
        intro u26 e26
        refine HL.still (Runs.quo e26 rfl (by decide) (quo64 (by omega) (by decide))) ?_
        intro u27 e27
        refine HL.still (Runs.gtr e20 e27 (t := false) (decide_eq_false (by omega))) ?_
        intro u28 e28
        refine HL.nil ?_
        repeat refine HW.seq ?_
        refine HW.no ?_ ?_
        exact e28
        refine HW.skip ?_
        -- region 10
        repeat refine HW.seq ?_
        refine HW.region ?_
        refine HL.still (Runs.move f4) ?_
        intro u29 e29
        refine HL.still (Runs.mul e29 rfl (i64w (by omega))) ?_
        intro u30 e30
        refine HL.still (Runs.move f0) ?_
        intro u31 e31
        refine HL.still (Runs.move f5) ?_
        intro u32 e32
        refine HL.still (Runs.ixSl (o' := so + (k + 1)) Tryd.underlying22 sz5 e31 e32 (by omega) (by omega) (by omega)) ?_
        intro u33 e33
        refine HL.still (Runs.load Tryd.underlying5 rfl e33 (hct k hlt)) ?_
        intro u34 e34
        refine HL.still (Runs.conv Tryd.underlying5 Tryd.underlying3 e34 (i64w (by omega))) ?_
        intro u35 e35
        refine HL.still (Runs.add e30 e35 (i64w (by omega))) ?_
        intro u36 e36
        refine HL.still (Runs.assign e36) ?_
        intro u4 e4
        refine HL.nil ?_
        -- region 7
        repeat refine HW.seq ?_
        refine HW.region ?_
        refine HL.still (Runs.move f5) ?_
        intro u18 e18
        refine HL.still (Runs.add e18 rfl (i64w (by omega))) ?_
        intro u19 e19
        refine HL.still (Runs.assign e19) ?_
        intro u5 e5
        refine HL.nil ?_
        have hle := mv_le 8 n (tl.getD k 0).toNat (by omega)
        refine ⟨tl.length - (k + 1), by omega, k + 1, by omega, rfl, ?_, f0, _, ?_, hle, hgo, rfl⟩
        · exact e5.trans (congrArg (Value.int .i64) (by omega))
        · exact e4.trans (congrArg (Value.int .i64) (by rw [h2]; omega))
      · have h1 := goB_hi hv
        rw [if_neg hv] at hgo
        -- region 8
        repeat refine HW.seq ?_
        refine HW.region ?_
        refine HL.still (Runs.move f4) ?_
        intro u20 e20
        refine HL.still (Runs.move f0) ?_
        intro u21 e21
        refine HL.still (Runs.move f5) ?_
        intro u22 e22
        refine HL.still (Runs.ixSl (o' := so + (k + 1)) Tryd.underlying22 sz5 e21 e22 (by omega) (by omega) (by omega)) ?_
        intro u23 e23
        refine HL.still (Runs.load Tryd.underlying5 rfl e23 (hct k hlt)) ?_
        intro u24 e24
        refine HL.still (Runs.conv Tryd.underlying5 Tryd.underlying3 e24 (i64w (by omega))) ?_
        intro u25 e25
        refine HL.still (Runs.sub rfl e25 (i64w (by omega))) ?_
        intro u26 e26
        refine HL.still (Runs.quo e26 rfl (by decide) (quo64 (by omega) (by decide))) ?_
        intro u27 e27
        refine HL.still (Runs.gtr e20 e27 (t := true) (decide_eq_true (by omega))) ?_
        intro u28 e28
        refine HL.nil ?_
        repeat refine HW.seq ?_
        refine HW.yes ?_ ?_
        exact e28
        -- region 9
        repeat refine HW.seq ?_
        refine HW.region ?_
        refine HL.still (Runs.assign rfl) ?_
        intro u2 e2
        refine HL.still (Runs.assign rfl) ?_
        intro u3 e3
        refine HL.nil ?_
        refine HW.ret ?_
        have hb : binO xs = (0, false) := by
          unfold binO
          split
          · rw [← htl, ← hgo]
          · rfl
        exact RT.two rfl e2 e3 ⟨by rw [hb]; rfl, rfl⟩
    · have hkl : k = tl.length := by omega
      subst hkl
      rw [List.drop_of_length_le (Nat.le_refl _)] at hgo
      -- region 6
      repeat refine HW.seq ?_
      refine HW.region ?_
      refine HL.still (Runs.move f5) ?_
      intro u14 e14
      refine HL.still (Runs.move f0) ?_
      intro u15 e15
      refine HL.still (Runs.lenSl rfl Tryd.underlying22 e15) ?_
      intro u16 e16
      refine HL.still (Runs.lss e14 e16 rfl) ?_
      intro u17 e17
      refine HL.nil ?_
      repeat refine HW.seq ?_
      refine HW.no ?_ ?_
      exact e17.trans (congrArg Value.bool (decide_eq_false (by omega)))
      refine HW.exitHere ?_
      by_cases h128 : xs.getD 0 0 = 128
      · skip
        -- region 11
        repeat refine HW.seq ?_
        refine HW.region ?_
        refine HL.still (Runs.move f0) ?_
        intro u37 e37
        refine HL.still (Runs.ixSl (o' := so) Tryd.underlying22 sz5 e37 rfl (by omega) (by omega) (by omega)) ?_
        intro u38 e38
        refine HL.still (Runs.load Tryd.underlying5 rfl e38 hc0) ?_
        intro u39 e39
        refine HL.still (Runs.neq e39 rfl (t := false) (by rw [h128]; rfl)) ?_
        intro u40 e40
        refine HL.nil ?_
        repeat refine HW.seq ?_
        refine HW.no ?_ ?_
        exact e40
        refine HW.skip ?_
        -- region 13
        repeat refine HW.seq ?_
        refine HW.region ?_
        refine HL.still (Runs.move f4) ?_
        intro u41 e41
        refine HL.still (Runs.assign e41) ?_
        intro u2 e2
        refine HL.still (Runs.assign rfl) ?_
        intro u3 e3
        refine HL.nil ?_
        refine HW.ret ?_
        refine RT.two rfl e2 e3 ⟨?_, rfl⟩
        unfold binO
        rw [if_pos h128, ← htl, ← hgo]
        rfl
      · have hne : ((xs.getD 0 0).toNat : Int) ≠ 128 := u8_ne (y := 128) h128
        -- region 11
        repeat refine HW.seq ?_
        refine HW.region ?_
        refine HL.still (Runs.move f0) ?_
        intro u37 e37
        refine HL.still (Runs.ixSl (o' := so) Tryd.underlying22 sz5 e37 rfl (by omega) (by omega) (by omega)) ?_
        intro u38 e38
        refine HL.still (Runs.load Tryd.underlying5 rfl e38 hc0) ?_
        intro u39 e39
        refine HL.still (Runs.neq e39 rfl (t := true) (by simpa using hne)) ?_
        intro u40 e40
        refine HL.nil ?_
        repeat refine HW.seq ?_
        refine HW.yes ?_ ?_
        exact e40
        -- region 12
        repeat refine HW.seq ?_
        refine HW.region ?_
        refine HL.still (Runs.assign rfl) ?_
        intro u2 e2
        refine HL.still (Runs.assign rfl) ?_
        intro u3 e3
        refine HL.nil ?_
        refine HW.ret ?_
        refine RT.two rfl e2 e3 ⟨?_, rfl⟩
        unfold binO
        rw [if_neg h128]
        rfl
  have hR : readO xs = refO 0 (xs.dropWhile (· == 32)) := by rw [readO_ref, if_neg hn, if_neg hbig]
  rw [hR]
  obtain ⟨R, hRR⟩ : ∃ R, R = refO 0 (xs.dropWhile (· == 32)) := ⟨_, rfl⟩
  rw [← hRR]
  -- region 4
  repeat refine HW.seq ?_
  refine HW.region ?_
  refine HL.still (Runs.move p0) ?_
  intro u10 e10
  refine HL.still (Runs.ixSl (o' := so) Tryd.underlying22 sz5 e10 rfl (by omega) (by omega) (by omega)) ?_
  intro u11 e11
  refine HL.still (Runs.load Tryd.underlying5 rfl e11 hc0) ?_
  intro u12 e12
  refine HL.still (Runs.geq e12 rfl (t := false) (decide_eq_false (by omega))) ?_
  intro u13 e13
  refine HL.nil ?_
  repeat refine HW.seq ?_
  refine HW.no ?_ ?_
  exact e13
  refine HW.skip ?_
  -- region 14
  repeat refine HW.seq ?_
  refine HW.region ?_
  refine HL.still (Runs.assign rfl) ?_
  intro u6 e6
  refine HL.nil ?_
  repeat refine HW.seq ?_
  refine HW.block ?_
  refine HW.loop (fun m f h' => ∃ k : Nat, k ≤ xs.length ∧ m = xs.length - k ∧ f 6 = I64 k ∧ f 0 = .slice (some ⟨sb, so, none⟩) xs.length cap ∧ f 4 = I64 0 ∧ (xs.drop k).dropWhile (· == 32) = xs.dropWhile (· == 32) ∧ h' = h) xs.length
    ⟨0, Nat.zero_le _, rfl, e6, p0, e4, rfl, rfl⟩ ?_
  clear e4 e6
  rintro m f h' ⟨k, hk, hm, f6, f0, f4, hdw, rfl⟩
  by_cases hsp : k < xs.length ∧ xs.getD k 0 = 32
  · obtain ⟨hlt, h32⟩ := hsp
    -- region 15
    repeat refine HW.seq ?_
    refine HW.region ?_
    refine HL.still (Runs.move f6) ?_
    intro u42 e42
    refine HL.still (Runs.move f0) ?_
    intro u43 e43
    refine HL.still (Runs.lenSl rfl Tryd.underlying22 e43) ?_
    intro u44 e44
    refine HL.still (Runs.lss e42 e44 (t := true) (decide_eq_true (by omega))) ?_
    intro u45 e45
    refine HL.still (Runs.move e45) ?_
    intro u46 e46
    refine HL.stillG rfl rfl e46 (Runs.move f0) ?_
    intro u47 e47
    refine HL.stillG rfl rfl e46 (Runs.move f6) ?_
    intro u48 e48
    refine HL.stillG rfl rfl e46 (Runs.ixSl (o' := so + k) Tryd.underlying22 sz5 e47 e48 (by omega) (by omega) (by omega)) ?_
    intro u49 e49
    refine HL.stillG rfl rfl e46 (Runs.load Tryd.underlying5 rfl e49 (hc k hlt)) ?_
    intro u50 e50
    refine HL.stillG rfl rfl e46 (Runs.eql e50 rfl (t := true) (by rw [h32]; rfl)) ?_
    intro u51 e51
    refine HL.still (Runs.pick e46 e51) ?_
    intro u52 e52
    refine HL.nil ?_
    repeat refine HW.seq ?_
    refine HW.yes ?_ ?_
    exact e52
    refine HW.skip ?_
    repeat refine HW.seq ?_
    refine HW.block ?_
    -- region 16
    repeat refine HW.seq ?_
    refine HW.region ?_
    refine HL.still (Runs.move f6) ?_
    intro u53 e53
    refine HL.still (Runs.add e53 rfl (i64w (by omega))) ?_
    intro u54 e54
    refine HL.still (Runs.assign e54) ?_
    intro u6 e6
    refine HL.nil ?_
    exact ⟨xs.length - (k + 1), by omega, k + 1, by omega, rfl, e6, f0, f4, (dw_step hlt h32).trans hdw, rfl⟩
  have hstop : k < xs.length → xs.getD k 0 ≠ 32 := fun h1 h2 => hsp ⟨h1, h2⟩
  rw [dw_stop hstop] at hdw
  rw [← hdw] at hRR
  refine HW.seq ?_
  refine HW.seq ?_
  refine HW.mono (N := fun f' g => g = h' ∧ f' 52 = .bool false ∧ f' 6 = I64 k ∧ f' 0 = .slice (some ⟨sb, so, none⟩) xs.length cap ∧ f' 4 = I64 0) ?_ ?_ (fun _ _ _ h => h) (fun _ _ h => h)
  · by_cases hlt : k < xs.length
    · have hne : ((xs.getD k 0).toNat : Int) ≠ 32 := u8_ne (y := 32) (hstop hlt)
      -- region 15
      repeat refine HW.seq ?_
      refine HW.region ?_
      refine HL.still (Runs.move f6) ?_
      intro u42 e42
      refine HL.still (Runs.move f0) ?_
      intro u43 e43
      refine HL.still (Runs.lenSl rfl Tryd.underlying22 e43) ?_
      intro u44 e44
      refine HL.still (Runs.lss e42 e44 (t := true) (decide_eq_true (by omega))) ?_
      intro u45 e45
      refine HL.still (Runs.move e45) ?_
      intro u46 e46
      refine HL.stillG rfl rfl e46 (Runs.move f0) ?_
      intro u47 e47
      refine HL.stillG rfl rfl e46 (Runs.move f6) ?_
      intro u48 e48
      refine HL.stillG rfl rfl e46 (Runs.ixSl (o' := so + k) Tryd.underlying22 sz5 e47 e48 (by omega) (by omega) (by omega)) ?_
      intro u49 e49
      refine HL.stillG rfl rfl e46 (Runs.load Tryd.underlying5 rfl e49 (hc k hlt)) ?_
      intro u50 e50
      refine HL.stillG rfl rfl e46 (Runs.eql e50 rfl (t := false) (by simpa using hne)) ?_
      intro u51 e51
      refine HL.still (Runs.pick e46 e51) ?_
      intro u52 e52
      refine HL.nil ?_
      exact ⟨rfl, e52, f6, f0, f4⟩
    · skip
      -- region 15
      repeat refine HW.seq ?_
      refine HW.region ?_
      refine HL.still (Runs.move f6) ?_
      intro u42 e42
      refine HL.still (Runs.move f0) ?_
      intro u43 e43
      refine HL.still (Runs.lenSl rfl Tryd.underlying22 e43) ?_
      intro u44 e44
      refine HL.still (Runs.lss e42 e44 (t := false) (decide_eq_false (by omega))) ?_
      intro u45 e45
      refine HL.still (Runs.move e45) ?_
      intro u46 e46
      refine HL.skipG rfl rfl e46 ?_
      intro u47 e47
      refine HL.skipG rfl rfl e46 ?_
      intro u48 e48
      refine HL.skipG rfl rfl e46 ?_
      intro u49 e49
      refine HL.skipG rfl rfl e46 ?_
      intro u50 e50
      refine HL.skipG rfl rfl e46 ?_
      intro u51 e51
      refine HL.still (Runs.pick e46 rfl) ?_
      intro u52 e52
      refine HL.nil ?_
      exact ⟨rfl, e52, f6, f0, f4⟩
  clear f6 f0 f4
  rintro f g ⟨rfl, e52, f6, f0, f4⟩
  repeat refine HW.seq ?_
  refine HW.no ?_ ?_
  exact e52
  refine HW.exitHere ?_
  clear hdw hstop hsp hm
  repeat refine HW.seq ?_
  refine HW.block ?_
  refine HW.loop (fun m f h' => ∃ k : Nat, k ≤ xs.length ∧ m = xs.length - k ∧ f 6 = I64 k ∧ f 0 = .slice (some ⟨sb, so, none⟩) xs.length cap ∧ ∃ n : Nat, f 4 = I64 (n : Int) ∧ n ≤ 4611686018427387904 ∧ R = refO n (xs.drop k) ∧ h' = g) (xs.length - k)
    ⟨k, hk, rfl, f6, f0, 0, f4, Nat.zero_le _, hRR, rfl⟩ ?_
  clear hRR hk f6 f0 f4 e52
  clear k
  rintro m f h' ⟨k, hk, hm, f6, f0, n, f4, hnle, hRR, rfl⟩
  by_cases hdg : k < xs.length ∧ isO (xs.getD k 0) = true
  · obtain ⟨hlt, ho⟩ := hdg
    have hoo := of_decide_eq_true ho
    rw [refO_step hlt ho] at hRR
    -- region 17
    repeat refine HW.seq ?_
    refine HW.region ?_
    refine HL.still (Runs.move f6) ?_
    intro u55 e55
    refine HL.still (Runs.move f0) ?_
    intro u56 e56
    refine HL.still (Runs.lenSl rfl Tryd.underlying22 e56) ?_
    intro u57 e57
    refine HL.still (Runs.lss e55 e57 (t := true) (decide_eq_true (by omega))) ?_
    intro u58 e58
    refine HL.still (Runs.move e58) ?_
    intro u59 e59
    refine HL.stillG rfl rfl e59 (Runs.move f0) ?_
    intro u60 e60
    refine HL.stillG rfl rfl e59 (Runs.move f6) ?_
    intro u61 e61
    refine HL.stillG rfl rfl e59 (Runs.ixSl (o' := so + k) Tryd.underlying22 sz5 e60 e61 (by omega) (by omega) (by omega)) ?_
    intro u62 e62
    refine HL.stillG rfl rfl e59 (Runs.load Tryd.underlying5 rfl e62 (hc k hlt)) ?_
    intro u63 e63
    refine HL.stillG rfl rfl e59 (Runs.geq e63 rfl (t := true) (decide_eq_true (by omega))) ?_
    intro u64 e64
    refine HL.still (Runs.pick e59 e64) ?_
    intro u65 e65
    refine HL.still (Runs.move e65) ?_
    intro u66 e66
    refine HL.stillG rfl rfl e66 (Runs.move f0) ?_
    intro u67 e67
    refine HL.stillG rfl rfl e66 (Runs.move f6) ?_
    intro u68 e68
    refine HL.stillG rfl rfl e66 (Runs.ixSl (o' := so + k) Tryd.underlying22 sz5 e67 e68 (by omega) (by omega) (by omega)) ?_
    intro u69 e69
    refine HL.stillG rfl rfl e66 (Runs.load Tryd.underlying5 rfl e69 (hc k hlt)) ?_
    intro u70 e70
    refine HL.stillG rfl rfl e66 (Runs.leq e70 rfl (t := true) (decide_eq_true (by omega))) ?_
    intro u71 e71
    refine HL.still (Runs.pick e66 e71) ?_
    intro u72 e72
    refine HL.nil ?_
    repeat refine HW.seq ?_
    refine HW.yes ?_ ?_
    exact e72
    refine HW.skip ?_
    repeat refine HW.seq ?_
    refine HW.block ?_
    by_cases hv : (mv 3 n ((xs.getD k 0).toNat - 48)).2 = true
    · obtain ⟨h1, h2⟩ := goO_lo hv
      rw [if_pos hv] at hRR
      -- region 18
      repeat refine HW.seq ?_
      refine HW.region ?_
      refine HL.still (Runs.move f4) ?_
      intro u73 e73
      refine HL.still (Runs.move f0) ?_
      intro u74 e74
      refine HL.still (Runs.move f6) ?_
      intro u75 e75
      refine HL.still (Runs.ixSl (o' := so + k) Tryd.underlying22 sz5 e74 e75 (by omega) (by omega) (by omega)) ?_
      intro u76 e76
      refine HL.still (Runs.load Tryd.underlying5 rfl e76 (hc k hlt)) ?_
      intro u77 e77
      refine HL.still (Runs.sub e77 rfl (u8w (by omega))) ?_
      intro u78 e78
      refine HL.still (Runs.conv Tryd.underlying5 Tryd.underlying3 e78 (i64w (by omega))) ?_
      intro u79 e79
      refine HL.still (Runs.sub rfl e79 (i64w (by omega))) ?_
      intro u80 e80
      refine HL.still (Runs.quo e80 rfl (by decide) (quo64 (by omega) (by decide))) ?_
      intro u81 e81
      refine HL.still (Runs.gtr e73 e81 (t := false) (decide_eq_false (by omega))) ?_
      intro u82 e82
      refine HL.nil ?_
      repeat refine HW.seq ?_
      refine HW.no ?_ ?_
      exact e82
      refine HW.skip ?_
      -- region 20
      repeat refine HW.seq ?_
      refine HW.region ?_
      refine HL.still (Runs.move f4) ?_
      intro u83 e83
      refine HL.still (Runs.mul e83 rfl (i64w (by omega))) ?_
      intro u84 e84
      refine HL.still (Runs.move f0) ?_
      intro u85 e85
      refine HL.still (Runs.move f6) ?_
      intro u86 e86
      refine HL.still (Runs.ixSl (o' := so + k) Tryd.underlying22 sz5 e85 e86 (by omega) (by omega) (by omega)) ?_
      intro u87 e87
      refine HL.still (Runs.load Tryd.underlying5 rfl e87 (hc k hlt)) ?_
      intro u88 e88
      refine HL.still (Runs.sub e88 rfl (u8w (by omega))) ?_
      intro u89 e89
      refine HL.still (Runs.conv Tryd.underlying5 Tryd.underlying3 e89 (i64w (by omega))) ?_
      intro u90 e90
      refine HL.still (Runs.add e84 e90 (i64w (by omega))) ?_
      intro u91 e91
      refine HL.still (Runs.assign e91) ?_
      intro u4 e4
      refine HL.nil ?_
      -- region 21
      repeat refine HW.seq ?_
      refine HW.region ?_
      refine HL.still (Runs.move f6) ?_
      intro u92 e92
      refine HL.still (Runs.add e92 rfl (i64w (by omega))) ?_
      intro u93 e93
      refine HL.still (Runs.assign e93) ?_
      intro u6 e6
      refine HL.nil ?_
      have hle := mv_le 3 n ((xs.getD k 0).toNat - 48) (by omega)
      refine ⟨xs.length - (k + 1), by omega, k + 1, by omega, rfl, e6, f0, _, ?_, hle, hRR, rfl⟩
      exact e4.trans (congrArg (Value.int .i64) (by rw [h2]; omega))
    · have h1 := goO_hi hv
      rw [if_neg hv] at hRR
      -- region 18
      repeat refine HW.seq ?_
      refine HW.region ?_
      refine HL.still (Runs.move f4) ?_
      intro u73 e73
      refine HL.still (Runs.move f0) ?_
      intro u74 e74
      refine HL.still (Runs.move f6) ?_
      intro u75 e75
      refine HL.still (Runs.ixSl (o' := so + k) Tryd.underlying22 sz5 e74 e75 (by omega) (by omega) (by omega)) ?_
      intro u76 e76
      refine HL.still (Runs.load Tryd.underlying5 rfl e76 (hc k hlt)) ?_
      intro u77 e77
      refine HL.still (Runs.sub e77 rfl (u8w (by omega))) ?_
      intro u78 e78
      refine HL.still (Runs.conv Tryd.underlying5 Tryd.underlying3 e78 (i64w (by omega))) ?_
      intro u79 e79
      refine HL.still (Runs.sub rfl e79 (i64w (by omega))) ?_
      intro u80 e80
      refine HL.still (Runs.quo e80 rfl (by decide) (quo64 (by omega) (by decide))) ?_
      intro u81 e81
      refine HL.still (Runs.gtr e73 e81 (t := true) (decide_eq_true (by omega))) ?_
      intro u82 e82
      refine HL.nil ?_
      repeat refine HW.seq ?_
      refine HW.yes ?_ ?_
      exact e82
      -- region 19
      repeat refine HW.seq ?_
      refine HW.region ?_
      refine HL.still (Runs.assign rfl) ?_
      intro u2 e2
      refine HL.still (Runs.assign rfl) ?_
      intro u3 e3
      refine HL.nil ?_
      refine HW.ret ?_
      exact RT.two rfl e2 e3 ⟨by rw [hRR]; rfl, rfl⟩
  have hstop : k < xs.length → isO (xs.getD k 0) = false := fun h1 => by
    cases ho : isO (xs.getD k 0) with
    | false => rfl
    | true => exact absurd ⟨h1, ho⟩ hdg
  rw [refO_end hstop] at hRR
  refine HW.seq ?_
  refine HW.seq ?_
  refine HW.mono (N := fun f' g => g = h' ∧ f' 72 = .bool false ∧ f' 6 = I64 k ∧ f' 0 = .slice (some ⟨sb, so, none⟩) xs.length cap ∧ f' 4 = I64 (n : Int)) ?_ ?_ (fun _ _ _ h => h) (fun _ _ h => h)
  · by_cases hlt : k < xs.length
    · have hno := of_decide_eq_false (hstop hlt)
      by_cases hlo : 48 ≤ (xs.getD k 0).toNat
      · skip
        -- region 17
        repeat refine HW.seq ?_
        refine HW.region ?_
        refine HL.still (Runs.move f6) ?_
        intro u55 e55
        refine HL.still (Runs.move f0) ?_
        intro u56 e56
        refine HL.still (Runs.lenSl rfl Tryd.underlying22 e56) ?_
        intro u57 e57
        refine HL.still (Runs.lss e55 e57 (t := true) (decide_eq_true (by omega))) ?_
        intro u58 e58
        refine HL.still (Runs.move e58) ?_
        intro u59 e59
        refine HL.stillG rfl rfl e59 (Runs.move f0) ?_
        intro u60 e60
        refine HL.stillG rfl rfl e59 (Runs.move f6) ?_
        intro u61 e61
        refine HL.stillG rfl rfl e59 (Runs.ixSl (o' := so + k) Tryd.underlying22 sz5 e60 e61 (by omega) (by omega) (by omega)) ?_
        intro u62 e62
        refine HL.stillG rfl rfl e59 (Runs.load Tryd.underlying5 rfl e62 (hc k hlt)) ?_
        intro u63 e63
        refine HL.stillG rfl rfl e59 (Runs.geq e63 rfl (t := true) (decide_eq_true (by omega))) ?_
        intro u64 e64
        refine HL.still (Runs.pick e59 e64) ?_
        intro u65 e65
        refine HL.still (Runs.move e65) ?_
        intro u66 e66
        refine HL.stillG rfl rfl e66 (Runs.move f0) ?_
        intro u67 e67
        refine HL.stillG rfl rfl e66 (Runs.move f6) ?_
        intro u68 e68
        refine HL.stillG rfl rfl e66 (Runs.ixSl (o' := so + k) Tryd.underlying22 sz5 e67 e68 (by omega) (by omega) (by omega)) ?_
        intro u69 e69
        refine HL.stillG rfl rfl e66 (Runs.load Tryd.underlying5 rfl e69 (hc k hlt)) ?_
        intro u70 e70
        refine HL.stillG rfl rfl e66 (Runs.leq e70 rfl (t := false) (decide_eq_false (by omega))) ?_
        intro u71 e71
        refine HL.still (Runs.pick e66 e71) ?_
        intro u72 e72
        refine HL.nil ?_
        exact ⟨rfl, e72, f6, f0, f4⟩
      · skip
        -- region 17
        repeat refine HW.seq ?_
        refine HW.region ?_
        refine HL.still (Runs.move f6) ?_
        intro u55 e55
        refine HL.still (Runs.move f0) ?_
        intro u56 e56
        refine HL.still (Runs.lenSl rfl Tryd.underlying22 e56) ?_
        intro u57 e57
        refine HL.still (Runs.lss e55 e57 (t := true) (decide_eq_true (by omega))) ?_
        intro u58 e58
        refine HL.still (Runs.move e58) ?_
        intro u59 e59
        refine HL.stillG rfl rfl e59 (Runs.move f0) ?_
        intro u60 e60
        refine HL.stillG rfl rfl e59 (Runs.move f6) ?_
        intro u61 e61
        refine HL.stillG rfl rfl e59 (Runs.ixSl (o' := so + k) Tryd.underlying22 sz5 e60 e61 (by omega) (by omega) (by omega)) ?_
        intro u62 e62
        refine HL.stillG rfl rfl e59 (Runs.load Tryd.underlying5 rfl e62 (hc k hlt)) ?_
        intro u63 e63
        refine HL.stillG rfl rfl e59 (Runs.geq e63 rfl (t := false) (decide_eq_false (by omega))) ?_
        intro u64 e64
        refine HL.still (Runs.pick e59 e64) ?_
        intro u65 e65
        refine HL.still (Runs.move e65) ?_
        intro u66 e66
        refine HL.skipG rfl rfl e66 ?_
        intro u67 e67
        refine HL.skipG rfl rfl e66 ?_
        intro u68 e68
        refine HL.skipG rfl rfl e66 ?_
        intro u69 e69
        refine HL.skipG rfl rfl e66 ?_
        intro u70 e70
        refine HL.skipG rfl rfl e66 ?_
        intro u71 e71
        refine HL.still (Runs.pick e66 rfl) ?_
        intro u72 e72
        refine HL.nil ?_
        exact ⟨rfl, e72, f6, f0, f4⟩
    · skip
      -- region 17
      repeat refine HW.seq ?_
      refine HW.region ?_
      refine HL.still (Runs.move f6) ?_
      intro u55 e55
      refine HL.still (Runs.move f0) ?_
      intro u56 e56
      refine HL.still (Runs.lenSl rfl Tryd.underlying22 e56) ?_
      intro u57 e57
      refine HL.still (Runs.lss e55 e57 (t := false) (decide_eq_false (by omega))) ?_
      intro u58 e58
      refine HL.still (Runs.move e58) ?_
      intro u59 e59
      refine HL.skipG rfl rfl e59 ?_
      intro u60 e60
      refine HL.skipG rfl rfl e59 ?_
      intro u61 e61
      refine HL.skipG rfl rfl e59 ?_
      intro u62 e62
      refine HL.skipG rfl rfl e59 ?_
      intro u63 e63
      refine HL.skipG rfl rfl e59 ?_
      intro u64 e64
      refine HL.still (Runs.pick e59 rfl) ?_
      intro u65 e65
      refine HL.still (Runs.move e65) ?_
      intro u66 e66
      refine HL.skipG rfl rfl e66 ?_
      intro u67 e67
      refine HL.skipG rfl rfl e66 ?_
      intro u68 e68
      refine HL.skipG rfl rfl e66 ?_
      intro u69 e69
      refine HL.skipG rfl rfl e66 ?_
      intro u70 e70
      refine HL.skipG rfl rfl e66 ?_
      intro u71 e71
      refine HL.still (Runs.pick e66 rfl) ?_
      intro u72 e72
      refine HL.nil ?_
      exact ⟨rfl, e72, f6, f0, f4⟩
  clear f6 f0 f4
  rintro f g ⟨rfl, e72, f6, f0, f4⟩
  repeat refine HW.seq ?_
  refine HW.no ?_ ?_
  exact e72
  refine HW.exitHere ?_
  clear hstop hdg hm
  repeat refine HW.seq ?_
  refine HW.block ?_
  refine HW.loop (fun m f h' => ∃ k : Nat, k ≤ xs.length ∧ m = xs.length - k ∧ f 6 = I64 k ∧ f 0 = .slice (some ⟨sb, so, none⟩) xs.length cap ∧ f 4 = I64 (n : Int) ∧ (R = if (xs.drop k).all isPad = true then (n, true) else (0, false)) ∧ h' = g) (xs.length - k)
    ⟨k, hk, rfl, f6, f0, f4, hRR, rfl⟩ ?_
  clear hRR hk f6 f0 f4 e72
  clear k
  rintro m f h' ⟨k, hk, hm, f6, f0, f4, hRR, rfl⟩
  by_cases hlt : k < xs.length
  · rw [drop_at hlt, List.all_cons] at hRR
    -- region 22
    repeat refine HW.seq ?_
    refine HW.region ?_
    refine HL.still (Runs.move f6) ?_
    intro u94 e94
    refine HL.still (Runs.move f0) ?_
    intro u95 e95
    refine HL.still (Runs.lenSl rfl Tryd.underlying22 e95) ?_
    intro u96 e96
    refine HL.still (Runs.lss e94 e96 rfl) ?_
    intro u97 e97
    refine HL.nil ?_
    repeat refine HW.seq ?_
    refine HW.yes ?_ ?_
    exact e97.trans (congrArg Value.bool (decide_eq_true (by omega)))
    refine HW.skip ?_
    repeat refine HW.seq ?_
    refine HW.block ?_
    by_cases h0 : xs.getD k 0 = 0
    · rw [show isPad (xs.getD k 0) = true by rw [h0]; rfl, Bool.true_and] at hRR
      -- region 23
      repeat refine HW.seq ?_
      refine HW.region ?_
      refine HL.still (Runs.move f0) ?_
      intro u98 e98
      refine HL.still (Runs.move f6) ?_
      intro u99 e99
      refine HL.still (Runs.ixSl (o' := so + k) Tryd.underlying22 sz5 e98 e99 (by omega) (by omega) (by omega)) ?_
      intro u100 e100
      refine HL.still (Runs.load Tryd.underlying5 rfl e100 (hc k hlt)) ?_
      intro u101 e101
      refine HL.still (Runs.neq e101 rfl (t := false) (by rw [h0]; rfl)) ?_
      intro u102 e102
      refine HL.still (Runs.move e102) ?_
      intro u103 e103
      refine HL.skipG rfl rfl e103 ?_
      intro u104 e104
      refine HL.skipG rfl rfl e103 ?_
      intro u105 e105
      refine HL.skipG rfl rfl e103 ?_
      intro u106 e106
      refine HL.skipG rfl rfl e103 ?_
      intro u107 e107
      refine HL.skipG rfl rfl e103 ?_
      intro u108 e108
      refine HL.still (Runs.pick e103 rfl) ?_
      intro u109 e109
      refine HL.nil ?_
      repeat refine HW.seq ?_
      refine HW.no ?_ ?_
      exact e109
      refine HW.skip ?_
      -- region 25
      repeat refine HW.seq ?_
      refine HW.region ?_
      refine HL.still (Runs.move f6) ?_
      intro u110 e110
      refine HL.still (Runs.add e110 rfl (i64w (by omega))) ?_
      intro u111 e111
      refine HL.still (Runs.assign e111) ?_
      intro u6 e6
      refine HL.nil ?_
      exact ⟨xs.length - (k + 1), by omega, k + 1, by omega, rfl, e6, f0, f4, hRR, rfl⟩
    · have hne0 : ((xs.getD k 0).toNat : Int) ≠ 0 := u8_ne (y := 0) h0
      by_cases h32 : xs.getD k 0 = 32
      · rw [show isPad (xs.getD k 0) = true by rw [h32]; rfl, Bool.true_and] at hRR
        -- region 23
        repeat refine HW.seq ?_
        refine HW.region ?_
        refine HL.still (Runs.move f0) ?_
        intro u98 e98
        refine HL.still (Runs.move f6) ?_
        intro u99 e99
        refine HL.still (Runs.ixSl (o' := so + k) Tryd.underlying22 sz5 e98 e99 (by omega) (by omega) (by omega)) ?_
        intro u100 e100
        refine HL.still (Runs.load Tryd.underlying5 rfl e100 (hc k hlt)) ?_
        intro u101 e101
        refine HL.still (Runs.neq e101 rfl (t := true) (by simpa using hne0)) ?_
        intro u102 e102
        refine HL.still (Runs.move e102) ?_
        intro u103 e103
        refine HL.stillG rfl rfl e103 (Runs.move f0) ?_
        intro u104 e104
        refine HL.stillG rfl rfl e103 (Runs.move f6) ?_
        intro u105 e105
        refine HL.stillG rfl rfl e103 (Runs.ixSl (o' := so + k) Tryd.underlying22 sz5 e104 e105 (by omega) (by omega) (by omega)) ?_
        intro u106 e106
        refine HL.stillG rfl rfl e103 (Runs.load Tryd.underlying5 rfl e106 (hc k hlt)) ?_
        intro u107 e107
        refine HL.stillG rfl rfl e103 (Runs.neq e107 rfl (t := false) (by rw [h32]; rfl)) ?_
        intro u108 e108
        refine HL.still (Runs.pick e103 e108) ?_
        intro u109 e109
        refine HL.nil ?_
        repeat refine HW.seq ?_
        refine HW.no ?_ ?_
        exact e109
        refine HW.skip ?_
        -- region 25
        repeat refine HW.seq ?_
        refine HW.region ?_
        refine HL.still (Runs.move f6) ?_
        intro u110 e110
        refine HL.still (Runs.add e110 rfl (i64w (by omega))) ?_
        intro u111 e111
        refine HL.still (Runs.assign e111) ?_
        intro u6 e6
        refine HL.nil ?_
        exact ⟨xs.length - (k + 1), by omega, k + 1, by omega, rfl, e6, f0, f4, hRR, rfl⟩
      · have hne32 : ((xs.getD k 0).toNat : Int) ≠ 32 := u8_ne (y := 32) h32
        have hpf : isPad (xs.getD k 0) = false := by
          unfold isPad
          rw [beq_eq_false_iff_ne.2 h32, beq_eq_false_iff_ne.2 h0]
          rfl
        rw [hpf, Bool.false_and, if_neg (by decide)] at hRR
        -- region 23
        repeat refine HW.seq ?_
        refine HW.region ?_
        refine HL.still (Runs.move f0) ?_
        intro u98 e98
        refine HL.still (Runs.move f6) ?_
        intro u99 e99
        refine HL.still (Runs.ixSl (o' := so + k) Tryd.underlying22 sz5 e98 e99 (by omega) (by omega) (by omega)) ?_
        intro u100 e100
        refine HL.still (Runs.load Tryd.underlying5 rfl e100 (hc k hlt)) ?_
        intro u101 e101
        refine HL.still (Runs.neq e101 rfl (t := true) (by simpa using hne0)) ?_
        intro u102 e102
        refine HL.still (Runs.move e102) ?_
        intro u103 e103
        refine HL.stillG rfl rfl e103 (Runs.move f0) ?_
        intro u104 e104
        refine HL.stillG rfl rfl e103 (Runs.move f6) ?_
        intro u105 e105
        refine HL.stillG rfl rfl e103 (Runs.ixSl (o' := so + k) Tryd.underlying22 sz5 e104 e105 (by omega) (by omega) (by omega)) ?_
        intro u106 e106
        refine HL.stillG rfl rfl e103 (Runs.load Tryd.underlying5 rfl e106 (hc k hlt)) ?_
        intro u107 e107
        refine HL.stillG rfl rfl e103 (Runs.neq e107 rfl (t := true) (by simpa using hne32)) ?_
        intro u108 e108
        refine HL.still (Runs.pick e103 e108) ?_
        intro u109 e109
        refine HL.nil ?_
        repeat refine HW.seq ?_
        refine HW.yes ?_ ?_
        exact e109
        -- region 24
        repeat refine HW.seq ?_
        refine HW.region ?_
        refine HL.still (Runs.assign rfl) ?_
        intro u2 e2
        refine HL.still (Runs.assign rfl) ?_
        intro u3 e3
        refine HL.nil ?_
        refine HW.ret ?_
        exact RT.two rfl e2 e3 ⟨by rw [hRR]; rfl, rfl⟩
  · rw [List.drop_of_length_le (by omega)] at hRR
    -- region 22
    repeat refine HW.seq ?_
    refine HW.region ?_
    refine HL.still (Runs.move f6) ?_
    intro u94 e94
    refine HL.still (Runs.move f0) ?_
    intro u95 e95
    refine HL.still (Runs.lenSl rfl Tryd.underlying22 e95) ?_
    intro u96 e96
    refine HL.still (Runs.lss e94 e96 rfl) ?_
    intro u97 e97
    refine HL.nil ?_
    repeat refine HW.seq ?_
    refine HW.no ?_ ?_
    exact e97.trans (congrArg Value.bool (decide_eq_false (by omega)))
    refine HW.exitHere ?_
    -- region 26
    repeat refine HW.seq ?_
    refine HW.region ?_
    refine HL.still (Runs.move f4) ?_
    intro u112 e112
    refine HL.still (Runs.assign e112) ?_
    intro u2 e2
    refine HL.still (Runs.assign rfl) ?_
    intro u3 e3
    refine HL.nil ?_
    refine HW.ret ?_
    exact RT.two rfl e2 e3 ⟨by rw [hRR]; rfl, rfl⟩
end Go.Proofs.YtfogkggkjmkdiaaDoor
