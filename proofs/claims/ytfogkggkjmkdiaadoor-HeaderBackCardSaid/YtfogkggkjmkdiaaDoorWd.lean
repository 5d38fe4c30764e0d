/- octal.Read. -/
import Derived.Test.YtfogkggkjmkdiaaDoorWc
namespace Go.Proofs.YtfogkggkjmkdiaaDoor
set_option linter.unnecessarySimpa false
set_option linter.unusedSimpArgs false
set_option linter.unusedVariables false
open Go.RowKit
def isO (c : UInt8) : Bool := decide (48 ≤ c.toNat ∧ c.toNat ≤ 55)
theorem isO_no {c : UInt8} (h : ¬(48 ≤ c.toNat ∧ c.toNat ≤ 55)) : isO c = false := decide_eq_false h
theorem isO_yes {c : UInt8} (h : 48 ≤ c.toNat ∧ c.toNat ≤ 55) : isO c = true := decide_eq_true h
/-- The number of octal digits. -/
def goO : Nat → List UInt8 → Nat × Bool
  | n, [] => (n, true)
  | n, c :: s => if isO c = true then (if (mv 3 n (c.toNat - 48)).2 = true then goO (mv 3 n (c.toNat - 48)).1 s else (0, false)) else (0, false)
/-- What a field is read as. -/
def readO (f : List UInt8) : Nat × Bool :=
  if f = [] then (0, false) else if 128 ≤ (f.getD 0 0).toNat then binO f else goO 0 (cutR isPad (f.dropWhile (· == 32)))
theorem cutR_len (p : UInt8 → Bool) (s : List UInt8) : (cutR p s).length ≤ s.length := by
  unfold cutR
  rw [List.length_reverse]
  have := (List.dropWhile_sublist p (l := s.reverse)).length_le
  simpa using this
theorem goO_step {n : Nat} {s : List UInt8} {k : Nat} (hk : k < s.length) : goO n (s.drop k) = if isO (s.getD k 0) = true then (if (mv 3 n ((s.getD k 0).toNat - 48)).2 = true then goO (mv 3 n ((s.getD k 0).toNat - 48)).1 (s.drop (k + 1)) else (0, false)) else (0, false) := by
  rw [drop_at hk, goO]
set_option maxRecDepth 10000 in
theorem read_ch (h : Heap) (xs : List UInt8) (a : Option Addr) (cap : Nat) (hsrc : Byt h a xs) (hcap : xs.length ≤ cap) (hlen : xs.length < 4611686018427387904) :
    CH Tryd.prog 14 #[.slice a xs.length cap] h fun v h' => v = .tuple #[I64 ((readO xs).1 : Int), .bool (readO xs).2] ∧ Ext h h' := by
  refine CH.of_body Tryd.func14 rfl rfl rfl ?_
  intro f hf
  have p0 : f 0 = .slice a xs.length cap := by rw [hf]; exact fr0_at rfl
  -- region 0
  repeat refine HW.seq ?_
  refine HW.region ?_
  refine HL.still (Runs.assign rfl) ?_
  intro u2 e2
  refine HL.still (Runs.assign rfl) ?_
  intro u3 e3
  refine HL.nil ?_
  repeat refine HW.seq ?_
  refine HW.block ?_
  by_cases hn : xs = []
  · subst hn
    -- region 1
    repeat refine HW.seq ?_
    refine HW.region ?_
    refine HL.still (Runs.move p0) ?_
    intro u9 e9
    refine HL.still (Runs.lenSl rfl Tryd.underlying22 e9) ?_
    intro u10 e10
    refine HL.still (Runs.eql e10 rfl (t := true) rfl) ?_
    intro u11 e11
    refine HL.still (Runs.assign e11) ?_
    intro u8 e8
    refine HL.nil ?_
    repeat refine HW.seq ?_
    refine HW.yes ?_ ?_
    exact e8
    -- region 2
    repeat refine HW.seq ?_
    refine HW.region ?_
    refine HL.still (Runs.assign rfl) ?_
    intro u2 e2
    refine HL.still (Runs.assign rfl) ?_
    intro u3 e3
    refine HL.nil ?_
    refine HW.ret ?_
    exact RT.two rfl e2 e3 ⟨rfl, Bel.refl _ _⟩
  · have hpos : 0 < xs.length := List.length_pos_iff.2 hn
    obtain ⟨sb, so, ha, hc0⟩ := hsrc.at hpos
    have p0' := p0
    rw [ha] at p0'
    -- region 1
    repeat refine HW.seq ?_
    refine HW.region ?_
    refine HL.still (Runs.move p0) ?_
    intro u9 e9
    refine HL.still (Runs.lenSl rfl Tryd.underlying22 e9) ?_
    intro u10 e10
    refine HL.still (Runs.eql e10 rfl (t := false) (by simp; exact hn)) ?_
    intro u11 e11
    refine HL.still (Runs.assign e11) ?_
    intro u8 e8
    refine HL.nil ?_
    repeat refine HW.seq ?_
    refine HW.no ?_ ?_
    exact e8
    by_cases hbig : 128 ≤ (xs.getD 0 0).toNat
    · skip
      -- region 3
      repeat refine HW.seq ?_
      refine HW.region ?_
      refine HL.still (Runs.move p0') ?_
      intro u13 e13
      refine HL.still (Runs.ixSl (o' := so) Tryd.underlying22 sz5 e13 rfl (by omega) (by omega) (by omega)) ?_
      intro u14 e14
      refine HL.still (Runs.load Tryd.underlying5 rfl e14 hc0) ?_
      intro u15 e15
      refine HL.still (Runs.geq e15 rfl (t := true) (decide_eq_true (by omega))) ?_
      intro u16 e16
      refine HL.still (Runs.assign e16) ?_
      intro u12 e12
      refine HL.nil ?_
      repeat refine HW.seq ?_
      refine HW.yes ?_ ?_
      exact e12
      -- region 4
      repeat refine HW.seq ?_
      refine HW.region ?_
      refine HL.still (Runs.move p0) ?_
      intro u17 e17
      refine HL.one (HO.call Tryd.func28 bd28 nm28 (args1 e17) rfl ((binary_ch _ xs a cap hsrc hcap hpos hlen).mono ?_))
      rintro _ hq ⟨rfl, hhq⟩
      intro u18 e18
      refine HL.still (Runs.extr e18 rfl) ?_
      intro u19 e19
      refine HL.still (Runs.extr e18 rfl) ?_
      intro u20 e20
      refine HL.still (Runs.assign e19) ?_
      intro u2 e2
      refine HL.still (Runs.assign e20) ?_
      intro u3 e3
      refine HL.nil ?_
      refine HW.ret ?_
      refine RT.two rfl e2 e3 ⟨?_, by rw [hhq]; exact Bel.refl _ _⟩
      unfold readO
      rw [if_neg hn, if_pos hbig]
      rfl
    · skip
      -- region 3
      repeat refine HW.seq ?_
      refine HW.region ?_
      refine HL.still (Runs.move p0') ?_
      intro u13 e13
      refine HL.still (Runs.ixSl (o' := so) Tryd.underlying22 sz5 e13 rfl (by omega) (by omega) (by omega)) ?_
      intro u14 e14
      refine HL.still (Runs.load Tryd.underlying5 rfl e14 hc0) ?_
      intro u15 e15
      refine HL.still (Runs.geq e15 rfl (t := false) (decide_eq_false (by omega))) ?_
      intro u16 e16
      refine HL.still (Runs.assign e16) ?_
      intro u12 e12
      refine HL.nil ?_
      repeat refine HW.seq ?_
      refine HW.no ?_ ?_
      exact e12
      refine HW.skip ?_
      obtain ⟨s, hs⟩ : ∃ s, s = cutR isPad (xs.dropWhile (· == 32)) := ⟨_, rfl⟩
      have hR : readO xs = goO 0 s := by unfold readO; rw [if_neg hn, if_neg hbig, hs]
      have hl1 : (xs.dropWhile (· == 32)).length ≤ xs.length := (List.dropWhile_sublist _).length_le
      have hl2 := cutR_len isPad (xs.dropWhile (· == 32))
      rw [← hs] at hl2
      rw [hR]
      clear hR
      -- region 5
      repeat refine HW.seq ?_
      refine HW.region ?_
      refine HL.still (Runs.move p0) ?_
      intro u21 e21
      refine HL.still (Runs.toStrB Tryd.underlying22 Tryd.underlying5 Tryd.underlying9 e21 rfl hsrc) ?_
      intro u22 e22
      refine HL.one (HO.call Tryd.func30 bd30 nm30 (args2 e22 rfl) rfl ((trimL_ch _ xs hlen).mono ?_))
      rintro _ h1 ⟨rfl, hh1⟩
      intro u23 e23
      refine HL.one (HO.call Tryd.func29 bd29 nm29 (args2 e23 rfl) rfl ((trimR_ch _ (xs.dropWhile (· == 32)) (by omega)).mono ?_))
      rintro _ h2 ⟨rfl, E2⟩
      intro u24 e24
      refine HL.still (Runs.assign e24) ?_
      intro u4 e4
      refine HL.nil ?_
      rw [hh1] at E2
      rw [← hs] at e4
      -- region 6
      repeat refine HW.seq ?_
      refine HW.region ?_
      refine HL.still (Runs.assign rfl) ?_
      intro u5 e5
      refine HL.still (Runs.assign rfl) ?_
      intro u6 e6
      refine HL.nil ?_
      -- region 7
      repeat refine HW.seq ?_
      refine HW.region ?_
      refine HL.still (Runs.assign rfl) ?_
      intro u7 e7
      refine HL.nil ?_
      repeat refine HW.seq ?_
      refine HW.block ?_
      refine HW.loop (fun m f h' => ∃ k : Nat, k ≤ s.length ∧ m = s.length - k ∧ f 7 = I64 k ∧ f 4 = .string (strOf s) ∧ ∃ (n : Nat) (ok : Bool), f 5 = I64 (n : Int) ∧ f 6 = .bool ok ∧ n ≤ 4611686018427387904 ∧ (ok = true → goO n (s.drop k) = goO 0 s) ∧ (ok = false → n = 0 ∧ goO 0 s = (0, false)) ∧ h' = h2) s.length
        ⟨0, Nat.zero_le _, rfl, e7, e4, 0, true, e5, e6, Nat.zero_le _, fun _ => rfl, fun q => (by cases q), rfl⟩ ?_
      clear e4 e5 e6 e7
      rintro m f h' ⟨k, hk, hm, f7, f4, n, ok, f5, f6, hn', hyes, hno, hh'⟩
      by_cases hlt : k < s.length
      · cases ok with
        | false =>
          obtain ⟨hn0, hR⟩ := hno rfl
          -- region 8
          repeat refine HW.seq ?_
          refine HW.region ?_
          refine HL.still (Runs.move f7) ?_
          intro u25 e25
          refine HL.still (Runs.move f4) ?_
          intro u26 e26
          refine HL.still (Runs.lenS rfl Tryd.underlying9 e26) ?_
          intro u27 e27
          refine HL.still (Runs.lss e25 e27 (t := true) (decide_eq_true (by omega))) ?_
          intro u28 e28
          refine HL.still (Runs.move e28) ?_
          intro u29 e29
          refine HL.stillG rfl rfl e29 (Runs.move f6) ?_
          intro u30 e30
          refine HL.still (Runs.pick e29 e30) ?_
          intro u31 e31
          refine HL.nil ?_
          repeat refine HW.seq ?_
          refine HW.no ?_ ?_
          exact e31
          refine HW.exitHere ?_
          -- region 13
          repeat refine HW.seq ?_
          refine HW.region ?_
          refine HL.still (Runs.move f5) ?_
          intro u54 e54
          refine HL.still (Runs.move f6) ?_
          intro u55 e55
          refine HL.still (Runs.assign e54) ?_
          intro u2 e2
          refine HL.still (Runs.assign e55) ?_
          intro u3 e3
          refine HL.nil ?_
          refine HW.ret ?_
          exact RT.two rfl e2 e3 ⟨by rw [hR, hn0], by rw [hh']; exact E2⟩
        | true =>
          have hy := hyes rfl
          rw [goO_step hlt] at hy
          have hcl := (s.getD k 0).toNat_lt
          have hget := get_of_lt hlt
          -- region 8
          repeat refine HW.seq ?_
          refine HW.region ?_
          refine HL.still (Runs.move f7) ?_
          intro u25 e25
          refine HL.still (Runs.move f4) ?_
          intro u26 e26
          refine HL.still (Runs.lenS rfl Tryd.underlying9 e26) ?_
          intro u27 e27
          refine HL.still (Runs.lss e25 e27 (t := true) (decide_eq_true (by omega))) ?_
          intro u28 e28
          refine HL.still (Runs.move e28) ?_
          intro u29 e29
          refine HL.stillG rfl rfl e29 (Runs.move f6) ?_
          intro u30 e30
          refine HL.still (Runs.pick e29 e30) ?_
          intro u31 e31
          refine HL.nil ?_
          repeat refine HW.seq ?_
          refine HW.yes ?_ ?_
          exact e31
          refine HW.skip ?_
          repeat refine HW.seq ?_
          refine HW.block ?_
          by_cases hlo : (s.getD k 0).toNat < 48
          · skip
            -- region 10
            repeat refine HW.seq ?_
            refine HW.region ?_
            refine HL.still (Runs.move f4) ?_
            intro u34 e34
            refine HL.still (Runs.move f7) ?_
            intro u35 e35
            refine HL.still (Runs.ixS Tryd.underlying9 e34 e35 (j := k) rfl hget) ?_
            intro u36 e36
            refine HL.still (Runs.lss e36 rfl (t := true) (decide_eq_true (by omega))) ?_
            intro u37 e37
            refine HL.still (Runs.move e37) ?_
            intro u38 e38
            refine HL.skipG rfl rfl e38 ?_
            intro u39 e39
            refine HL.skipG rfl rfl e38 ?_
            intro u40 e40
            refine HL.skipG rfl rfl e38 ?_
            intro u41 e41
            refine HL.skipG rfl rfl e38 ?_
            intro u42 e42
            refine HL.still (Runs.pick e38 rfl) ?_
            intro u43 e43
            refine HL.nil ?_
            repeat refine HW.seq ?_
            refine HW.yes ?_ ?_
            exact e43
            -- region 11
            repeat refine HW.seq ?_
            refine HW.region ?_
            refine HL.still (Runs.assign rfl) ?_
            intro u2 e2
            refine HL.still (Runs.assign rfl) ?_
            intro u3 e3
            refine HL.nil ?_
            refine HW.ret ?_
            rw [if_neg (by rw [isO_no (by omega)]; decide)] at hy
            exact RT.two rfl e2 e3 ⟨by rw [← hy]; rfl, by rw [hh']; exact E2⟩
          · by_cases hhi : (s.getD k 0).toNat > 55
            · skip
              -- region 10
              repeat refine HW.seq ?_
              refine HW.region ?_
              refine HL.still (Runs.move f4) ?_
              intro u34 e34
              refine HL.still (Runs.move f7) ?_
              intro u35 e35
              refine HL.still (Runs.ixS Tryd.underlying9 e34 e35 (j := k) rfl hget) ?_
              intro u36 e36
              refine HL.still (Runs.lss e36 rfl (t := false) (decide_eq_false (by omega))) ?_
              intro u37 e37
              refine HL.still (Runs.move e37) ?_
              intro u38 e38
              refine HL.stillG rfl rfl e38 (Runs.move f4) ?_
              intro u39 e39
              refine HL.stillG rfl rfl e38 (Runs.move f7) ?_
              intro u40 e40
              refine HL.stillG rfl rfl e38 (Runs.ixS Tryd.underlying9 e39 e40 (j := k) rfl hget) ?_
              intro u41 e41
              refine HL.stillG rfl rfl e38 (Runs.gtr e41 rfl (t := true) (decide_eq_true (by omega))) ?_
              intro u42 e42
              refine HL.still (Runs.pick e38 e42) ?_
              intro u43 e43
              refine HL.nil ?_
              repeat refine HW.seq ?_
              refine HW.yes ?_ ?_
              exact e43
              -- region 11
              repeat refine HW.seq ?_
              refine HW.region ?_
              refine HL.still (Runs.assign rfl) ?_
              intro u2 e2
              refine HL.still (Runs.assign rfl) ?_
              intro u3 e3
              refine HL.nil ?_
              refine HW.ret ?_
              rw [if_neg (by rw [isO_no (by omega)]; decide)] at hy
              exact RT.two rfl e2 e3 ⟨by rw [← hy]; rfl, by rw [hh']; exact E2⟩
            · rw [if_pos (isO_yes (by omega))] at hy
              -- region 10
              repeat refine HW.seq ?_
              refine HW.region ?_
              refine HL.still (Runs.move f4) ?_
              intro u34 e34
              refine HL.still (Runs.move f7) ?_
              intro u35 e35
              refine HL.still (Runs.ixS Tryd.underlying9 e34 e35 (j := k) rfl hget) ?_
              intro u36 e36
              refine HL.still (Runs.lss e36 rfl (t := false) (decide_eq_false (by omega))) ?_
              intro u37 e37
              refine HL.still (Runs.move e37) ?_
              intro u38 e38
              refine HL.stillG rfl rfl e38 (Runs.move f4) ?_
              intro u39 e39
              refine HL.stillG rfl rfl e38 (Runs.move f7) ?_
              intro u40 e40
              refine HL.stillG rfl rfl e38 (Runs.ixS Tryd.underlying9 e39 e40 (j := k) rfl hget) ?_
              intro u41 e41
              refine HL.stillG rfl rfl e38 (Runs.gtr e41 rfl (t := false) (decide_eq_false (by omega))) ?_
              intro u42 e42
              refine HL.still (Runs.pick e38 e42) ?_
              intro u43 e43
              refine HL.nil ?_
              repeat refine HW.seq ?_
              refine HW.no ?_ ?_
              exact e43
              refine HW.skip ?_
              -- region 12
              repeat refine HW.seq ?_
              refine HW.region ?_
              refine HL.still (Runs.move f5) ?_
              intro u45 e45
              refine HL.still (Runs.move f4) ?_
              intro u46 e46
              refine HL.still (Runs.move f7) ?_
              intro u47 e47
              refine HL.still (Runs.ixS Tryd.underlying9 e46 e47 (j := k) rfl hget) ?_
              intro u48 e48
              refine HL.still (Runs.sub e48 rfl (c := (((s.getD k 0).toNat - 48 : Nat) : Int)) (by rw [u8w (by omega)]; omega)) ?_
              intro u49 e49
              refine HL.still (Runs.conv Tryd.underlying5 Tryd.underlying3 e49 (i64w (by omega))) ?_
              intro u50 e50
              refine HL.one (HO.call Tryd.func31 bd31 nm31 (args3 e45 rfl e50) rfl ((more_ch _ 3 n ((s.getD k 0).toNat - 48) (by decide) hn' (by omega) (by omega)).mono ?_))
              rintro _ hq ⟨rfl, hhq⟩
              intro u51 e51
              refine HL.still (Runs.move e51) ?_
              intro u44 e44
              refine HL.still (Runs.extr e44 rfl) ?_
              intro u52 e52
              refine HL.still (Runs.extr e44 rfl) ?_
              intro u53 e53
              refine HL.still (Runs.assign e52) ?_
              intro u5 e5
              refine HL.still (Runs.assign e53) ?_
              intro u6 e6
              refine HL.nil ?_
              -- region 9
              repeat refine HW.seq ?_
              refine HW.region ?_
              refine HL.still (Runs.move f7) ?_
              intro u32 e32
              refine HL.still (Runs.add e32 rfl (i64w (by omega))) ?_
              intro u33 e33
              refine HL.still (Runs.assign e33) ?_
              intro u7 e7
              refine HL.nil ?_
              refine ⟨s.length - (k + 1), by omega, k + 1, by omega, rfl, e7, f4, _, _, e5, e6, mv_le 3 n _ (by omega), fun q => ?_, fun q => ?_, by rw [hhq, hh']⟩
              · rw [if_pos q] at hy; exact hy
              · rw [if_neg (by rw [q]; decide)] at hy; exact ⟨by rw [mv_no q], hy.symm⟩
      · have hkl : k = s.length := by omega
        subst hkl
        rw [List.drop_of_length_le (Nat.le_refl _)] at hyes
        -- region 8
        repeat refine HW.seq ?_
        refine HW.region ?_
        refine HL.still (Runs.move f7) ?_
        intro u25 e25
        refine HL.still (Runs.move f4) ?_
        intro u26 e26
        refine HL.still (Runs.lenS rfl Tryd.underlying9 e26) ?_
        intro u27 e27
        refine HL.still (Runs.lss e25 e27 (t := false) (decide_eq_false (by omega))) ?_
        intro u28 e28
        refine HL.still (Runs.move e28) ?_
        intro u29 e29
        refine HL.skipG rfl rfl e29 ?_
        intro u30 e30
        refine HL.still (Runs.pick e29 rfl) ?_
        intro u31 e31
        refine HL.nil ?_
        repeat refine HW.seq ?_
        refine HW.no ?_ ?_
        exact e31
        refine HW.exitHere ?_
        -- region 13
        repeat refine HW.seq ?_
        refine HW.region ?_
        refine HL.still (Runs.move f5) ?_
        intro u54 e54
        refine HL.still (Runs.move f6) ?_
        intro u55 e55
        refine HL.still (Runs.assign e54) ?_
        intro u2 e2
        refine HL.still (Runs.assign e55) ?_
        intro u3 e3
        refine HL.nil ?_
        refine HW.ret ?_
        cases ok with
        | false =>
          obtain ⟨hn0, hR⟩ := hno rfl
          exact RT.two rfl e2 e3 ⟨by rw [hR, hn0], by rw [hh']; exact E2⟩
        | true =>
          have hy := hyes rfl
          exact RT.two rfl e2 e3 ⟨by rw [← hy]; rfl, by rw [hh']; exact E2⟩
end Go.Proofs.YtfogkggkjmkdiaaDoor
