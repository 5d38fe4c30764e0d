/- A row of another key: named, both. -/
import Derived.Test.YtjopikfkgjbcgaaDoorWd
namespace Go.Proofs.YtjopikfkgjbcgaaDoor
set_option linter.unnecessarySimpa false
set_option linter.unusedSimpArgs false
set_option linter.unusedVariables false
open Go.RowKit
/-- A row of another key. -/
def namedO (l : List JV) (key : List UInt8) : List JV := match l with | [] => [] | x :: r => (x.1, key, x.2.2) :: r
theorem namedO_len (l : List JV) (key : List UInt8) : (namedO l key).length = l.length := by cases l <;> rfl
theorem Js.named {h h' : Heap} {base g cap : Nat} {l : List JV} {key : List UInt8} {cur : List Value} (x : Js h base (some ⟨g, 0, none⟩) cap l) (hl : l ≠ []) (hb : h[g]? = some (.cells cur.toArray 37 (0, 0))) (w : Wr h h' g (.cells (cur.set 1 (.string (strOf key))).toArray 37 (0, 0))) : Js h' base (some ⟨g, 0, none⟩) cap (namedO l key) := by
  obtain ⟨cur', h1, h2, h3⟩ := x.blkAt
  rw [hb] at h1
  have e1 : cur = cur' := by
    have := Option.some.inj h1
    injection this with q
    have := congrArg Array.toList q
    simpa using this
  subst e1
  obtain ⟨hg, _⟩ : base ≤ g ∧ g < h.size := by
    rcases x.blk with ⟨q, _⟩ | ⟨g', q, q1, q2⟩
    · cases q
    · cases q; exact ⟨q1, q2⟩
  cases l with
  | nil => exact absurd rfl hl
  | cons y r =>
    refine Js.of_blk w.new (by rw [List.length_set]; exact h2) ?_ hg (by have := x.2; simpa [namedO] using this) x.capLe
    have e2 : (cur.set 1 (.string (strOf key))).take ((y :: r).length * 4) = (flJ (y :: r)).set 1 (.string (strOf key)) := by rw [← h3, List.take_set]
    have e3 : (namedO (y :: r) key).length = (y :: r).length := rfl
    rw [e3, e2]
    rfl
set_option maxRecDepth 10000 in
theorem named_ch (h : Heap) (l : List JV) (a : Option Addr) (n cap : Nat) (key : List UInt8) (hn : n = l.length) (hsrc : Jvs h a l) (hlen : l.length ≤ 1000000) :
    CH Tryd.prog 27 #[.slice a n cap, .string (strOf key)] h fun v h' => ∃ a' c', v = .slice a' (namedO l key).length c' ∧ Js h' h.size a' c' (namedO l key) ∧ Ext h h' := by
  subst hn
  refine CH.of_body Tryd.func27 rfl rfl rfl ?_
  intro f hf
  have p0 : f 0 = .slice a l.length cap := by rw [hf]; exact fr0_at rfl
  have p1 : f 1 = .string (strOf key) := by rw [hf]; exact fr0_at rfl
  -- region 0
  repeat refine HW.seq ?_
  refine HW.region ?_
  refine HL.still (Runs.assign rfl) ?_
  intro u4 e4
  refine HL.nil ?_
  -- region 1
  repeat refine HW.seq ?_
  refine HW.region ?_
  refine HL.still (Runs.move p0) ?_
  intro u6 e6
  refine HL.one (HO.call Tryd.func31 bd31 nm31 (args1 e6) rfl ((cloneJ_ch h l a l.length cap rfl hsrc hlen).mono ?_))
  rintro _ h1 ⟨a1, c1, rfl, J, X1⟩
  intro u7 e7
  refine HL.still (Runs.assign e7) ?_
  intro u5 e5
  refine HL.nil ?_
  have g5 : u5 = .slice a1 l.length c1 := e5
  cases l with
  | nil =>
    -- region 2
    repeat refine HW.seq ?_
    refine HW.region ?_
    refine HL.still (Runs.move g5) ?_
    intro u8 e8
    refine HL.still (Runs.lenSl rfl Tryd.underlying22 e8) ?_
    intro u9 e9
    refine HL.still (Runs.gtr e9 rfl (t := false) (by simp)) ?_
    intro u10 e10
    refine HL.nil ?_
    refine HW.no e10 ?_
    refine HW.skip ?_
    -- region 4
    repeat refine HW.seq ?_
    refine HW.region ?_
    refine HL.still (Runs.move g5) ?_
    intro u15 e15
    refine HL.still (Runs.assign e15) ?_
    intro u4 e4
    refine HL.nil ?_
    refine HW.ret ?_
    exact RT.one rfl e4 ⟨a1, c1, rfl, J, X1⟩
  | cons y r =>
    obtain ⟨g, rfl, hg, hgl⟩ : ∃ g, a1 = some ⟨g, 0, none⟩ ∧ h.size ≤ g ∧ g < h1.size := by
      rcases J.blk with ⟨_, q⟩ | q
      · cases q
      · exact q
    obtain ⟨cur, hb, hcl, _⟩ := J.blkAt
    have hcap := J.2
    have hpos : 0 < (y :: r).length := by simp
    -- region 2
    repeat refine HW.seq ?_
    refine HW.region ?_
    refine HL.still (Runs.move g5) ?_
    intro u8 e8
    refine HL.still (Runs.lenSl rfl Tryd.underlying22 e8) ?_
    intro u9 e9
    refine HL.still (Runs.gtr e9 rfl (t := true) (by simp)) ?_
    intro u10 e10
    refine HL.nil ?_
    refine HW.yes e10 ?_
    -- region 3
    repeat refine HW.seq ?_
    refine HW.region ?_
    refine HL.still (Runs.move g5) ?_
    intro u11 e11
    refine HL.still (Runs.move p1) ?_
    intro u12 e12
    refine HL.still (Runs.ixSl (o' := 0) Tryd.underlying22 sz37 e11 rfl (by omega) (by omega) (by omega)) ?_
    intro u13 e13
    refine HL.still (Runs.fld (o' := 1) Tryd.underlying37 rfl sz9 (by decide) e13 (by rfl)) ?_
    intro u14 e14
    refine HL.zero (HO.store (s := 1) sz9 e14 e12 rfl hb (by omega) rfl ?_)
    intro h2 w2
    refine HL.nil ?_
    have J2 := J.named (key := key) (by simp) hb w2
    -- region 4
    repeat refine HW.seq ?_
    refine HW.region ?_
    refine HL.still (Runs.move g5) ?_
    intro u15 e15
    refine HL.still (Runs.assign e15) ?_
    intro u4 e4
    refine HL.nil ?_
    refine HW.ret ?_
    exact RT.one rfl e4 ⟨_, c1, by rw [namedO_len], J2, X1.wr w2 hg⟩
set_option maxRecDepth 10000 in
theorem namedR_ch (h : Heap) (l : List JV) (a : Option Addr) (n cap : Nat) (key : List UInt8) (hn : n = l.length) (hsrc : Jvs h a l) (hlen : l.length ≤ 1000000) :
    CH Tryd.prog 41 #[.slice a n cap, .string (strOf key)] h fun v h' => ∃ a' c', v = .slice a' (namedO l key).length c' ∧ Js h' h.size a' c' (namedO l key) ∧ Ext h h' := by
  subst hn
  refine CH.of_body Tryd.func41 rfl rfl rfl ?_
  intro f hf
  have p0 : f 0 = .slice a l.length cap := by rw [hf]; exact fr0_at rfl
  have p1 : f 1 = .string (strOf key) := by rw [hf]; exact fr0_at rfl
  -- region 0
  repeat refine HW.seq ?_
  refine HW.region ?_
  refine HL.still (Runs.assign rfl) ?_
  intro u4 e4
  refine HL.nil ?_
  -- region 1
  repeat refine HW.seq ?_
  refine HW.region ?_
  refine HL.one (HO.jv0 ?_)
  intro h0 w0
  intro u6 e6
  refine HL.still (Runs.move p0) ?_
  intro u7 e7
  refine HL.one (HO.dapp e6 e7 rfl rfl (Js.lit (l := []) w0 (Nat.le_refl _) (Nat.zero_le _)) (hsrc.ext w0.ext) (by simp; omega) (by rw [w0.size]; omega) ?_)
  intro a1 c1 h1 J G1
  intro u8 e8
  refine HL.still (Runs.assign e8) ?_
  intro u5 e5
  refine HL.nil ?_
  have X1 : Ext h h1 := G1.belJ w0.ext (Js.lit (l := []) w0 (Nat.le_refl _) (Nat.zero_le _)) (Nat.le_refl _) (Nat.le_refl _)
  have J : Js h1 h.size a1 c1 l := J
  have g5 : u5 = .slice a1 l.length c1 := e5
  cases l with
  | nil =>
    -- region 2
    repeat refine HW.seq ?_
    refine HW.region ?_
    refine HL.still (Runs.move g5) ?_
    intro u9 e9
    refine HL.still (Runs.lenSl rfl Tryd.underlying22 e9) ?_
    intro u10 e10
    refine HL.still (Runs.gtr e10 rfl (t := false) (by simp)) ?_
    intro u11 e11
    refine HL.nil ?_
    refine HW.no e11 ?_
    refine HW.skip ?_
    -- region 4
    repeat refine HW.seq ?_
    refine HW.region ?_
    refine HL.still (Runs.move g5) ?_
    intro u16 e16
    refine HL.still (Runs.assign e16) ?_
    intro u4 e4
    refine HL.nil ?_
    refine HW.ret ?_
    exact RT.one rfl e4 ⟨a1, c1, rfl, J, X1⟩
  | cons y r =>
    obtain ⟨g, rfl, hg, hgl⟩ : ∃ g, a1 = some ⟨g, 0, none⟩ ∧ h.size ≤ g ∧ g < h1.size := by
      rcases J.blk with ⟨_, q⟩ | q
      · cases q
      · exact q
    obtain ⟨cur, hb, hcl, _⟩ := J.blkAt
    have hcap := J.2
    have hpos : 0 < (y :: r).length := by simp
    -- region 2
    repeat refine HW.seq ?_
    refine HW.region ?_
    refine HL.still (Runs.move g5) ?_
    intro u9 e9
    refine HL.still (Runs.lenSl rfl Tryd.underlying22 e9) ?_
    intro u10 e10
    refine HL.still (Runs.gtr e10 rfl (t := true) (by simp)) ?_
    intro u11 e11
    refine HL.nil ?_
    refine HW.yes e11 ?_
    -- region 3
    repeat refine HW.seq ?_
    refine HW.region ?_
    refine HL.still (Runs.move g5) ?_
    intro u12 e12
    refine HL.still (Runs.move p1) ?_
    intro u13 e13
    refine HL.still (Runs.ixSl (o' := 0) Tryd.underlying22 sz37 e12 rfl (by omega) (by omega) (by omega)) ?_
    intro u14 e14
    refine HL.still (Runs.fld (o' := 1) Tryd.underlying37 rfl sz9 (by decide) e14 (by rfl)) ?_
    intro u15 e15
    refine HL.zero (HO.store (s := 1) sz9 e15 e13 rfl hb (by omega) rfl ?_)
    intro h2 w2
    refine HL.nil ?_
    have J2 := J.named (key := key) (by simp) hb w2
    -- region 4
    repeat refine HW.seq ?_
    refine HW.region ?_
    refine HL.still (Runs.move g5) ?_
    intro u16 e16
    refine HL.still (Runs.assign e16) ?_
    intro u4 e4
    refine HL.nil ?_
    refine HW.ret ?_
    exact RT.one rfl e4 ⟨_, c1, by rw [namedO_len], J2, X1.wr w2 hg⟩
end Go.Proofs.YtjopikfkgjbcgaaDoor
