/- Is a row right: json.Right, walked; it is what the document says. -/
import Derived.Test.YtjopikfkgjbcgaaGreatDoorOf
namespace Go.Proofs.YtjopikfkgjbcgaaGreatDoor
set_option linter.unnecessarySimpa false
set_option linter.unusedSimpArgs false
set_option linter.unusedVariables false
open Go.RowKit
/-- Numbers and lengths that are none out of the way. -/
def OkJ (l : List JV) : Prop := ∀ x ∈ l, x.2.1.length ≤ 140737488355328 ∧ x.2.2.1.length ≤ 140737488355328 ∧ x.2.2.2 ≤ 9223372036854775807
theorem zr41 : (Tryz.prog.info? 41).map (·.zero) = some (some (.agg (encJ zJ).toArray)) := by kernel_rfl
section
variable {ρ : Operand → Value} {h : Heap} {d : Option Tmp} {ty : TypeId} {pos : String} {af : Array Edge} {gd : Option (Nat × Bool)} {K : Value → Heap → Prop} {x y z : Operand}
theorem run_fr1 (o : Bool) (n : Int) (m : Option Nat) (w : World) : (Instr.buildSlice 74 1 #[(0, .agg #[.bool o, I64 n, .map m])]).run Tryz.prog w = .ok (.slice (some ⟨w.heap.size, 0, none⟩) 1 1) (w.alloc (.cells #[.bool o, I64 n, .map m] 73)) := by kernel_rfl
set_option maxRecDepth 10000 in
theorem HO.fr1 (p : FrM) (hx : ρ x = .agg (encF p).toArray) (k : ∀ h', Nw h h' (.cells (encF p).toArray 73 (0, 0)) → K (.slice (some ⟨h.size, 0, none⟩) 1 1) h') : HO Tryz.prog ⟨d, .buildSlice 74 1 #[(0, x)], ty, pos, af, gd⟩ ρ h K :=
  HO.buildSlice (cells := encF p) (fun w => by
    have e : (#[(0, x)] : Array (Nat × Operand)).map (fun (i, x) => (i, ρ x)) = #[(0, .agg (encF p).toArray)] := by simp [hx]
    rw [e]
    exact run_fr1 _ _ _ w) k
theorem run_bf (o : Bool) (n : Int) (m : Option Nat) (w : World) : (Instr.build 73 #[(0, .bool o), (1, I64 n), (2, .map m)]).run Tryz.prog w = .ok (.agg #[.bool o, I64 n, .map m]) w := by kernel_rfl
set_option maxRecDepth 10000 in
theorem Runs.buildF {o : Bool} {n : Nat} {m : Option Nat} {ns : List (List UInt8)} {c : Int} (hx : ρ x = .bool o) (hy : ρ y = I64 c) (hz : ρ z = .map m) (hc : c = (n : Nat)) : Runs Tryz.prog ⟨d, .build 73 #[(0, x), (1, y), (2, z)], ty, pos, af, gd⟩ ρ h (.agg (encF ((o, n, ns), m)).toArray) := by
  subst hc
  refine Runs.build fun w => ?_
  have e : (#[(0, x), (1, y), (2, z)] : Array (Nat × Operand)).map (fun (i, x) => (i, ρ x)) = #[(0, .bool o), (1, I64 (n : Nat)), (2, .map m)] := by simp [hx, hy, hz]
  rw [e]
  exact run_bf _ _ _ w
theorem Runs.lookSv {m k : Operand} {b : Nat} {c : List UInt8 → Int} {q : List UInt8} {n : Int} (hm : ρ m = .map (some b)) (hk : ρ k = .string (strOf q)) (hM : MpS h b c) (hq : q.length ≤ maxLen) (hc : c q = n) : Runs Tryz.prog ⟨d, .lookup 71 m k false, ty, pos, af, gd⟩ ρ h (I64 n) := by
  subst hc
  exact Runs.lookS hm hk hM hq
end
theorem sl0 {cap s g : Nat} : (if cap = 0 then (some ⟨g, 0, none⟩ : Option Addr) else (some ⟨g, 0, none⟩ : Option Addr).map (·.add (0 * s))) = some ⟨g, 0, none⟩ := by
  split
  · rfl
  · rw [Option.map_some, addr_add]; simp
def stk (S : List FrM) : List Fr := (S.map (·.1)).reverse
theorem stk_snoc (T : List FrM) (p : FrM) : stk (T ++ [p]) = p.1 :: stk T := by unfold stk; simp
theorem stk_len (S : List FrM) : (stk S).length = S.length := by unfold stk; simp
theorem step_eq {s : List Fr} {o : Bool} {n : Nat} {ns : List (List UInt8)} {s' : List Fr} (x : JV) (h : popS s = (o, n, ns) :: s') : stepS s x =
    if (fitV o x && decide (s'.length + 1 ≤ 50) && !(o && ns.contains x.2.1)) = true then
      some (if x.2.2.2 > 0 then (isObj x, x.2.2.2.toNat, []) :: (o, n - 1, if o = true then x.2.1 :: ns else ns) :: s' else (o, n - 1, if o = true then x.2.1 :: ns else ns) :: s')
    else none := by
  unfold stepS
  rw [h]
theorem rightO_go (l : List JV) : rightO l = (decide (l.length ≤ 5000) && goS [(false, 1, [])] l) := by
  rw [goS_right]
  rfl
theorem rightO_no {l : List JV} (h : goS [(false, 1, [])] l = false) : rightO l = false := by rw [rightO_go, h]; simp
set_option maxRecDepth 10000 in
set_option maxHeartbeats 4000000 in
theorem right_ch (h : Heap) (l : List JV) (a : Option Addr) (n cap : Nat) (hn : n = l.length) (hB : Jvs h a l) (hP : Plc h) (hl : l.length ≤ 100000) (hOk : OkJ l) : CH Tryz.prog 30 #[.slice a n cap] h fun v h' => v = .bool (rightO l) ∧ Ext h h' := by
  subst hn
  refine CH.of_body Tryz.func30 rfl rfl rfl ?_
  intro f hf
  have p0 : f 0 = .slice a l.length cap := by rw [hf]; exact fr0_at rfl
  -- region 0
  repeat refine HW.seq ?_
  refine HW.region ?_
  refine HL.still (Runs.assign rfl) ?_
  intro u2 e2
  refine HL.nil ?_
  -- region 1
  repeat refine HW.seq ?_
  refine HW.region ?_
  refine HL.still (v := .agg (encF ((false, 1, []), none)).toArray) (Runs.build (fun w => by kernel_rfl)) ?_
  intro u7 e7
  refine HL.one (HO.fr1 ((false, 1, []), none) e7 ?_)
  intro h0 w0
  intro u8 e8
  refine HL.still (Runs.assign e8) ?_
  intro u3 e3
  refine HL.nil ?_
  have S0 : Stk h0 h.size (some ⟨h.size, 0, none⟩) 1 [((false, 1, []), none)] := ⟨Fs.lit (l := [((false, 1, []), none)]) w0 (Nat.le_refl _) (by decide), fun p hp => by
    have : p = ((false, 1, []), none) := by simpa using hp
    rw [this]; rfl, by simp⟩
  have g3 : u3 = .slice (some ⟨h.size, 0, none⟩) 1 1 := e3
  -- region 2
  repeat refine HW.seq ?_
  refine HW.region ?_
  refine HL.still (Runs.move p0) ?_
  intro u9 e9
  refine HL.still (Runs.lenSl rfl Tryz.underlying26 e9) ?_
  intro u10 e10
  refine HL.still (Runs.move rfl) ?_
  intro u11 e11
  refine HL.nil ?_
  clear e2 e3 e7 e8
  repeat refine HW.seq ?_
  refine HW.block ?_
  refine HW.loop (fun m f u => ∃ (k : Nat) (S : List FrM) (a3 : Option Addr) (c3 : Nat), k ≤ l.length ∧ m = l.length - k ∧ f 11 = I64 k ∧ f 10 = I64 l.length ∧ f 9 = .slice a l.length cap ∧ f 0 = .slice a l.length cap ∧ f 3 = .slice a3 S.length c3 ∧ Stk u h.size a3 c3 S ∧ S ≠ [] ∧ S.length ≤ k + 1 ∧ (∀ p ∈ S, p.1.2.1 ≤ 9223372036854775807) ∧ goS [(false, 1, [])] l = goS (stk S) (l.drop k) ∧ Ext h u) l.length
    ⟨0, [((false, 1, []), none)], _, 1, Nat.zero_le _, rfl, e11, e10, e9, p0, g3, S0, by simp, by simp, (fun p hp => by
      have : p = ((false, 1, []), none) := by simpa using hp
      rw [this]; decide), rfl, w0.ext⟩ ?_
  clear S0 w0 g3 p0 e9 e10 e11 hf
  rintro m f u ⟨k, S, a3, c3, hk, hm, f11, f10, f9, f0, f3, hS, hne, hSk, hbd, hgo, hX⟩
  by_cases hlt : k < l.length
  · obtain ⟨sb, so, rfl, hc⟩ := (hB.ext hX).at hlt
    obtain ⟨x, hx⟩ : ∃ x, x = l.getD k zJ := ⟨_, rfl⟩
    rw [← hx] at hc
    have hdr : l.drop k = x :: l.drop (k + 1) := by
      rw [List.drop_eq_getElem_cons hlt, hx, List.getD_eq_getElem?_getD, List.getElem?_eq_getElem hlt]; rfl
    have hxm : x ∈ l := by
      rw [hx, List.getD_eq_getElem?_getD, List.getElem?_eq_getElem hlt]
      exact List.getElem_mem hlt
    obtain ⟨hx1, hx2, hx3⟩ := hOk x hxm
    rw [hdr] at hgo
    have hgu : ∃ g, a3 = some ⟨g, 0, none⟩ ∧ h.size ≤ g ∧ g < u.size := by
      obtain ⟨g, cur, q1, q2, q3, _⟩ := hS.fs.blkAt hne
      exact ⟨g, q1, q2, lt_of_some q3⟩
    obtain ⟨g, rfl, hgb, hgu⟩ := hgu
    -- region 3
    repeat refine HW.seq ?_
    refine HW.region ?_
    refine HL.still (Runs.lss f11 f10 rfl) ?_
    intro u12 e12
    refine HL.nil ?_
    repeat refine HW.seq ?_
    refine HW.yes ?_ ?_
    exact e12.trans (congrArg Value.bool (decide_eq_true (by omega)))
    refine HW.skip ?_
    repeat refine HW.seq ?_
    refine HW.block ?_
    -- region 4
    repeat refine HW.seq ?_
    refine HW.region ?_
    refine HL.still (Runs.ixSl (o' := so + k * 4) Tryz.underlying26 sz41 f9 f11 (by omega) (by omega) (by omega)) ?_
    intro u13 e13
    refine HL.still (Runs.loadAgg Tryz.underlying41 rfl sz41 e13 (encJ_len x) hc) ?_
    intro u14 e14
    refine HL.one (HO.alloc zr41 ?_)
    intro h1 w1
    intro u5 e5
    refine HL.zero (HO.storeAll sz41 e5 e14 (encJ_one x) w1.new (encJ_len x) rfl ?_)
    intro h2 w2
    refine HL.nil ?_
    have X2 : Ext u h2 := w1.ext.wr w2 (Nat.le_refl _)
    have hS2 := hS.ext X2
    have hJ2 := w2.new
    have X02 : Ext h h2 := hX.ext X2 (Nat.le_refl _)
    -- what is over is let go of
    refine HW.seq ?_
    refine HW.mono (N := fun f v => ∃ (T : List FrM) (p : FrM), p.1.2.1 ≠ 0 ∧ f 3 = .slice (some ⟨g, 0, none⟩) (T.length + 1) c3 ∧ Stk v h.size (some ⟨g, 0, none⟩) c3 (T ++ [p]) ∧ popS (stk S) = p.1 :: stk T ∧ T.length + 1 ≤ S.length ∧ (∀ p' ∈ T ++ [p], p'.1.2.1 ≤ 9223372036854775807) ∧ f 0 = .slice (some ⟨sb, so, none⟩) l.length cap ∧ f 9 = .slice (some ⟨sb, so, none⟩) l.length cap ∧ f 10 = I64 l.length ∧ f 11 = I64 k ∧ f 5 = .pointer (some ⟨u.size, 0, none⟩) ∧ h2 = v) ?_ ?_ (fun _ _ _ q => q) (fun _ _ q => q)
    · refine HW.block ?_
      refine HW.loop (fun m f v => ∃ S' : List FrM, m = S'.length ∧ S' ≠ [] ∧ f 3 = .slice (some ⟨g, 0, none⟩) S'.length c3 ∧ Stk v h.size (some ⟨g, 0, none⟩) c3 S' ∧ popS (stk S) = popS (stk S') ∧ S'.length ≤ S.length ∧ (∀ p' ∈ S', p'.1.2.1 ≤ 9223372036854775807) ∧ f 0 = .slice (some ⟨sb, so, none⟩) l.length cap ∧ f 9 = .slice (some ⟨sb, so, none⟩) l.length cap ∧ f 10 = I64 l.length ∧ f 11 = I64 k ∧ f 5 = .pointer (some ⟨u.size, 0, none⟩) ∧ h2 = v) S.length
        ⟨S, rfl, hne, f3, hS2, rfl, Nat.le_refl _, hbd, f0, f9, f10, f11, e5, rfl⟩ ?_
      clear f0 f3 f9 f10 f11 e5 hS2
      rintro m f v ⟨S', hm', hne', f3, hS2, hpop, hSl, hbd', f0, f9, f10, f11, f5, rfl⟩
      obtain ⟨T, p, rfl⟩ : ∃ T p, S' = T ++ [p] := by
        rcases List.eq_nil_or_concat S' with q | ⟨T, p, q⟩
        · exact absurd q hne'
        · exact ⟨T, p, by rw [q]; simp⟩
      have hlen : (T ++ [p]).length = T.length + 1 := by simp
      obtain ⟨g', eg, hcF⟩ := hS2.fs.cellIn
      cases eg
      have hcap := hS2.fs.2
      rw [stk_snoc] at hpop
      by_cases h0 : p.1.2.1 = 0
      · have hpp : popS (p.1 :: stk T) = popS (stk T) := by
          obtain ⟨⟨o, n, ns⟩, mm⟩ := p
          have : n = 0 := h0
          subst this
          rfl
        rw [hpp] at hpop
        -- region 5
        repeat refine HW.seq ?_
        refine HW.region ?_
        refine HL.still (Runs.move f3) ?_
        intro u15 e15
        refine HL.still (Runs.move f3) ?_
        intro u16 e16
        refine HL.still (Runs.lenSl rfl Tryz.underlying74 e16) ?_
        intro u17 e17
        refine HL.still (Runs.sub e17 rfl (i64w (by omega))) ?_
        intro u18 e18
        refine HL.still (Runs.ixSl (o' := T.length * 3) Tryz.underlying74 sz73 e15 e18 (by omega) (by omega) (by omega)) ?_
        intro u19 e19
        refine HL.still (Runs.fld (o' := T.length * 3 + 1) Tryz.underlying73 rfl sz3 (by decide) e19 (by first | rfl | omega)) ?_
        intro u20 e20
        refine HL.still (Runs.load Tryz.underlying3 rfl e20 (hcF 1 _ rfl)) ?_
        intro u21 e21
        refine HL.still (Runs.eql e21 rfl (t := true) (by simp [h0])) ?_
        intro u22 e22
        refine HL.nil ?_
        refine HW.yes e22 ?_
        refine HW.skip ?_
        repeat refine HW.seq ?_
        refine HW.block ?_
        -- region 6
        repeat refine HW.seq ?_
        refine HW.region ?_
        refine HL.still (Runs.move f3) ?_
        intro u23 e23
        refine HL.still (Runs.move f3) ?_
        intro u24 e24
        refine HL.still (Runs.lenSl rfl Tryz.underlying74 e24) ?_
        intro u25 e25
        refine HL.still (Runs.sub e25 rfl (i64w (by omega))) ?_
        intro u26 e26
        refine HL.still (Runs.sliceSl Tryz.underlying74 sz73 e23 (lo := 0) (hi := T.length) rfl ⟨_, e26.trans (congrArg (Value.int .i64) (by omega))⟩ (Nat.zero_le _) (by omega) sl0) ?_
        intro u27 e27
        refine HL.still (Runs.assign e27) ?_
        intro u3 e3
        refine HL.nil ?_
        have g3 : u3 = .slice (some ⟨g, 0, none⟩) T.length c3 := e3
        by_cases hT : T = []
        · subst hT
          -- region 7
          repeat refine HW.seq ?_
          refine HW.region ?_
          refine HL.still (Runs.move g3) ?_
          intro u28 e28
          refine HL.still (Runs.lenSl rfl Tryz.underlying74 e28) ?_
          intro u29 e29
          refine HL.still (Runs.eql e29 rfl (t := true) rfl) ?_
          intro u30 e30
          refine HL.nil ?_
          refine HW.yes e30 ?_
          -- region 8
          repeat refine HW.seq ?_
          refine HW.region ?_
          refine HL.still (Runs.assign rfl) ?_
          intro u2 e2
          refine HL.nil ?_
          refine HW.ret ?_
          refine RT.one rfl e2 ⟨?_, X02⟩
          rw [rightO_no]
          rw [hgo]
          unfold goS stepS
          rw [hpop]
          rfl
        · have hTp : 0 < T.length := List.length_pos_iff.2 hT
          -- region 7
          repeat refine HW.seq ?_
          refine HW.region ?_
          refine HL.still (Runs.move g3) ?_
          intro u28 e28
          refine HL.still (Runs.lenSl rfl Tryz.underlying74 e28) ?_
          intro u29 e29
          refine HL.still (Runs.eql e29 rfl (t := false) (by simp; omega)) ?_
          intro u30 e30
          refine HL.nil ?_
          refine HW.no e30 ?_
          refine HW.skip ?_
          exact ⟨T.length, by omega, T, rfl, hT, g3, hS2.pop, hpop, by omega, (fun p' hp' => hbd' p' (List.mem_append.2 (.inl hp'))), f0, f9, f10, f11, f5, rfl⟩
      · have hpp : popS (p.1 :: stk T) = p.1 :: stk T := by
          obtain ⟨⟨o, n, ns⟩, mm⟩ := p
          obtain ⟨n', rfl⟩ : ∃ n', n = n' + 1 := ⟨n - 1, by have : n ≠ 0 := h0; omega⟩
          rfl
        rw [hpp] at hpop
        -- region 5
        repeat refine HW.seq ?_
        refine HW.region ?_
        refine HL.still (Runs.move f3) ?_
        intro u15 e15
        refine HL.still (Runs.move f3) ?_
        intro u16 e16
        refine HL.still (Runs.lenSl rfl Tryz.underlying74 e16) ?_
        intro u17 e17
        refine HL.still (Runs.sub e17 rfl (i64w (by omega))) ?_
        intro u18 e18
        refine HL.still (Runs.ixSl (o' := T.length * 3) Tryz.underlying74 sz73 e15 e18 (by omega) (by omega) (by omega)) ?_
        intro u19 e19
        refine HL.still (Runs.fld (o' := T.length * 3 + 1) Tryz.underlying73 rfl sz3 (by decide) e19 (by first | rfl | omega)) ?_
        intro u20 e20
        refine HL.still (Runs.load Tryz.underlying3 rfl e20 (hcF 1 _ rfl)) ?_
        intro u21 e21
        refine HL.still (Runs.eql e21 rfl (t := false) (by simp [h0])) ?_
        intro u22 e22
        refine HL.nil ?_
        refine HW.no e22 ?_
        refine HW.exitHere ?_
        exact ⟨T, p, h0, f3.trans (by rw [hlen]), hS2, hpop, by omega, hbd', f0, f9, f10, f11, f5, rfl⟩
    clear f0 f3 f9 f10 f11 e5 hS2
    rintro f v ⟨T, p, hp0, f3, hS2, hpop, hTl, hbd', f0, f9, f10, f11, f5, rfl⟩
    obtain ⟨g', eg, hcF⟩ := hS2.fs.cellIn
    cases eg
    obtain ⟨g', cur, eg, _, hb2, hcl, _, _⟩ := hS2.fs.blkAt (by simp)
    cases eg
    have hcap := hS2.fs.2
    have hlen : (T ++ [p]).length = T.length + 1 := by simp
    have hpb := hbd' p (by simp)
    have hcur : T.length * 3 + 1 < cur.length := by omega
    -- region 9
    repeat refine HW.seq ?_
    refine HW.region ?_
    refine HL.still (Runs.move f3) ?_
    intro u31 e31
    refine HL.still (Runs.move f3) ?_
    intro u32 e32
    refine HL.still (Runs.lenSl rfl Tryz.underlying74 e32) ?_
    intro u33 e33
    refine HL.still (Runs.sub e33 rfl (i64w (by omega))) ?_
    intro u34 e34
    refine HL.still (Runs.ixSl (o' := T.length * 3) Tryz.underlying74 sz73 e31 e34 (by omega) (by omega) (by omega)) ?_
    intro u35 e35
    refine HL.still (Runs.assign e35) ?_
    intro u6 e6
    refine HL.nil ?_
    have g6 : u6 = .pointer (some ⟨g, T.length * 3, none⟩) := e6
    -- region 10
    repeat refine HW.seq ?_
    refine HW.region ?_
    refine HL.still (Runs.move g6) ?_
    intro u36 e36
    refine HL.still (Runs.nilc e36) ?_
    intro u37 e37
    refine HL.still (Runs.fld (o' := T.length * 3 + 1) Tryz.underlying73 rfl sz3 (by decide) e37 (by first | rfl | omega)) ?_
    intro u38 e38
    refine HL.still (Runs.load Tryz.underlying3 rfl e38 (hcF 1 _ rfl)) ?_
    intro u39 e39
    refine HL.still (Runs.sub e39 rfl (c := ((p.1.2.1 - 1 : Nat) : Int)) (by rw [i64w (by omega)]; omega)) ?_
    intro u40 e40
    refine HL.still (Runs.nilc e36) ?_
    intro u41 e41
    refine HL.still (Runs.fld (o' := T.length * 3 + 1) Tryz.underlying73 rfl sz3 (by decide) e41 (by first | rfl | omega)) ?_
    intro u42 e42
    refine HL.zero (HO.store (s := 1) sz3 e42 e40 rfl hb2 hcur rfl ?_)
    intro h3 w3
    refine HL.nil ?_
    have hS3 := hS2.set hb2 w3
    have X03 : Ext h h3 := X02.wr w3 hgb
    have hJ3 : h3[u.size]? = some (.cells (encJ x).toArray 41 (0, 0)) := w3.keep hJ2 (by omega)
    have hP3 := hP.ext X03
    have hg3 : g < h3.size := by rw [w3.size]; exact lt_of_some hb2
    clear hS2 hb2 hcF w3 hJ2 X02 X2 w1 w2 hcur hcl
    obtain ⟨⟨o, n, ns⟩, mm⟩ := p
    simp only at hp0 hpop hS3 hpb
    obtain ⟨g', eg, hcF⟩ := hS3.fs.cellIn
    cases eg
    have hstep := step_eq x hpop
    rw [stk_len] at hstep
    refine HW.seq ?_
    refine HW.mono (N := fun f v => fitV o x = true ∧ T.length + 1 ≤ 50 ∧ f 0 = .slice (some ⟨sb, so, none⟩) l.length cap ∧ f 9 = .slice (some ⟨sb, so, none⟩) l.length cap ∧ f 10 = I64 l.length ∧ f 11 = I64 k ∧ f 5 = .pointer (some ⟨u.size, 0, none⟩) ∧ f 6 = .pointer (some ⟨g, T.length * 3, none⟩) ∧ f 3 = .slice (some ⟨g, 0, none⟩) (T.length + 1) c3 ∧ Ext h3 v) ?_ ?_ (fun _ _ _ q => q) (fun _ _ q => q)
    · repeat refine HW.seq ?_
      refine HW.mono (N := fun f v => f 68 = .bool (!(fitV o x && decide (T.length + 1 ≤ 50))) ∧ f 0 = .slice (some ⟨sb, so, none⟩) l.length cap ∧ f 9 = .slice (some ⟨sb, so, none⟩) l.length cap ∧ f 10 = I64 l.length ∧ f 11 = I64 k ∧ f 5 = .pointer (some ⟨u.size, 0, none⟩) ∧ f 6 = .pointer (some ⟨g, T.length * 3, none⟩) ∧ f 3 = .slice (some ⟨g, 0, none⟩) (T.length + 1) c3 ∧ Ext h3 v) ?_ ?_ (fun _ _ _ q => q) (fun _ _ q => q)
      · have hO := own_ch h3 x hP3 (by omega)
        have hV : ∀ u', Ext h3 u' → CH Tryz.prog 52 #[.string (strOf x.2.1)] u' fun v h' => v = .bool (validO x.2.1) ∧ Ext u' h' := fun u' X => valid_ch u' x.2.1 (hP3.ext X) (by omega)
        have hfit : fitV o x = (ownO x && (o || decide (x.2.1 = [])) && validO x.2.1) := rfl
        cases hown : ownO x with
        | false =>
          rw [hown] at hO hfit
          -- region 11
          repeat refine HW.seq ?_
          refine HW.region ?_
          refine HL.still (Runs.loadAgg Tryz.underlying41 rfl sz41 f5 (encJ_len x) (load_blk hJ3)) ?_
          intro u43 e43
          refine HL.one (HO.call Tryz.func51 bd51 nm51 (args1 e43) rfl ((hO).mono ?_))
          rintro _ h4 ⟨rfl, X4⟩
          intro u44 e44
          refine HL.still (Runs.notb e44 (u := true) rfl) ?_
          intro u45 e45
          refine HL.still (Runs.move e45) ?_
          intro u46 e46
          refine HL.skipG rfl rfl e46 ?_
          intro u47 e47
          refine HL.skipG rfl rfl e46 ?_
          intro u48 e48
          refine HL.skipG rfl rfl e46 ?_
          intro u49 e49
          refine HL.still (Runs.pick e46 rfl) ?_
          intro u50 e50
          refine HL.still (Runs.move e50) ?_
          intro u51 e51
          refine HL.skipG rfl rfl e51 ?_
          intro u52 e52
          refine HL.skipG rfl rfl e51 ?_
          intro u53 e53
          refine HL.skipG rfl rfl e51 ?_
          intro u54 e54
          refine HL.skipG rfl rfl e51 ?_
          intro u55 e55
          refine HL.skipG rfl rfl e51 ?_
          intro u56 e56
          refine HL.skipG rfl rfl e51 ?_
          intro u57 e57
          refine HL.skipU rfl rfl e57 ?_
          intro u58 e58
          refine HL.skipU rfl rfl e57 ?_
          intro u59 e59
          refine HL.skipU rfl rfl e57 ?_
          intro u60 e60
          refine HL.skipG rfl rfl e51 ?_
          intro u61 e61
          refine HL.still (Runs.pick e51 rfl) ?_
          intro u62 e62
          refine HL.still (Runs.move e62) ?_
          intro u63 e63
          refine HL.skipG rfl rfl e63 ?_
          intro u64 e64
          refine HL.skipG rfl rfl e63 ?_
          intro u65 e65
          refine HL.skipG rfl rfl e63 ?_
          intro u66 e66
          refine HL.skipG rfl rfl e63 ?_
          intro u67 e67
          refine HL.still (Runs.pick e63 rfl) ?_
          intro u68 e68
          refine HL.nil ?_
          exact ⟨by rw [hfit]; exact e68, f0, f9, f10, f11, f5, g6, f3, X4⟩
        | true =>
          rw [hown] at hO hfit
          by_cases hT50 : T.length + 1 ≤ 50
          · rw [decide_eq_true hT50]
            cases hv : validO x.2.1 with
            | true =>
              rw [hv] at hV hfit
              cases o with
              | true =>
                -- region 11
                repeat refine HW.seq ?_
                refine HW.region ?_
                refine HL.still (Runs.loadAgg Tryz.underlying41 rfl sz41 f5 (encJ_len x) (load_blk hJ3)) ?_
                intro u43 e43
                refine HL.one (HO.call Tryz.func51 bd51 nm51 (args1 e43) rfl ((hO).mono ?_))
                rintro _ h4 ⟨rfl, X4⟩
                intro u44 e44
                refine HL.still (Runs.notb e44 (u := false) rfl) ?_
                intro u45 e45
                refine HL.still (Runs.move e45) ?_
                intro u46 e46
                refine HL.stillG rfl rfl e46 (Runs.move f3) ?_
                intro u47 e47
                refine HL.stillG rfl rfl e46 (Runs.lenSl rfl Tryz.underlying74 e47) ?_
                intro u48 e48
                refine HL.stillG rfl rfl e46 (Runs.gtr e48 rfl (t := false) (decide_eq_false (by omega))) ?_
                intro u49 e49
                refine HL.still (Runs.pick e46 e49) ?_
                intro u50 e50
                refine HL.still (Runs.move e50) ?_
                intro u51 e51
                refine HL.stillG rfl rfl e51 (Runs.move g6) ?_
                intro u52 e52
                refine HL.stillG rfl rfl e51 (Runs.nilc e52) ?_
                intro u53 e53
                refine HL.stillG rfl rfl e51 (Runs.fld (o' := T.length * 3) Tryz.underlying73 rfl sz4 (by decide) e53 (by first | rfl | omega)) ?_
                intro u54 e54
                refine HL.stillG rfl rfl e51 (Runs.load Tryz.underlying4 rfl e54 ((cellH_keep (X4.old g hg3)).trans (hcF 0 _ rfl))) ?_
                intro u55 e55
                refine HL.stillG rfl rfl e51 (Runs.notb e55 (u := false) rfl) ?_
                intro u56 e56
                refine HL.stillG rfl rfl e51 (Runs.move e56) ?_
                intro u57 e57
                refine HL.skipG rfl rfl e57 ?_
                intro u58 e58
                refine HL.skipG rfl rfl e57 ?_
                intro u59 e59
                refine HL.skipG rfl rfl e57 ?_
                intro u60 e60
                refine HL.stillG rfl rfl e51 (Runs.pick e57 rfl) ?_
                intro u61 e61
                refine HL.still (Runs.pick e51 e61) ?_
                intro u62 e62
                refine HL.still (Runs.move e62) ?_
                intro u63 e63
                refine HL.stillG rfl rfl e63 (Runs.fld (o' := 1) Tryz.underlying41 rfl sz9 (by decide) f5 (by rfl)) ?_
                intro u64 e64
                refine HL.stillG rfl rfl e63 (Runs.load Tryz.underlying9 rfl e64 (cellH_list (X4.keepE hJ3) rfl)) ?_
                intro u65 e65
                refine HL.oneG rfl rfl e63 (HO.call Tryz.func52 bd52 nm52 (args1 e65) rfl ((hV _ X4).mono ?_))
                rintro _ h5 ⟨rfl, X5⟩
                intro u66 e66
                refine HL.stillG rfl rfl e63 (Runs.notb e66 (u := false) rfl) ?_
                intro u67 e67
                refine HL.still (Runs.pick e63 e67) ?_
                intro u68 e68
                refine HL.nil ?_
                exact ⟨by rw [hfit]; exact e68, f0, f9, f10, f11, f5, g6, f3, X4.ext X5 (Nat.le_refl _)⟩
              | false =>
                by_cases hk0 : x.2.1 = []
                · rw [decide_eq_true hk0] at hfit
                  -- region 11
                  repeat refine HW.seq ?_
                  refine HW.region ?_
                  refine HL.still (Runs.loadAgg Tryz.underlying41 rfl sz41 f5 (encJ_len x) (load_blk hJ3)) ?_
                  intro u43 e43
                  refine HL.one (HO.call Tryz.func51 bd51 nm51 (args1 e43) rfl ((hO).mono ?_))
                  rintro _ h4 ⟨rfl, X4⟩
                  intro u44 e44
                  refine HL.still (Runs.notb e44 (u := false) rfl) ?_
                  intro u45 e45
                  refine HL.still (Runs.move e45) ?_
                  intro u46 e46
                  refine HL.stillG rfl rfl e46 (Runs.move f3) ?_
                  intro u47 e47
                  refine HL.stillG rfl rfl e46 (Runs.lenSl rfl Tryz.underlying74 e47) ?_
                  intro u48 e48
                  refine HL.stillG rfl rfl e46 (Runs.gtr e48 rfl (t := false) (decide_eq_false (by omega))) ?_
                  intro u49 e49
                  refine HL.still (Runs.pick e46 e49) ?_
                  intro u50 e50
                  refine HL.still (Runs.move e50) ?_
                  intro u51 e51
                  refine HL.stillG rfl rfl e51 (Runs.move g6) ?_
                  intro u52 e52
                  refine HL.stillG rfl rfl e51 (Runs.nilc e52) ?_
                  intro u53 e53
                  refine HL.stillG rfl rfl e51 (Runs.fld (o' := T.length * 3) Tryz.underlying73 rfl sz4 (by decide) e53 (by first | rfl | omega)) ?_
                  intro u54 e54
                  refine HL.stillG rfl rfl e51 (Runs.load Tryz.underlying4 rfl e54 ((cellH_keep (X4.old g hg3)).trans (hcF 0 _ rfl))) ?_
                  intro u55 e55
                  refine HL.stillG rfl rfl e51 (Runs.notb e55 (u := true) rfl) ?_
                  intro u56 e56
                  refine HL.stillG rfl rfl e51 (Runs.move e56) ?_
                  intro u57 e57
                  refine HL.stillG rfl rfl e57 (Runs.fld (o' := 1) Tryz.underlying41 rfl sz9 (by decide) f5 (by rfl)) ?_
                  intro u58 e58
                  refine HL.stillG rfl rfl e57 (Runs.load Tryz.underlying9 rfl e58 (cellH_list (X4.keepE hJ3) rfl)) ?_
                  intro u59 e59
                  refine HL.stillG rfl rfl e57 (Runs.neqS e59 rfl (t := false) (by simp [hk0])) ?_
                  intro u60 e60
                  refine HL.stillG rfl rfl e51 (Runs.pick e57 e60) ?_
                  intro u61 e61
                  refine HL.still (Runs.pick e51 e61) ?_
                  intro u62 e62
                  refine HL.still (Runs.move e62) ?_
                  intro u63 e63
                  refine HL.stillG rfl rfl e63 (Runs.fld (o' := 1) Tryz.underlying41 rfl sz9 (by decide) f5 (by rfl)) ?_
                  intro u64 e64
                  refine HL.stillG rfl rfl e63 (Runs.load Tryz.underlying9 rfl e64 (cellH_list (X4.keepE hJ3) rfl)) ?_
                  intro u65 e65
                  refine HL.oneG rfl rfl e63 (HO.call Tryz.func52 bd52 nm52 (args1 e65) rfl ((hV _ X4).mono ?_))
                  rintro _ h5 ⟨rfl, X5⟩
                  intro u66 e66
                  refine HL.stillG rfl rfl e63 (Runs.notb e66 (u := false) rfl) ?_
                  intro u67 e67
                  refine HL.still (Runs.pick e63 e67) ?_
                  intro u68 e68
                  refine HL.nil ?_
                  exact ⟨by rw [hfit]; exact e68, f0, f9, f10, f11, f5, g6, f3, X4.ext X5 (Nat.le_refl _)⟩
                · rw [decide_eq_false hk0] at hfit
                  -- region 11
                  repeat refine HW.seq ?_
                  refine HW.region ?_
                  refine HL.still (Runs.loadAgg Tryz.underlying41 rfl sz41 f5 (encJ_len x) (load_blk hJ3)) ?_
                  intro u43 e43
                  refine HL.one (HO.call Tryz.func51 bd51 nm51 (args1 e43) rfl ((hO).mono ?_))
                  rintro _ h4 ⟨rfl, X4⟩
                  intro u44 e44
                  refine HL.still (Runs.notb e44 (u := false) rfl) ?_
                  intro u45 e45
                  refine HL.still (Runs.move e45) ?_
                  intro u46 e46
                  refine HL.stillG rfl rfl e46 (Runs.move f3) ?_
                  intro u47 e47
                  refine HL.stillG rfl rfl e46 (Runs.lenSl rfl Tryz.underlying74 e47) ?_
                  intro u48 e48
                  refine HL.stillG rfl rfl e46 (Runs.gtr e48 rfl (t := false) (decide_eq_false (by omega))) ?_
                  intro u49 e49
                  refine HL.still (Runs.pick e46 e49) ?_
                  intro u50 e50
                  refine HL.still (Runs.move e50) ?_
                  intro u51 e51
                  refine HL.stillG rfl rfl e51 (Runs.move g6) ?_
                  intro u52 e52
                  refine HL.stillG rfl rfl e51 (Runs.nilc e52) ?_
                  intro u53 e53
                  refine HL.stillG rfl rfl e51 (Runs.fld (o' := T.length * 3) Tryz.underlying73 rfl sz4 (by decide) e53 (by first | rfl | omega)) ?_
                  intro u54 e54
                  refine HL.stillG rfl rfl e51 (Runs.load Tryz.underlying4 rfl e54 ((cellH_keep (X4.old g hg3)).trans (hcF 0 _ rfl))) ?_
                  intro u55 e55
                  refine HL.stillG rfl rfl e51 (Runs.notb e55 (u := true) rfl) ?_
                  intro u56 e56
                  refine HL.stillG rfl rfl e51 (Runs.move e56) ?_
                  intro u57 e57
                  refine HL.stillG rfl rfl e57 (Runs.fld (o' := 1) Tryz.underlying41 rfl sz9 (by decide) f5 (by rfl)) ?_
                  intro u58 e58
                  refine HL.stillG rfl rfl e57 (Runs.load Tryz.underlying9 rfl e58 (cellH_list (X4.keepE hJ3) rfl)) ?_
                  intro u59 e59
                  refine HL.stillG rfl rfl e57 (Runs.neqS e59 rfl (t := true) (by simp [hk0])) ?_
                  intro u60 e60
                  refine HL.stillG rfl rfl e51 (Runs.pick e57 e60) ?_
                  intro u61 e61
                  refine HL.still (Runs.pick e51 e61) ?_
                  intro u62 e62
                  refine HL.still (Runs.move e62) ?_
                  intro u63 e63
                  refine HL.skipG rfl rfl e63 ?_
                  intro u64 e64
                  refine HL.skipG rfl rfl e63 ?_
                  intro u65 e65
                  refine HL.skipG rfl rfl e63 ?_
                  intro u66 e66
                  refine HL.skipG rfl rfl e63 ?_
                  intro u67 e67
                  refine HL.still (Runs.pick e63 rfl) ?_
                  intro u68 e68
                  refine HL.nil ?_
                  exact ⟨by rw [hfit]; exact e68, f0, f9, f10, f11, f5, g6, f3, X4⟩
            | false =>
              rw [hv] at hV hfit
              cases o with
              | true =>
                -- region 11
                repeat refine HW.seq ?_
                refine HW.region ?_
                refine HL.still (Runs.loadAgg Tryz.underlying41 rfl sz41 f5 (encJ_len x) (load_blk hJ3)) ?_
                intro u43 e43
                refine HL.one (HO.call Tryz.func51 bd51 nm51 (args1 e43) rfl ((hO).mono ?_))
                rintro _ h4 ⟨rfl, X4⟩
                intro u44 e44
                refine HL.still (Runs.notb e44 (u := false) rfl) ?_
                intro u45 e45
                refine HL.still (Runs.move e45) ?_
                intro u46 e46
                refine HL.stillG rfl rfl e46 (Runs.move f3) ?_
                intro u47 e47
                refine HL.stillG rfl rfl e46 (Runs.lenSl rfl Tryz.underlying74 e47) ?_
                intro u48 e48
                refine HL.stillG rfl rfl e46 (Runs.gtr e48 rfl (t := false) (decide_eq_false (by omega))) ?_
                intro u49 e49
                refine HL.still (Runs.pick e46 e49) ?_
                intro u50 e50
                refine HL.still (Runs.move e50) ?_
                intro u51 e51
                refine HL.stillG rfl rfl e51 (Runs.move g6) ?_
                intro u52 e52
                refine HL.stillG rfl rfl e51 (Runs.nilc e52) ?_
                intro u53 e53
                refine HL.stillG rfl rfl e51 (Runs.fld (o' := T.length * 3) Tryz.underlying73 rfl sz4 (by decide) e53 (by first | rfl | omega)) ?_
                intro u54 e54
                refine HL.stillG rfl rfl e51 (Runs.load Tryz.underlying4 rfl e54 ((cellH_keep (X4.old g hg3)).trans (hcF 0 _ rfl))) ?_
                intro u55 e55
                refine HL.stillG rfl rfl e51 (Runs.notb e55 (u := false) rfl) ?_
                intro u56 e56
                refine HL.stillG rfl rfl e51 (Runs.move e56) ?_
                intro u57 e57
                refine HL.skipG rfl rfl e57 ?_
                intro u58 e58
                refine HL.skipG rfl rfl e57 ?_
                intro u59 e59
                refine HL.skipG rfl rfl e57 ?_
                intro u60 e60
                refine HL.stillG rfl rfl e51 (Runs.pick e57 rfl) ?_
                intro u61 e61
                refine HL.still (Runs.pick e51 e61) ?_
                intro u62 e62
                refine HL.still (Runs.move e62) ?_
                intro u63 e63
                refine HL.stillG rfl rfl e63 (Runs.fld (o' := 1) Tryz.underlying41 rfl sz9 (by decide) f5 (by rfl)) ?_
                intro u64 e64
                refine HL.stillG rfl rfl e63 (Runs.load Tryz.underlying9 rfl e64 (cellH_list (X4.keepE hJ3) rfl)) ?_
                intro u65 e65
                refine HL.oneG rfl rfl e63 (HO.call Tryz.func52 bd52 nm52 (args1 e65) rfl ((hV _ X4).mono ?_))
                rintro _ h5 ⟨rfl, X5⟩
                intro u66 e66
                refine HL.stillG rfl rfl e63 (Runs.notb e66 (u := true) rfl) ?_
                intro u67 e67
                refine HL.still (Runs.pick e63 e67) ?_
                intro u68 e68
                refine HL.nil ?_
                exact ⟨by rw [hfit]; exact e68, f0, f9, f10, f11, f5, g6, f3, X4.ext X5 (Nat.le_refl _)⟩
              | false =>
                by_cases hk0 : x.2.1 = []
                · rw [decide_eq_true hk0] at hfit
                  -- region 11
                  repeat refine HW.seq ?_
                  refine HW.region ?_
                  refine HL.still (Runs.loadAgg Tryz.underlying41 rfl sz41 f5 (encJ_len x) (load_blk hJ3)) ?_
                  intro u43 e43
                  refine HL.one (HO.call Tryz.func51 bd51 nm51 (args1 e43) rfl ((hO).mono ?_))
                  rintro _ h4 ⟨rfl, X4⟩
                  intro u44 e44
                  refine HL.still (Runs.notb e44 (u := false) rfl) ?_
                  intro u45 e45
                  refine HL.still (Runs.move e45) ?_
                  intro u46 e46
                  refine HL.stillG rfl rfl e46 (Runs.move f3) ?_
                  intro u47 e47
                  refine HL.stillG rfl rfl e46 (Runs.lenSl rfl Tryz.underlying74 e47) ?_
                  intro u48 e48
                  refine HL.stillG rfl rfl e46 (Runs.gtr e48 rfl (t := false) (decide_eq_false (by omega))) ?_
                  intro u49 e49
                  refine HL.still (Runs.pick e46 e49) ?_
                  intro u50 e50
                  refine HL.still (Runs.move e50) ?_
                  intro u51 e51
                  refine HL.stillG rfl rfl e51 (Runs.move g6) ?_
                  intro u52 e52
                  refine HL.stillG rfl rfl e51 (Runs.nilc e52) ?_
                  intro u53 e53
                  refine HL.stillG rfl rfl e51 (Runs.fld (o' := T.length * 3) Tryz.underlying73 rfl sz4 (by decide) e53 (by first | rfl | omega)) ?_
                  intro u54 e54
                  refine HL.stillG rfl rfl e51 (Runs.load Tryz.underlying4 rfl e54 ((cellH_keep (X4.old g hg3)).trans (hcF 0 _ rfl))) ?_
                  intro u55 e55
                  refine HL.stillG rfl rfl e51 (Runs.notb e55 (u := true) rfl) ?_
                  intro u56 e56
                  refine HL.stillG rfl rfl e51 (Runs.move e56) ?_
                  intro u57 e57
                  refine HL.stillG rfl rfl e57 (Runs.fld (o' := 1) Tryz.underlying41 rfl sz9 (by decide) f5 (by rfl)) ?_
                  intro u58 e58
                  refine HL.stillG rfl rfl e57 (Runs.load Tryz.underlying9 rfl e58 (cellH_list (X4.keepE hJ3) rfl)) ?_
                  intro u59 e59
                  refine HL.stillG rfl rfl e57 (Runs.neqS e59 rfl (t := false) (by simp [hk0])) ?_
                  intro u60 e60
                  refine HL.stillG rfl rfl e51 (Runs.pick e57 e60) ?_
                  intro u61 e61
                  refine HL.still (Runs.pick e51 e61) ?_
                  intro u62 e62
                  refine HL.still (Runs.move e62) ?_
                  intro u63 e63
                  refine HL.stillG rfl rfl e63 (Runs.fld (o' := 1) Tryz.underlying41 rfl sz9 (by decide) f5 (by rfl)) ?_
                  intro u64 e64
                  refine HL.stillG rfl rfl e63 (Runs.load Tryz.underlying9 rfl e64 (cellH_list (X4.keepE hJ3) rfl)) ?_
                  intro u65 e65
                  refine HL.oneG rfl rfl e63 (HO.call Tryz.func52 bd52 nm52 (args1 e65) rfl ((hV _ X4).mono ?_))
                  rintro _ h5 ⟨rfl, X5⟩
                  intro u66 e66
                  refine HL.stillG rfl rfl e63 (Runs.notb e66 (u := true) rfl) ?_
                  intro u67 e67
                  refine HL.still (Runs.pick e63 e67) ?_
                  intro u68 e68
                  refine HL.nil ?_
                  exact ⟨by rw [hfit]; exact e68, f0, f9, f10, f11, f5, g6, f3, X4.ext X5 (Nat.le_refl _)⟩
                · rw [decide_eq_false hk0] at hfit
                  -- region 11
                  repeat refine HW.seq ?_
                  refine HW.region ?_
                  refine HL.still (Runs.loadAgg Tryz.underlying41 rfl sz41 f5 (encJ_len x) (load_blk hJ3)) ?_
                  intro u43 e43
                  refine HL.one (HO.call Tryz.func51 bd51 nm51 (args1 e43) rfl ((hO).mono ?_))
                  rintro _ h4 ⟨rfl, X4⟩
                  intro u44 e44
                  refine HL.still (Runs.notb e44 (u := false) rfl) ?_
                  intro u45 e45
                  refine HL.still (Runs.move e45) ?_
                  intro u46 e46
                  refine HL.stillG rfl rfl e46 (Runs.move f3) ?_
                  intro u47 e47
                  refine HL.stillG rfl rfl e46 (Runs.lenSl rfl Tryz.underlying74 e47) ?_
                  intro u48 e48
                  refine HL.stillG rfl rfl e46 (Runs.gtr e48 rfl (t := false) (decide_eq_false (by omega))) ?_
                  intro u49 e49
                  refine HL.still (Runs.pick e46 e49) ?_
                  intro u50 e50
                  refine HL.still (Runs.move e50) ?_
                  intro u51 e51
                  refine HL.stillG rfl rfl e51 (Runs.move g6) ?_
                  intro u52 e52
                  refine HL.stillG rfl rfl e51 (Runs.nilc e52) ?_
                  intro u53 e53
                  refine HL.stillG rfl rfl e51 (Runs.fld (o' := T.length * 3) Tryz.underlying73 rfl sz4 (by decide) e53 (by first | rfl | omega)) ?_
                  intro u54 e54
                  refine HL.stillG rfl rfl e51 (Runs.load Tryz.underlying4 rfl e54 ((cellH_keep (X4.old g hg3)).trans (hcF 0 _ rfl))) ?_
                  intro u55 e55
                  refine HL.stillG rfl rfl e51 (Runs.notb e55 (u := true) rfl) ?_
                  intro u56 e56
                  refine HL.stillG rfl rfl e51 (Runs.move e56) ?_
                  intro u57 e57
                  refine HL.stillG rfl rfl e57 (Runs.fld (o' := 1) Tryz.underlying41 rfl sz9 (by decide) f5 (by rfl)) ?_
                  intro u58 e58
                  refine HL.stillG rfl rfl e57 (Runs.load Tryz.underlying9 rfl e58 (cellH_list (X4.keepE hJ3) rfl)) ?_
                  intro u59 e59
                  refine HL.stillG rfl rfl e57 (Runs.neqS e59 rfl (t := true) (by simp [hk0])) ?_
                  intro u60 e60
                  refine HL.stillG rfl rfl e51 (Runs.pick e57 e60) ?_
                  intro u61 e61
                  refine HL.still (Runs.pick e51 e61) ?_
                  intro u62 e62
                  refine HL.still (Runs.move e62) ?_
                  intro u63 e63
                  refine HL.skipG rfl rfl e63 ?_
                  intro u64 e64
                  refine HL.skipG rfl rfl e63 ?_
                  intro u65 e65
                  refine HL.skipG rfl rfl e63 ?_
                  intro u66 e66
                  refine HL.skipG rfl rfl e63 ?_
                  intro u67 e67
                  refine HL.still (Runs.pick e63 rfl) ?_
                  intro u68 e68
                  refine HL.nil ?_
                  exact ⟨by rw [hfit]; exact e68, f0, f9, f10, f11, f5, g6, f3, X4⟩
          · rw [decide_eq_false hT50]
            -- region 11
            repeat refine HW.seq ?_
            refine HW.region ?_
            refine HL.still (Runs.loadAgg Tryz.underlying41 rfl sz41 f5 (encJ_len x) (load_blk hJ3)) ?_
            intro u43 e43
            refine HL.one (HO.call Tryz.func51 bd51 nm51 (args1 e43) rfl ((hO).mono ?_))
            rintro _ h4 ⟨rfl, X4⟩
            intro u44 e44
            refine HL.still (Runs.notb e44 (u := false) rfl) ?_
            intro u45 e45
            refine HL.still (Runs.move e45) ?_
            intro u46 e46
            refine HL.stillG rfl rfl e46 (Runs.move f3) ?_
            intro u47 e47
            refine HL.stillG rfl rfl e46 (Runs.lenSl rfl Tryz.underlying74 e47) ?_
            intro u48 e48
            refine HL.stillG rfl rfl e46 (Runs.gtr e48 rfl (t := true) (decide_eq_true (by omega))) ?_
            intro u49 e49
            refine HL.still (Runs.pick e46 e49) ?_
            intro u50 e50
            refine HL.still (Runs.move e50) ?_
            intro u51 e51
            refine HL.skipG rfl rfl e51 ?_
            intro u52 e52
            refine HL.skipG rfl rfl e51 ?_
            intro u53 e53
            refine HL.skipG rfl rfl e51 ?_
            intro u54 e54
            refine HL.skipG rfl rfl e51 ?_
            intro u55 e55
            refine HL.skipG rfl rfl e51 ?_
            intro u56 e56
            refine HL.skipG rfl rfl e51 ?_
            intro u57 e57
            refine HL.skipU rfl rfl e57 ?_
            intro u58 e58
            refine HL.skipU rfl rfl e57 ?_
            intro u59 e59
            refine HL.skipU rfl rfl e57 ?_
            intro u60 e60
            refine HL.skipG rfl rfl e51 ?_
            intro u61 e61
            refine HL.still (Runs.pick e51 rfl) ?_
            intro u62 e62
            refine HL.still (Runs.move e62) ?_
            intro u63 e63
            refine HL.skipG rfl rfl e63 ?_
            intro u64 e64
            refine HL.skipG rfl rfl e63 ?_
            intro u65 e65
            refine HL.skipG rfl rfl e63 ?_
            intro u66 e66
            refine HL.skipG rfl rfl e63 ?_
            intro u67 e67
            refine HL.still (Runs.pick e63 rfl) ?_
            intro u68 e68
            refine HL.nil ?_
            exact ⟨by rw [Bool.and_false]; exact e68, f0, f9, f10, f11, f5, g6, f3, X4⟩
      clear f0 f3 f5 g6 f9 f10 f11
      rintro f v ⟨f68, f0, f9, f10, f11, f5, g6, f3, X4⟩
      cases hb : fitV o x && decide (T.length + 1 ≤ 50) with
      | true =>
        rw [hb] at f68
        rw [Bool.and_eq_true, decide_eq_true_eq] at hb
        refine HW.no f68 ?_
        refine HW.skip ?_
        exact ⟨hb.1, hb.2, f0, f9, f10, f11, f5, g6, f3, X4⟩
      | false =>
        rw [hb] at f68
        refine HW.yes f68 ?_
        -- region 12
        repeat refine HW.seq ?_
        refine HW.region ?_
        refine HL.still (Runs.assign rfl) ?_
        intro u2 e2
        refine HL.nil ?_
        refine HW.ret ?_
        refine RT.one rfl e2 ⟨?_, X03.ext X4 (Nat.le_refl _)⟩
        rw [rightO_no]
        rw [hgo]
        show (match stepS (stk S) x with | none => false | some s' => goS s' (l.drop (k + 1))) = false
        rw [hstep, hb]
        rfl
    clear f0 f3 f5 g6 f9 f10 f11
    rintro f v ⟨hfit, hT50, f0, f9, f10, f11, f5, g6, f3, X4⟩
    have hS4 := hS3.ext X4
    have hJ4 := X4.keepE hJ3
    have X04 : Ext h v := X03.ext X4 (Nat.le_refl _)
    clear hS3 hJ3 X03 hP3 hcF hg3
    rw [hfit, decide_eq_true hT50] at hstep
    have hgos : goS (stk S) (x :: l.drop (k + 1)) = match stepS (stk S) x with | none => false | some s' => goS s' (l.drop (k + 1)) := rfl
    rw [hstep] at hgos
    have hkl : x.2.1.length ≤ maxLen := Nat.le_trans hx1 (by decide)
    -- its key is none that was had
    refine HW.seq ?_
    refine HW.mono (N := fun f v => (o && ns.contains x.2.1) = false ∧ f 0 = .slice (some ⟨sb, so, none⟩) l.length cap ∧ f 9 = .slice (some ⟨sb, so, none⟩) l.length cap ∧ f 10 = I64 l.length ∧ f 11 = I64 k ∧ f 5 = .pointer (some ⟨u.size, 0, none⟩) ∧ f 3 = .slice (some ⟨g, 0, none⟩) (T.length + 1) c3 ∧ v[u.size]? = some (.cells (encJ x).toArray 41 (0, 0)) ∧ Ext h v ∧ Stk v h.size (some ⟨g, 0, none⟩) c3 (T ++ [((o, n - 1, if o = true then x.2.1 :: ns else ns), mm)])) ?_ ?_ (fun _ _ _ q => q) (fun _ _ q => q)
    · repeat refine HW.seq ?_
      obtain ⟨g', eg, hcF⟩ := hS4.fs.cellIn
      cases eg
      cases o with
      | false =>
        -- region 13
        repeat refine HW.seq ?_
        refine HW.region ?_
        refine HL.still (Runs.move g6) ?_
        intro u69 e69
        refine HL.still (Runs.nilc e69) ?_
        intro u70 e70
        refine HL.still (Runs.fld (o' := T.length * 3) Tryz.underlying73 rfl sz4 (by decide) e70 (by first | rfl | omega)) ?_
        intro u71 e71
        refine HL.still (Runs.load Tryz.underlying4 rfl e71 (hcF 0 _ rfl)) ?_
        intro u72 e72
        refine HL.nil ?_
        refine HW.no e72 ?_
        refine HW.skip ?_
        exact ⟨rfl, f0, f9, f10, f11, f5, f3, hJ4, X04, hS4⟩
      | true =>
        have hfr := hS4.ok ((true, n - 1, ns), mm) (by simp)
        cases mm with
        | none => cases hfr
        | some b =>
          obtain ⟨hbb, hM⟩ : h.size ≤ b ∧ MpS v b (cnt ns) := hfr
          have hcN : ∀ j w, (encJ x)[j]? = some w → cellH v u.size j = some w := fun j w q => cellH_list hJ4 q
          -- region 13
          repeat refine HW.seq ?_
          refine HW.region ?_
          refine HL.still (Runs.move g6) ?_
          intro u69 e69
          refine HL.still (Runs.nilc e69) ?_
          intro u70 e70
          refine HL.still (Runs.fld (o' := T.length * 3) Tryz.underlying73 rfl sz4 (by decide) e70 (by first | rfl | omega)) ?_
          intro u71 e71
          refine HL.still (Runs.load Tryz.underlying4 rfl e71 (hcF 0 _ rfl)) ?_
          intro u72 e72
          refine HL.nil ?_
          refine HW.yes e72 ?_
          cases hcn : ns.contains x.2.1 with
          | true =>
            have hc1 : cnt ns x.2.1 = 1 := by unfold cnt; rw [if_pos hcn]
            -- region 14
            repeat refine HW.seq ?_
            refine HW.drawTail 8 mixed (by kernel_rfl) ?_
            refine HS.still (Runs.move g6) ?_
            intro u73 e73
            refine HS.still (Runs.nilc e73) ?_
            intro u74 e74
            refine HS.still (Runs.fld (o' := T.length * 3 + 2) Tryz.underlying73 rfl sz71 (by decide) e74 (by first | rfl | omega)) ?_
            intro u75 e75
            refine HS.still (Runs.load Tryz.underlying71 rfl e75 (hcF 2 _ rfl)) ?_
            intro u76 e76
            refine HS.still (Runs.fld (o' := 1) Tryz.underlying41 rfl sz9 (by decide) f5 (by rfl)) ?_
            intro u77 e77
            refine HS.still (Runs.load Tryz.underlying9 rfl e77 (hcN 1 _ rfl)) ?_
            intro u78 e78
            refine HS.still (Runs.lookSv e76 e78 hM hkl hc1) ?_
            intro u79 e79
            refine HS.still (Runs.add e79 rfl (c := 2) (i64w (by omega))) ?_
            intro u80 e80
            refine HS.nil ?_
            refine HL.zero (HO.putS e76 e78 e80 hM hkl ?_)
            intro h6 z6 o6 M6
            refine HL.nil ?_
            have c1' : cellH h6 g (T.length * 3 + 2) = some (.map (some b)) := (cellH_keep (o6 g (Ne.symm (by obtain ⟨g', cur, eg, _, q, _⟩ := hS4.fs.blkAt (by simp); cases eg; exact hM.ne q)))).trans (hcF 2 _ rfl)
            have c2' : cellH h6 u.size 1 = some (.string (strOf x.2.1)) := (cellH_keep (o6 u.size (Ne.symm (hM.ne hJ4)))).trans (hcN 1 _ rfl)
            -- region 15
            repeat refine HW.seq ?_
            refine HW.draw mixed (by kernel_rfl) ?_
            refine HS.still (Runs.move g6) ?_
            intro u81 e81
            refine HS.still (Runs.nilc e81) ?_
            intro u82 e82
            refine HS.still (Runs.fld (o' := T.length * 3 + 2) Tryz.underlying73 rfl sz71 (by decide) e82 (by first | rfl | omega)) ?_
            intro u83 e83
            refine HS.still (Runs.load Tryz.underlying71 rfl e83 c1') ?_
            intro u84 e84
            refine HS.still (Runs.fld (o' := 1) Tryz.underlying41 rfl sz9 (by decide) f5 (by rfl)) ?_
            intro u85 e85
            refine HS.still (Runs.load Tryz.underlying9 rfl e85 c2') ?_
            intro u86 e86
            refine HS.still (Runs.lookSv (n := 2) e84 e86 M6 hkl (if_pos rfl)) ?_
            intro u87 e87
            refine HS.still (Runs.gtr e87 rfl (t := true) rfl) ?_
            intro u88 e88
            refine HS.nil ?_
            refine HW.yes e88 ?_
            -- region 16
            repeat refine HW.seq ?_
            refine HW.region ?_
            refine HL.still (Runs.assign rfl) ?_
            intro u2 e2
            refine HL.nil ?_
            refine HW.ret ?_
            refine RT.one rfl e2 ⟨?_, ⟨by rw [z6]; exact X04.size, fun j hj => (o6 j (by omega)).trans (X04.old j hj)⟩⟩
            rw [rightO_no]
            rw [hgo, hgos, hcn]
            rfl
          | false =>
            have hc1 : cnt ns x.2.1 = 0 := by unfold cnt; rw [if_neg (by rw [hcn]; decide)]
            -- region 14
            repeat refine HW.seq ?_
            refine HW.drawTail 8 mixed (by kernel_rfl) ?_
            refine HS.still (Runs.move g6) ?_
            intro u73 e73
            refine HS.still (Runs.nilc e73) ?_
            intro u74 e74
            refine HS.still (Runs.fld (o' := T.length * 3 + 2) Tryz.underlying73 rfl sz71 (by decide) e74 (by first | rfl | omega)) ?_
            intro u75 e75
            refine HS.still (Runs.load Tryz.underlying71 rfl e75 (hcF 2 _ rfl)) ?_
            intro u76 e76
            refine HS.still (Runs.fld (o' := 1) Tryz.underlying41 rfl sz9 (by decide) f5 (by rfl)) ?_
            intro u77 e77
            refine HS.still (Runs.load Tryz.underlying9 rfl e77 (hcN 1 _ rfl)) ?_
            intro u78 e78
            refine HS.still (Runs.lookSv e76 e78 hM hkl hc1) ?_
            intro u79 e79
            refine HS.still (Runs.add e79 rfl (c := 1) (i64w (by omega))) ?_
            intro u80 e80
            refine HS.nil ?_
            refine HL.zero (HO.putS e76 e78 e80 hM hkl ?_)
            intro h6 z6 o6 M6
            refine HL.nil ?_
            have c1' : cellH h6 g (T.length * 3 + 2) = some (.map (some b)) := (cellH_keep (o6 g (Ne.symm (by obtain ⟨g', cur, eg, _, q, _⟩ := hS4.fs.blkAt (by simp); cases eg; exact hM.ne q)))).trans (hcF 2 _ rfl)
            have hJ6 := (o6 u.size (Ne.symm (hM.ne hJ4))).trans hJ4
            have c2' : cellH h6 u.size 1 = some (.string (strOf x.2.1)) := cellH_list hJ6 rfl
            have M7 := M6
            rw [cnt_cons] at M7
            -- region 15
            repeat refine HW.seq ?_
            refine HW.draw mixed (by kernel_rfl) ?_
            refine HS.still (Runs.move g6) ?_
            intro u81 e81
            refine HS.still (Runs.nilc e81) ?_
            intro u82 e82
            refine HS.still (Runs.fld (o' := T.length * 3 + 2) Tryz.underlying73 rfl sz71 (by decide) e82 (by first | rfl | omega)) ?_
            intro u83 e83
            refine HS.still (Runs.load Tryz.underlying71 rfl e83 c1') ?_
            intro u84 e84
            refine HS.still (Runs.fld (o' := 1) Tryz.underlying41 rfl sz9 (by decide) f5 (by rfl)) ?_
            intro u85 e85
            refine HS.still (Runs.load Tryz.underlying9 rfl e85 c2') ?_
            intro u86 e86
            refine HS.still (Runs.lookSv (n := 1) e84 e86 M6 hkl (if_pos rfl)) ?_
            intro u87 e87
            refine HS.still (Runs.gtr e87 rfl (t := false) rfl) ?_
            intro u88 e88
            refine HS.nil ?_
            refine HW.no e88 ?_
            refine HW.skip ?_
            refine ⟨rfl, f0, f9, f10, f11, f5, f3, hJ6, ⟨by rw [z6]; exact X04.size, fun j hj => (o6 j (by omega)).trans (X04.old j hj)⟩, ?_⟩
            exact hS4.put (p := ((true, n - 1, ns), some b)) rfl z6 o6 M7
    clear f0 f3 f5 g6 f9 f10 f11 hS4 hJ4 X04 X4
    rintro f v ⟨hcn, f0, f9, f10, f11, f5, f3, hJ5, X05, hS5⟩
    rw [hcn] at hgos
    simp only [Bool.not_false, Bool.and_true, if_true] at hgos
    have hbd5 : ∀ p ∈ T ++ [((o, n - 1, if o = true then x.2.1 :: ns else ns), mm)], p.1.2.1 ≤ 9223372036854775807 := fun p hp => by
      rcases List.mem_append.1 hp with hp | hp
      · exact hbd' p (List.mem_append.2 (.inl hp))
      · have hp : p = _ := List.mem_singleton.1 hp
        rw [hp]
        show n - 1 ≤ _
        omega
    have hstk5 : stk (T ++ [((o, n - 1, if o = true then x.2.1 :: ns else ns), mm)]) = (o, n - 1, if o = true then x.2.1 :: ns else ns) :: stk T := stk_snoc _ _
    have hlen5 : (T ++ [((o, n - 1, if o = true then x.2.1 :: ns else ns), mm)]).length = T.length + 1 := by simp
    obtain ⟨S5, hS5e⟩ : ∃ S5, S5 = T ++ [((o, n - 1, if o = true then x.2.1 :: ns else ns), mm)] := ⟨_, rfl⟩
    rw [← hS5e] at hS5 hbd5 hstk5 hlen5
    rw [← hstk5] at hgos
    have hne5 : S5 ≠ [] := by rw [hS5e]; simp
    clear hS5e hstk5 hstep hpop hbd' hS hbd
    rw [← hlen5] at f3
    have hcN : ∀ j w, (encJ x)[j]? = some w → cellH v u.size j = some w := fun j w q => cellH_list hJ5 q
    refine HW.mono (N := fun f v => ∃ (S' : List FrM) (a' : Option Addr) (c' : Nat), f 0 = .slice (some ⟨sb, so, none⟩) l.length cap ∧ f 9 = .slice (some ⟨sb, so, none⟩) l.length cap ∧ f 10 = I64 l.length ∧ f 11 = I64 k ∧ f 3 = .slice a' S'.length c' ∧ Ext h v ∧ Stk v h.size a' c' S' ∧ S' ≠ [] ∧ S'.length ≤ k + 2 ∧ (∀ p ∈ S', p.1.2.1 ≤ 9223372036854775807) ∧ goS [(false, 1, [])] l = goS (stk S') (l.drop (k + 1))) ?_ ?_ (fun _ _ _ q => q) (fun _ _ q => q)
    · repeat refine HW.seq ?_
      by_cases h0 : x.2.2.2 > 0
      · rw [if_pos h0] at hgos
        -- region 17
        repeat refine HW.seq ?_
        refine HW.region ?_
        refine HL.still (Runs.fld (o' := 3) Tryz.underlying41 rfl sz3 (by decide) f5 (by rfl)) ?_
        intro u89 e89
        refine HL.still (Runs.load Tryz.underlying3 rfl e89 (hcN 3 _ rfl)) ?_
        intro u90 e90
        refine HL.still (Runs.gtr e90 rfl (t := true) (decide_eq_true h0)) ?_
        intro u91 e91
        refine HL.nil ?_
        refine HW.yes e91 ?_
        -- region 18
        repeat refine HW.seq ?_
        refine HW.region ?_
        refine HL.still (Runs.move f3) ?_
        intro u92 e92
        refine HL.still (Runs.fld (o' := 0) Tryz.underlying41 rfl sz3 (by decide) f5 (by rfl)) ?_
        intro u93 e93
        refine HL.still (Runs.load Tryz.underlying3 rfl e93 (hcN 0 _ rfl)) ?_
        intro u94 e94
        refine HL.still (Runs.eql e94 rfl (t := isObj x) (by unfold isObj; rw [Bool.eq_iff_iff, beq_iff_eq, decide_eq_true_eq])) ?_
        intro u95 e95
        refine HL.still (Runs.fld (o' := 3) Tryz.underlying41 rfl sz3 (by decide) f5 (by rfl)) ?_
        intro u96 e96
        refine HL.still (Runs.load Tryz.underlying3 rfl e96 (hcN 3 _ rfl)) ?_
        intro u97 e97
        refine HL.one (HO.makeMapS ?_)
        intro h7 w7
        intro u98 e98
        refine HL.still (Runs.buildF (n := x.2.2.2.toNat) (ns := []) e95 e97 e98 (by omega)) ?_
        intro u99 e99
        refine HL.one (HO.fr1 ((isObj x, x.2.2.2.toNat, []), some v.size) e99 ?_)
        intro h8 w8
        intro u100 e100
        refine HL.one (HO.fapp e92 e100 rfl rfl ((hS5.ext w7.ext).ext w8.ext).fs w8.new (by omega) (by rw [w8.size, w7.size]; have := X05.size; omega) ?_)
        intro a9 c9 h9 F9 G9
        intro u101 e101
        refine HL.still (Runs.assign e101) ?_
        intro u3 e3
        refine HL.nil ?_
        have S8 := (hS5.ext w7.ext).ext w8.ext
        have M8 : MpS h8 v.size (cnt []) := (MpS.made w7).keep (w8.ext.old _ (by rw [w7.size]; omega))
        have S9 := S8.push (p := ((isObj x, x.2.2.2.toNat, []), some v.size)) F9 G9 rfl M8 X05.size (fun q hq e => by
          have := ((hS5.ok q hq).lt e).2.1
          omega) hne5
        have X8 : Ext h h8 := (X05.ext w7.ext (Nat.le_refl _)).ext w8.ext (Nat.le_refl _)
        refine ⟨_, a9, c9, f0, f9, f10, f11, e3, ?_, S9, by simp, by rw [List.length_append, hlen5]; simp; omega, ?_, ?_⟩
        · obtain ⟨g8, cur8, eg8, hg8, _⟩ := S8.fs.blkAt hne5
          cases eg8
          refine Bel.gr X8 G9 (Nat.le_refl _) fun j hj => ?_
          cases hj
          exact hg8
        · intro p hp
          rcases List.mem_append.1 hp with hp | hp
          · exact hbd5 p hp
          · have hp : p = _ := List.mem_singleton.1 hp
            rw [hp]
            show x.2.2.2.toNat ≤ _
            omega
        · rw [hgo, hgos, stk_snoc]
      · rw [if_neg h0] at hgos
        -- region 17
        repeat refine HW.seq ?_
        refine HW.region ?_
        refine HL.still (Runs.fld (o' := 3) Tryz.underlying41 rfl sz3 (by decide) f5 (by rfl)) ?_
        intro u89 e89
        refine HL.still (Runs.load Tryz.underlying3 rfl e89 (hcN 3 _ rfl)) ?_
        intro u90 e90
        refine HL.still (Runs.gtr e90 rfl (t := false) (decide_eq_false h0)) ?_
        intro u91 e91
        refine HL.nil ?_
        refine HW.no e91 ?_
        refine HW.skip ?_
        exact ⟨S5, _, c3, f0, f9, f10, f11, f3, X05, hS5, hne5, by omega, hbd5, by rw [hgo, hgos]⟩
    clear f0 f3 f5 f9 f10 f11 hS5 hJ5 X05 hcN
    rintro f v ⟨S', a', c', f0, f9, f10, f11, f3, X6, hS6, hne6, hl6, hbd6, hgo6⟩
    -- region 19
    repeat refine HW.seq ?_
    refine HW.region ?_
    refine HL.still (Runs.add f11 rfl (i64w (by omega))) ?_
    intro u102 e102
    refine HL.still (Runs.move e102) ?_
    intro u11 e11
    refine HL.nil ?_
    exact ⟨l.length - (k + 1), by omega, k + 1, S', a', c', by omega, rfl, e11, f10, f9, f0, f3, hS6, hne6, by omega, hbd6, hgo6, X6⟩
  · have hkl : k = l.length := by omega
    subst hkl
    rw [List.drop_of_length_le (Nat.le_refl _)] at hgo
    have hall : goS (stk S) [] = !(S.any fun p => decide (p.1.2.1 > 0)) := by
      show ((stk S).all fun f => f.2.1 == 0) = _
      unfold stk
      rw [List.all_reverse, List.all_map, List.not_any_eq_all_not]
      congr 1
      funext p
      show (p.1.2.1 == 0) = !decide (p.1.2.1 > 0)
      rw [Bool.eq_iff_iff]
      simp
    -- region 3
    repeat refine HW.seq ?_
    refine HW.region ?_
    refine HL.still (Runs.lss f11 f10 rfl) ?_
    intro u12 e12
    refine HL.nil ?_
    repeat refine HW.seq ?_
    refine HW.no ?_ ?_
    exact e12.trans (congrArg Value.bool (decide_eq_false (by omega)))
    refine HW.exitHere ?_
    by_cases h5 : l.length ≤ 5000
    · skip
      -- region 20
      repeat refine HW.seq ?_
      refine HW.region ?_
      refine HL.still (Runs.move f0) ?_
      intro u103 e103
      refine HL.still (Runs.lenSl rfl Tryz.underlying26 e103) ?_
      intro u104 e104
      refine HL.still (Runs.leq e104 rfl (t := true) (decide_eq_true (by omega))) ?_
      intro u105 e105
      refine HL.still (Runs.move e105) ?_
      intro u106 e106
      refine HL.stillG rfl rfl e106 (Runs.move f3) ?_
      intro u107 e107
      refine HL.oneG rfl rfl e106 (HO.call Tryz.func53 bd53 nm53 (args2 e107 rfl) rfl ((anyF_ch u S a3 h.size S.length c3 rfl hS.fs (by omega)).mono ?_))
      rintro _ h2 ⟨rfl, X2⟩
      intro u108 e108
      refine HL.stillG rfl rfl e106 (Runs.notb e108 (u := !(S.any fun p => decide (p.1.2.1 > 0))) rfl) ?_
      intro u109 e109
      refine HL.still (Runs.pick e106 e109) ?_
      intro u110 e110
      refine HL.still (Runs.assign e110) ?_
      intro u2 e2
      refine HL.nil ?_
      refine HW.ret ?_
      refine RT.one rfl e2 ⟨?_, hX.ext X2 (Nat.le_refl _)⟩
      rw [rightO_go, decide_eq_true h5, hgo, hall]
      rfl
    · skip
      -- region 20
      repeat refine HW.seq ?_
      refine HW.region ?_
      refine HL.still (Runs.move f0) ?_
      intro u103 e103
      refine HL.still (Runs.lenSl rfl Tryz.underlying26 e103) ?_
      intro u104 e104
      refine HL.still (Runs.leq e104 rfl (t := false) (decide_eq_false (by omega))) ?_
      intro u105 e105
      refine HL.still (Runs.move e105) ?_
      intro u106 e106
      refine HL.skipG rfl rfl e106 ?_
      intro u107 e107
      refine HL.skipG rfl rfl e106 ?_
      intro u108 e108
      refine HL.skipG rfl rfl e106 ?_
      intro u109 e109
      refine HL.still (Runs.pick e106 rfl) ?_
      intro u110 e110
      refine HL.still (Runs.assign e110) ?_
      intro u2 e2
      refine HL.nil ?_
      refine HW.ret ?_
      refine RT.one rfl e2 ⟨?_, hX⟩
      rw [rightO_go, decide_eq_false h5]
      rfl
end Go.Proofs.YtjopikfkgjbcgaaGreatDoor
