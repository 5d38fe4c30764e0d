/- For the law BatchAll: contracts with what is known of their answers; what is staged lies apart from what is stored. -/
import Derived.Test.YtklelhfgbjpifaaBx
import Derived.Test.YtklelhfgbjpifaaGrowU
namespace Go.Proofs.Ytklelhfgbjpifaa
set_option linter.unnecessarySimpa false
set_option linter.unusedSimpArgs false
set_option linter.unusedVariables false
open Go.RowKit
theorem getBX_ch {F FS : Nat → Prop} (h : Heap) (t bm : Nat) (oa : Option Addr) (s b : Nat) (room : Int) (W M : Blobs) (x : Dg) (v : List UInt8) (q : Bool) (hg : getO W M x = (v, q)) (hT : Bat F h t bm oa s W) (hS : Sto FS h s b room M) (hlW : ∀ p ∈ W, p.2.length ≤ 140737488355328) (hlen : ∀ p ∈ M, p.2.length ≤ 140737488355328) :
    CH Try.prog 42 #[.pointer (some ⟨t, 0, none⟩), keyV x] h fun r h' => ∃ a c, r = .tuple #[.slice a v.length c, .bool q] ∧ Bs h' h.size 5 a c v ∧ Ext h h' := by
  have := getB_ch h t bm oa s b room W M x hT hS hlW hlen
  rw [hg] at this
  exact this
theorem keysE_ch {F : Nat → Prop} (h : Heap) (s b : Nat) (room : Int) (M : Blobs) (k : Nat) (ks : List Dg) (G : Good room M k) (kp : ks.Perm (M.map (·.1))) (kq : ks.Pairwise (fun x y => lessL y.1 x.1 = false)) (hS : Sto F h s b room M) (hl : M.length ≤ 1000000) : CH Try.prog 29 #[.pointer (some ⟨s, 0, none⟩)] h fun v h' => ∃ a c, v = .slice a ks.length c ∧ Ds h' h.size a c ks ∧ Ext h h' :=
  (keysS_ch h s b room M hS hl).mono fun _ _ ⟨a, c, ss, q1, q2, q3, q4, q5⟩ => by
    have := keys_same G q3 q4 kp kq
    subst this
    exact ⟨a, c, q1, q2, q5⟩
theorem putB_apart {room : Int} {W W' M : Blobs} {xs : List UInt8} {d : Dg} {e : Int} (h : ∀ p ∈ W, p.1 ∉ M.map (·.1)) (hp : putBO room W M xs = (W', d, e)) : ∀ p ∈ W', p.1 ∉ M.map (·.1) := by
  rcases putB_cases hp with ⟨_, rfl, _⟩ | ⟨_, _, _, rfl, _⟩ | ⟨_, h2, _, rfl, _⟩
  · exact h
  · exact h
  · intro p hp
    rcases List.mem_append.1 hp with q | q
    · exact h p q
    · rw [List.mem_singleton.1 q]
      exact lookM_isNone h2
theorem getO_snd (W M : Blobs) (x : Dg) : (getO W M x).2 = ((lookM W x).isSome || (lookM M x).isSome) := by
  unfold getO
  cases lookM W x <;> rfl
theorem getO_new (W M : Blobs) {x : Dg} (xs : List UInt8) (h : (lookM W x).isSome = false) : getO (W ++ [(x, xs)]) M x = (xs, true) := by
  have : lookM (W ++ [(x, xs)]) x = some xs := by
    unfold lookM at *
    rw [List.find?_append]
    cases hf : W.find? (fun p => p.1 == x) with
    | some p => rw [hf] at h; cases h
    | none =>
      rw [Option.none_or, List.find?_cons, show ((x, xs).1 == x) = true from beq_self_eq_true _]
      rfl
  unfold getO
  rw [this]
end Go.Proofs.Ytklelhfgbjpifaa
/-! The law BatchAll, walked. -/
namespace Go.Proofs.Ytklelhfgbjpifaa
set_option linter.unnecessarySimpa false
set_option linter.unusedSimpArgs false
set_option linter.unusedVariables false
open Go.RowKit
set_option maxRecDepth 10000 in
set_option maxHeartbeats 4000000 in
theorem lawAll_ch (h : Heap) (r : Int) (m : List (Option Addr × Nat × List UInt8)) (am : Option Addr) (capm : Nat) (hBm : Byts h am m) (hlm : m.length ≤ maxLen) (hzm : ∀ x ∈ m, x.2.2.length ≤ 140737488355328)
    (l : List (Option Addr × Nat × List UInt8)) (a : Option Addr) (cap : Nat) (hB : Byts h a l) (hl : l.length ≤ maxLen) (hz : ∀ x ∈ l, x.2.2.length ≤ 140737488355328) (cm : Bool) :
    CH Try.prog 10 #[I64 r, .slice am m.length capm, .slice a l.length cap, .bool cm] h fun v h' => v = .bool true ∧ Ext h h' := by
  refine CH.of_body Try.func10 rfl rfl rfl ?_
  intro f hf
  have p0 : f 0 = I64 r := by rw [hf]; exact fr0_at rfl
  have p1 : f 1 = .slice am m.length capm := by rw [hf]; exact fr0_at rfl
  have p2 : f 2 = .slice a l.length cap := by rw [hf]; exact fr0_at rfl
  have p3 : f 3 = .bool cm := by rw [hf]; exact fr0_at rfl
  -- region 0
  repeat refine HW.seq ?_
  refine HW.region ?_
  refine HL.still (Runs.assign rfl) ?_
  intro u8 e8
  refine HL.nil ?_
  -- region 1
  repeat refine HW.seq ?_
  refine HW.region ?_
  refine HL.one (HO.call Try.func34 bd34 nm34 (args0) rfl ((small4_ch h).mono ?_))
  rintro _ h1 ⟨rfl, X1⟩
  intro u26 e26
  refine HL.still (Runs.assign e26) ?_
  intro u9 e9
  refine HL.nil ?_
  -- region 2
  repeat refine HW.seq ?_
  refine HW.region ?_
  refine HL.still (Runs.move p1) ?_
  intro u27 e27
  refine HL.one (HO.call Try.func15 bd15 nm15 (args1 e27) rfl ((few_ch h1 m am m.length capm rfl (hBm.ext X1) hlm hzm).mono ?_))
  rintro _ h2 ⟨rfl, rfl⟩
  intro u28 e28
  refine HL.still (Runs.assign e28) ?_
  intro u10 e10
  refine HL.nil ?_
  -- region 3
  repeat refine HW.seq ?_
  refine HW.region ?_
  refine HL.still (Runs.move p2) ?_
  intro u29 e29
  refine HL.one (HO.call Try.func15 bd15 nm15 (args1 e29) rfl ((few_ch h2 l a l.length cap rfl (hB.ext X1) hl hz).mono ?_))
  rintro _ h2' ⟨rfl, rfl⟩
  intro u30 e30
  refine HL.still (Runs.assign e30) ?_
  intro u11 e11
  refine HL.nil ?_
  -- region 4
  repeat refine HW.seq ?_
  refine HW.region ?_
  refine HL.still (Runs.move p0) ?_
  intro u31 e31
  refine HL.one (HO.call Try.func16 bd16 nm16 (args1 e31) rfl ((newS_ch h2' r).mono ?_))
  rintro _ h3 ⟨rfl, S3, X3⟩
  intro u32 e32
  refine HL.still (Runs.assign e32) ?_
  intro u12 e12
  refine HL.nil ?_
  have XA : Ext h h3 := X1.ext X3 (Nat.le_refl _)
  have z1 := X1.size
  have z3 := X3.size
  have g9 : u9 = .bool true := e9
  obtain ⟨s, hs⟩ : ∃ s, s = h2'.size + 1 := ⟨_, rfl⟩
  obtain ⟨b, hb⟩ : ∃ b, b = h2'.size := ⟨_, rfl⟩
  rw [← hb] at S3 hs e12
  rw [← hs] at S3 e12
  obtain ⟨room, hroom⟩ : ∃ room, room = roomO r := ⟨_, rfl⟩
  have hr0 := roomO_0 r
  have hr1 := roomO_top r
  rw [← hroom] at S3 hr0 hr1
  obtain ⟨N, hN⟩ : ∃ N, N = h.size := ⟨_, rfl⟩
  cases hfew : fewO m with
  | false =>
    have g10 : u10 = .bool false := e10.trans (congrArg Value.bool hfew)
    -- region 5
    repeat refine HW.seq ?_
    refine HW.region ?_
    refine HL.still (Runs.move e12) ?_
    intro u33 e33
    refine HL.still (Runs.eqNil Try.underlying25 e33 rfl) ?_
    intro u34 e34
    refine HL.still (Runs.move e34) ?_
    intro u35 e35
    refine HL.stillG rfl rfl e35 (Runs.move g10) ?_
    intro u36 e36
    refine HL.stillG rfl rfl e35 (Runs.notb e36 (t := false) (u := true) rfl) ?_
    intro u37 e37
    refine HL.still (Runs.pick e35 e37) ?_
    intro u38 e38
    refine HL.still (Runs.move e38) ?_
    intro u39 e39
    refine HL.skipG rfl rfl e39 ?_
    intro u40 e40
    refine HL.skipG rfl rfl e39 ?_
    intro u41 e41
    refine HL.still (Runs.pick e39 rfl) ?_
    intro u42 e42
    refine HL.nil ?_
    refine HW.yes e42 ?_
    -- region 6
    repeat refine HW.seq ?_
    refine HW.region ?_
    refine HL.still (Runs.move g9) ?_
    intro u43 e43
    refine HL.still (Runs.move e43) ?_
    intro u44 e44
    refine HL.stillG rfl rfl e44 (Runs.move e12) ?_
    intro u45 e45
    refine HL.stillG rfl rfl e44 (Runs.neqNil Try.underlying25 e45 rfl) ?_
    intro u46 e46
    refine HL.still (Runs.pick e44 e46) ?_
    intro u47 e47
    refine HL.still (Runs.assign e47) ?_
    intro u8 e8
    refine HL.nil ?_
    refine HW.ret ?_
    exact RT.one rfl e8 ⟨rfl, XA⟩
  | true =>
  have g10 : u10 = .bool true := e10.trans (congrArg Value.bool hfew)
  cases hfewm : fewO l with
  | false =>
    have g11 : u11 = .bool false := e11.trans (congrArg Value.bool hfewm)
    -- region 5
    repeat refine HW.seq ?_
    refine HW.region ?_
    refine HL.still (Runs.move e12) ?_
    intro u33 e33
    refine HL.still (Runs.eqNil Try.underlying25 e33 rfl) ?_
    intro u34 e34
    refine HL.still (Runs.move e34) ?_
    intro u35 e35
    refine HL.stillG rfl rfl e35 (Runs.move g10) ?_
    intro u36 e36
    refine HL.stillG rfl rfl e35 (Runs.notb e36 (t := true) (u := false) rfl) ?_
    intro u37 e37
    refine HL.still (Runs.pick e35 e37) ?_
    intro u38 e38
    refine HL.still (Runs.move e38) ?_
    intro u39 e39
    refine HL.stillG rfl rfl e39 (Runs.move g11) ?_
    intro u40 e40
    refine HL.stillG rfl rfl e39 (Runs.notb e40 (t := false) (u := true) rfl) ?_
    intro u41 e41
    refine HL.still (Runs.pick e39 e41) ?_
    intro u42 e42
    refine HL.nil ?_
    refine HW.yes e42 ?_
    -- region 6
    repeat refine HW.seq ?_
    refine HW.region ?_
    refine HL.still (Runs.move g9) ?_
    intro u43 e43
    refine HL.still (Runs.move e43) ?_
    intro u44 e44
    refine HL.stillG rfl rfl e44 (Runs.move e12) ?_
    intro u45 e45
    refine HL.stillG rfl rfl e44 (Runs.neqNil Try.underlying25 e45 rfl) ?_
    intro u46 e46
    refine HL.still (Runs.pick e44 e46) ?_
    intro u47 e47
    refine HL.still (Runs.assign e47) ?_
    intro u8 e8
    refine HL.nil ?_
    refine HW.ret ?_
    exact RT.one rfl e8 ⟨rfl, XA⟩
  | true =>
    obtain ⟨m40, m2000⟩ := few_of hfew
    obtain ⟨h40, h2000⟩ := few_of hfewm
    have g11 : u11 = .bool true := e11.trans (congrArg Value.bool hfewm)
    -- region 5
    repeat refine HW.seq ?_
    refine HW.region ?_
    refine HL.still (Runs.move e12) ?_
    intro u33 e33
    refine HL.still (Runs.eqNil Try.underlying25 e33 rfl) ?_
    intro u34 e34
    refine HL.still (Runs.move e34) ?_
    intro u35 e35
    refine HL.stillG rfl rfl e35 (Runs.move g10) ?_
    intro u36 e36
    refine HL.stillG rfl rfl e35 (Runs.notb e36 (t := true) (u := false) rfl) ?_
    intro u37 e37
    refine HL.still (Runs.pick e35 e37) ?_
    intro u38 e38
    refine HL.still (Runs.move e38) ?_
    intro u39 e39
    refine HL.stillG rfl rfl e39 (Runs.move g11) ?_
    intro u40 e40
    refine HL.stillG rfl rfl e39 (Runs.notb e40 (t := true) (u := false) rfl) ?_
    intro u41 e41
    refine HL.still (Runs.pick e39 e41) ?_
    intro u42 e42
    refine HL.nil ?_
    refine HW.no e42 ?_
    refine HW.skip ?_
    obtain ⟨o1, ho1⟩ : ∃ o1, o1 = stamp (fun _ => 0) N 1 := ⟨_, rfl⟩
    have L1 : ∀ j, j < N → o1 j = 0 := fun j hj => by rw [ho1]; exact stamp_lt hj
    have S3 : Sto (fun j => o1 j = 1) h3 s b room [] := S3.weaken fun _ _ q => by rw [ho1]; exact stamp_ge (by omega)
    -- region 7
    repeat refine HW.seq ?_
    refine HW.region ?_
    refine HL.still (Runs.assign rfl) ?_
    intro u13 e13
    refine HL.nil ?_
    repeat refine HW.seq ?_
    refine HW.mono (N := fun f u => f 2 = .slice a l.length cap ∧ f 3 = .bool cm ∧ f 9 = .bool true ∧ f 12 = .pointer (some ⟨s, 0, none⟩) ∧ Ext h u ∧ ∃ (own : Nat → Nat) (M : Blobs), (∀ j, j < N → own j = 0) ∧ Sto (fun j => own j = 1) u s b room M ∧ Good room M 40) ?_ ?_ (fun _ _ _ q => q) (fun _ _ q => q)
    · refine HW.block ?_
      refine HW.loop (fun n f u => ∃ k : Nat, k ≤ m.length ∧ n = m.length - k ∧ f 13 = I64 k ∧ f 1 = .slice am m.length capm ∧ f 2 = .slice a l.length cap ∧ f 3 = .bool cm ∧ f 9 = .bool true ∧ f 12 = .pointer (some ⟨s, 0, none⟩) ∧ Ext h u ∧ ∃ (own : Nat → Nat) (M : Blobs), (∀ j, j < N → own j = 0) ∧ Sto (fun j => own j = 1) u s b room M ∧ Good room M k) m.length
        ⟨0, Nat.zero_le _, rfl, e13, p1, p2, p3, g9, e12, XA, o1, [], L1, S3, Good.nil hr0⟩ ?_
      clear e8 e9 e10 e11 e12 e13 g9 g10 g11 p0 p1 p2 p3 S3 L1 XA
      rintro n f u ⟨k, hk, hn, f13, f1, f2, f3, f9, f12, hX, own, M, L, S, GG⟩
      by_cases hlt : k < m.length
      · obtain ⟨sb, so, hsa, b1, c1, xs, hx, hcell, hby, hle⟩ := (hBm.ext hX).at hlt
        have hxl := lens_mem hx
        obtain ⟨M', d, e, hp⟩ : ∃ M' d e, putO room M xs = (M', d, e) := ⟨_, _, _, rfl⟩
        have GG' : Good room M' (k + 1) := by have := GG.put xs; rw [hp] at this; exact this
        have hu := hX.size
        subst hsa
        -- region 8
        repeat refine HW.seq ?_
        refine HW.region ?_
        refine HL.still (Runs.move f13) ?_
        intro u48 e48
        refine HL.still (Runs.move f1) ?_
        intro u49 e49
        refine HL.still (Runs.lenSl rfl Try.underlying22 e49) ?_
        intro u50 e50
        refine HL.still (Runs.lss e48 e50 rfl) ?_
        intro u51 e51
        refine HL.nil ?_
        repeat refine HW.seq ?_
        refine HW.yes ?_ ?_
        exact e51.trans (congrArg Value.bool (decide_eq_true (by omega)))
        refine HW.skip ?_
        repeat refine HW.seq ?_
        refine HW.block ?_
        -- region 10
        repeat refine HW.seq ?_
        refine HW.region ?_
        refine HL.still (Runs.move f12) ?_
        intro u54 e54
        refine HL.still (Runs.move f1) ?_
        intro u55 e55
        refine HL.still (Runs.move f13) ?_
        intro u56 e56
        refine HL.still (Runs.ixSl (o' := so + k) Try.underlying22 sz29 e55 e56 (by omega) (by omega) (by omega)) ?_
        intro u57 e57
        refine HL.still (Runs.load Try.underlying29 rfl e57 hcell) ?_
        intro u58 e58
        refine HL.one (HO.call Try.func18 bd18 nm18 (args2 e54 e58) rfl ((put_own (own := own) (x := 1) u s b room M M' xs d e b1 c1 hp S hby hle (by omega) hr1 hr0 GG.fits).mono ?_))
        rintro _ h9 ⟨_, S9, E9⟩
        intro u59 e59
        refine HL.nil ?_
        -- region 9
        repeat refine HW.seq ?_
        refine HW.region ?_
        refine HL.still (Runs.move f13) ?_
        intro u52 e52
        refine HL.still (Runs.add e52 rfl (i64w (by omega))) ?_
        intro u53 e53
        refine HL.still (Runs.assign e53) ?_
        intro u13 e13
        refine HL.nil ?_
        exact ⟨m.length - (k + 1), by omega, k + 1, by omega, rfl, e13, f1, f2, f3, f9, f12, E9.only L (by decide) hN.symm hX, _, M', stamp_low L (by omega), S9, GG'⟩
      · have hkl : k = m.length := by omega
        subst hkl
        -- region 8
        repeat refine HW.seq ?_
        refine HW.region ?_
        refine HL.still (Runs.move f13) ?_
        intro u48 e48
        refine HL.still (Runs.move f1) ?_
        intro u49 e49
        refine HL.still (Runs.lenSl rfl Try.underlying22 e49) ?_
        intro u50 e50
        refine HL.still (Runs.lss e48 e50 rfl) ?_
        intro u51 e51
        refine HL.nil ?_
        repeat refine HW.seq ?_
        refine HW.no ?_ ?_
        exact e51.trans (congrArg Value.bool (decide_eq_false (by omega)))
        refine HW.exitHere ?_
        exact ⟨f2, f3, f9, f12, hX, own, M, L, S, GG.more (by omega)⟩
    clear e8 e9 e10 e11 e12 e13 g9 g10 g11 p0 p1 p2 p3 S3 L1 XA ho1 o1
    rintro f u ⟨f2, f3, f9, f12, hX, own, M, L, S, GG⟩
    have hMl := GG.len
    have hu := hX.size
    have hMs := GG.small hr1
    -- region 11
    repeat refine HW.seq ?_
    refine HW.region ?_
    refine HL.still (Runs.move f12) ?_
    intro u60 e60
    refine HL.one (HO.call Try.func29 bd29 nm29 (args1 e60) rfl ((keysS_ch u s b room M S (by omega)).mono ?_))
    rintro _ hk ⟨ka, kc, ks, rfl, D, kp, kq, Xk⟩
    intro u61 e61
    refine HL.still (Runs.assign e61) ?_
    intro u14 e14
    refine HL.nil ?_
    have d14 : u14 = .slice ka ks.length kc := e14
    have hksl : ks.length = M.length := by rw [kp.length_eq, List.length_map]
    have Sk := S.other (.of_ext Xk) (x := 0) (by decide)
    have Lk := stamp_low (x := 0) L (by omega : N ≤ u.size)
    have hDk : ∀ g, ka = some ⟨g, 0, none⟩ → stamp own u.size 0 g = 0 := fun g e => stamp_ge (D.lie g 0 e).1
    obtain ⟨ok, hok⟩ : ∃ ok, ok = stamp own u.size 0 := ⟨_, rfl⟩
    rw [← hok] at Sk Lk hDk
    have zk := Xk.size
    -- region 12
    repeat refine HW.seq ?_
    refine HW.region ?_
    refine HL.still (Runs.move f12) ?_
    intro u62 e62
    refine HL.one (HO.call Try.func36 bd36 nm36 (args1 e62) rfl ((newB_own (own := ok) 2 hk s).mono ?_))
    rintro _ h4 ⟨rfl, T4, X4⟩
    intro u63 e63
    refine HL.still (Runs.assign e63) ?_
    intro u15 e15
    refine HL.nil ?_
    have S4 := Sk.other (.of_ext X4) (x := 2) (by decide)
    have L4 := stamp_low (x := 2) Lk (by omega : N ≤ hk.size)
    obtain ⟨D4, hD4⟩ := ds_st (x := 2) D hDk (fun j hj _ => X4.old j hj)
    obtain ⟨t, ht⟩ : ∃ t, t = hk.size + 1 := ⟨_, rfl⟩
    obtain ⟨bm, hbm⟩ : ∃ bm, bm = hk.size := ⟨_, rfl⟩
    rw [← ht] at T4 e15
    rw [show Bat (fun j => stamp ok hk.size 2 j = 2) h4 t hk.size none s [] = Bat (fun j => stamp ok hk.size 2 j = 2) h4 t bm none s [] by rw [hbm]] at T4
    obtain ⟨o4, ho4⟩ : ∃ o4, o4 = stamp ok hk.size 2 := ⟨_, rfl⟩
    rw [← ho4] at S4 T4 L4 hD4
    have XA := (hX.ext Xk (Nat.le_refl _)).ext X4 (Nat.le_refl _)
    -- region 13
    repeat refine HW.seq ?_
    refine HW.region ?_
    refine HL.still (Runs.move e15) ?_
    intro u64 e64
    refine HL.still (Runs.eqNil Try.underlying52 e64 rfl) ?_
    intro u65 e65
    refine HL.nil ?_
    refine HW.no e65 ?_
    refine HW.skip ?_
    -- region 15
    repeat refine HW.seq ?_
    refine HW.region ?_
    refine HL.still (Runs.assign rfl) ?_
    intro u16 e16
    refine HL.nil ?_
    repeat refine HW.seq ?_
    refine HW.mono (N := fun f u' => f 3 = .bool cm ∧ f 9 = .bool true ∧ f 12 = .pointer (some ⟨s, 0, none⟩) ∧ f 14 = .slice ka ks.length kc ∧ f 15 = .pointer (some ⟨t, 0, none⟩) ∧ Ext h u' ∧ ∃ (own : Nat → Nat) (W : Blobs) (oa : Option Addr), (∀ j, j < N → own j = 0) ∧ Sto (fun j => own j = 1) u' s b room M ∧ Bat (fun j => own j = 2) u' t bm oa s W ∧ Ds u' u.size ka kc ks ∧ (∀ g, ka = some ⟨g, 0, none⟩ → own g = 0) ∧ Stg W 40 2000 ∧ (tot W : Int) ≤ room - tot M ∧ ∀ p ∈ W, p.1 ∉ M.map (·.1)) ?_ ?_ (fun _ _ _ q => q) (fun _ _ q => q)
    · refine HW.block ?_
      refine HW.loop (fun n f u' => ∃ k : Nat, k ≤ l.length ∧ n = l.length - k ∧ f 16 = I64 k ∧ f 2 = .slice a l.length cap ∧ f 3 = .bool cm ∧ f 9 = .bool true ∧ f 12 = .pointer (some ⟨s, 0, none⟩) ∧ f 14 = .slice ka ks.length kc ∧ f 15 = .pointer (some ⟨t, 0, none⟩) ∧ Ext h u' ∧ ∃ (own : Nat → Nat) (W : Blobs) (oa : Option Addr), (∀ j, j < N → own j = 0) ∧ Sto (fun j => own j = 1) u' s b room M ∧ Bat (fun j => own j = 2) u' t bm oa s W ∧ Ds u' u.size ka kc ks ∧ (∀ g, ka = some ⟨g, 0, none⟩ → own g = 0) ∧ Stg W k 2000 ∧ (tot W : Int) ≤ room - tot M ∧ ∀ p ∈ W, p.1 ∉ M.map (·.1)) l.length
        ⟨0, Nat.zero_le _, rfl, e16, f2, f3, f9, f12, d14, e15, XA, o4, [], none, L4, S4, T4, D4, hD4, Stg.nil _, by have := GG.fits; simp only [tot]; omega, fun _ q => (by cases q)⟩ ?_
      clear e16 f2 f3 f9 f12 d14 e14 e15 XA L4 S4 T4 D4 hD4 hX S Sk L Lk hDk D Xk X4 ho4 hok
      rintro n f v ⟨k, hk1, hn, f16, f2, f3, f9, f12, f14, f15, hX, own, W, oa, L, S, T, D, hD, G, hfit, hap⟩
      by_cases hlt : k < l.length
      · obtain ⟨sb, so, hsa, b1, c1, xs, hx, hcell, hby, hle⟩ := (hB.ext hX).at hlt
        have hxl := lens_mem hx
        obtain ⟨W', d, e, hp⟩ : ∃ W' d e, putBO room W M xs = (W', d, e) := ⟨_, _, _, rfl⟩
        have G' := G.put (by omega) hp
        have hfit' := putB_fits hfit hp
        have hap' := putB_apart hap hp
        have hv := hX.size
        have htt := G.tot
        have hll := G.len
        have htW : tot W ≤ 1000000000 := Nat.le_trans htt (by have : k * 2000 ≤ 40 * 2000 := Nat.mul_le_mul_right _ (by omega); omega)
        have hWs : ∀ p ∈ W, p.2.length ≤ 140737488355328 := fun p hp => Nat.le_trans (G.small p hp) (by decide)
        have hWs' : ∀ p ∈ W', p.2.length ≤ 140737488355328 := fun p hp => Nat.le_trans (G'.small p hp) (by decide)
        obtain ⟨v0, hg0⟩ : ∃ v0, getO W M (shaD xs) = (v0, (lookM W (shaD xs)).isSome || (lookM M (shaD xs)).isSome) := ⟨(getO W M (shaD xs)).1, by rw [← getO_snd]⟩
        obtain ⟨had, hhad⟩ : ∃ had, had = ((lookM W (shaD xs)).isSome || (lookM M (shaD xs)).isSome) := ⟨_, rfl⟩
        rw [← hhad] at hg0
        subst hsa
        -- region 16
        repeat refine HW.seq ?_
        refine HW.region ?_
        refine HL.still (Runs.move f16) ?_
        intro u66 e66
        refine HL.still (Runs.move f2) ?_
        intro u67 e67
        refine HL.still (Runs.lenSl rfl Try.underlying22 e67) ?_
        intro u68 e68
        refine HL.still (Runs.lss e66 e68 rfl) ?_
        intro u69 e69
        refine HL.nil ?_
        repeat refine HW.seq ?_
        refine HW.yes ?_ ?_
        exact e69.trans (congrArg Value.bool (decide_eq_true (by omega)))
        refine HW.skip ?_
        repeat refine HW.seq ?_
        refine HW.block ?_
        -- region 18
        repeat refine HW.seq ?_
        refine HW.region ?_
        refine HL.still (Runs.move f15) ?_
        intro u73 e73
        refine HL.still (Runs.move f2) ?_
        intro u74 e74
        refine HL.still (Runs.move f16) ?_
        intro u75 e75
        refine HL.still (Runs.ixSl (o' := so + k) Try.underlying22 sz29 e74 e75 (by omega) (by omega) (by omega)) ?_
        intro u76 e76
        refine HL.still (Runs.load Try.underlying29 rfl e76 hcell) ?_
        intro u77 e77
        refine HL.one (HO.call Try.func20 bd20 nm20 (args1 e77) rfl ((rsum_ch v xs b1 c1 hby (by omega)).mono ?_))
        rintro _ h8 ⟨rfl, Y8⟩
        intro u78 e78
        refine HL.one (HO.call Try.func42 bd42 nm42 (args2 e73 e78) rfl ((getBX_ch h8 t bm oa s b room W M (shaD xs) v0 had hg0 (T.ext Y8) (S.ext Y8) hWs hMs).mono ?_))
        rintro _ h9 ⟨a9, c9, rfl, _, Y9⟩
        intro u79 e79
        refine HL.still (Runs.move e79) ?_
        intro u72 e72
        refine HL.still (Runs.extr e72 rfl) ?_
        intro u80 e80
        refine HL.still (Runs.extr e72 rfl) ?_
        intro u81 e81
        refine HL.still (Runs.assign e80) ?_
        intro u17 e17
        refine HL.still (Runs.assign e81) ?_
        intro u18 e18
        refine HL.nil ?_
        have d18 : u18 = .bool had := e18
        have Y9 : Ext v h9 := Y8.ext Y9 (Nat.le_refl _)
        have hX9 := hX.ext Y9 (Nat.le_refl _)
        obtain ⟨sb', so', hsa', b1', c1', xs', hx', hcell', hby', hle'⟩ := (hB.ext hX9).at hlt
        rw [hx] at hx'
        cases hx'
        cases hsa'
        have y9 := Y9.size
        -- region 19
        repeat refine HW.seq ?_
        refine HW.region ?_
        refine HL.still (Runs.move f15) ?_
        intro u83 e83
        refine HL.still (Runs.move f2) ?_
        intro u84 e84
        refine HL.still (Runs.move f16) ?_
        intro u85 e85
        refine HL.still (Runs.ixSl (o' := so + k) Try.underlying22 sz29 e84 e85 (by omega) (by omega) (by omega)) ?_
        intro u86 e86
        refine HL.still (Runs.load Try.underlying29 rfl e86 hcell') ?_
        intro u87 e87
        refine HL.one (HO.call Try.func37 bd37 nm37 (args2 e83 e87) rfl ((putB_own (own := own) (x := 1) (y := 2) h9 t bm oa s b room W W' M xs d e b1 c1 hp (T.ext Y9) (S.ext Y9) hby' hle' (by omega) hr1 hr0 GG.fits htW (by omega)).mono ?_))
        rintro _ h10 ⟨rfl, ⟨oa', T10⟩, E10⟩
        intro u88 e88
        refine HL.still (Runs.move e88) ?_
        intro u82 e82
        refine HL.still (Runs.extr e82 rfl) ?_
        intro u89 e89
        refine HL.still (Runs.extr e82 rfl) ?_
        intro u90 e90
        refine HL.one (HO.alloc zr31 ?_)
        intro ha wa
        intro u19 e19
        refine HL.zero (HO.storeAll sz31 e19 e89 (encD_one d) wa.new (encD_len _) (by simp) ?_)
        intro h11 wb
        refine HL.still (Runs.assign e90) ?_
        intro u20 e20
        refine HL.nil ?_
        have Y11 : Ext h10 h11 := wa.ext.wr wb (Nat.le_refl _)
        have hX11 := (E10.only L (by decide) hN.symm hX9).ext Y11 (Nat.le_refl _)
        have S11 := ((S.ext Y9).other E10 (by decide)).ext Y11
        have T11 := T10.ext Y11
        obtain ⟨D10, hD10⟩ := ds_st (x := 2) (D.ext Y9) hD (E10.kp (by decide))
        have D11 := D10.ext Y11
        have L11 := stamp_low (x := 2) L (by omega : N ≤ h9.size)
        obtain ⟨o11, ho11⟩ : ∃ o11, o11 = stamp own h9.size 2 := ⟨_, rfl⟩
        rw [← ho11] at S11 T11 L11 hD10
        have kd : h11[h10.size]? = some (.cells (encD d).toArray 31 (0, 0)) := wb.new
        have d19 : u19 = .pointer (some ⟨h10.size, 0, none⟩) := e19
        have d20 : u20 = I64 e := e20
        obtain ⟨v1, t1, hg1⟩ : ∃ v1 t1, getO W' M d = (v1, t1) := ⟨_, _, rfl⟩
        -- region 20
        repeat refine HW.seq ?_
        refine HW.region ?_
        refine HL.still (Runs.move f15) ?_
        intro u92 e92
        refine HL.still (Runs.loadAgg Try.underlying31 rfl sz31 d19 (encD_len d) (load_blk kd)) ?_
        intro u93 e93
        refine HL.one (HO.call Try.func42 bd42 nm42 (args2 e92 e93) rfl ((getBX_ch h11 t bm oa' s b room W' M d v1 t1 hg1 T11 S11 hWs' hMs).mono ?_))
        rintro _ h12 ⟨a12, c12, rfl, B12, Y12⟩
        intro u94 e94
        refine HL.still (Runs.move e94) ?_
        intro u91 e91
        refine HL.still (Runs.extr e91 rfl) ?_
        intro u95 e95
        refine HL.still (Runs.extr e91 rfl) ?_
        intro u96 e96
        refine HL.still (Runs.assign e95) ?_
        intro u21 e21
        refine HL.still (Runs.assign e96) ?_
        intro u22 e22
        refine HL.nil ?_
        have d21 : u21 = .slice a12 v1.length c12 := e21
        have d22 : u22 = .bool t1 := e22
        have S12 := S11.ext Y12
        have T12 := T11.ext Y12
        have D12 := D11.ext Y12
        have hX12 := hX11.ext Y12 (Nat.le_refl _)
        obtain ⟨sb', so', hsa', b1', c1', xs', hx', hcell', hby', hle'⟩ := (hB.ext hX12).at hlt
        rw [hx] at hx'
        cases hx'
        cases hsa'
        repeat refine HW.seq ?_
        refine HW.mono (N := fun f' h13 => f' 2 = .slice (some ⟨sb, so, none⟩) l.length cap ∧ f' 3 = .bool cm ∧ f' 9 = .bool true ∧ f' 12 = .pointer (some ⟨s, 0, none⟩) ∧ f' 14 = .slice ka ks.length kc ∧ f' 15 = .pointer (some ⟨t, 0, none⟩) ∧ f' 16 = I64 k ∧ f' 131 = .bool false ∧ Ext h12 h13) ?_ ?_ (fun _ _ _ q => q) (fun _ _ q => q)
        · clear e17 e18 e19 e20 e21 e22
          rcases putB_cases hp with ⟨c1', c2', c3', c4'⟩ | ⟨c1', c2', _, c3', c4', c5'⟩ | ⟨c1', c2', _, c3', c4', c5'⟩
          · have hh : had = true := by rw [hhad]; rcases c1' with q | q <;> rw [q] <;> simp
            have ht1 : t1 = true := by
              rw [c2', c3', hg0] at hg1
              cases hg1
              exact hh
            subst c4'
            rw [hh] at d18
            rw [ht1] at d22
            -- region 21
            repeat refine HW.seq ?_
            refine HW.growU #[0, 1, 3, 7, 15, 31, 63, 127, 255, 511, 1023, 511, 511, 6655, 14847, 31231, 65535, 131071, 262143, 524287, 1048575, 2097151, 4194303, 8388607, 16777215, 33554431, 67108863, 134217727, 268435455, 536870911, 536870911, 1610612735, 4294967295, 8589934591, 17179869183] (fun a b => Ext a b) mixed (by kernel_rfl) (fun _ => Bel.refl _ _) (fun _ _ _ x y => Bel.ext x y (Nat.le_refl _)) ?_
            refine HMU.still (fun _ => Bel.refl _ _) (fun f h K => Runs.move ((K.keep (by kernel_rfl)).trans d20)) ?_
            refine HMU.still (fun _ => Bel.refl _ _) (fun f h K => Runs.eql (K.at 0 97 rfl rfl) rfl (t := true) rfl) ?_
            refine HMU.still (fun _ => Bel.refl _ _) (fun f h K => Runs.move (K.at 1 98 rfl rfl)) ?_
            refine HMU.stillG (fun _ => Bel.refl _ _) rfl rfl rfl (fun f h K => K.at 2 99 rfl rfl) (fun f h K => Runs.move ((K.keep (by kernel_rfl)).trans d22)) ?_
            refine HMU.stillG (v := .bool false) (fun _ => Bel.refl _ _) rfl rfl rfl (fun f h K => K.at 2 99 rfl rfl) (fun f h K => Runs.notb (t := true) (show f 100 = .bool true from (K.at 3 100 rfl rfl)) rfl) ?_
            refine HMU.stillG (fun _ => Bel.refl _ _) rfl rfl rfl (fun f h K => K.at 2 99 rfl rfl) (fun f h K => Runs.move (K.at 4 101 rfl rfl)) ?_
            refine HMU.stillG (fun _ => Bel.refl _ _) rfl rfl rfl (fun f h K => K.at 5 102 rfl rfl) (fun f h K => Runs.move ((K.keep (by kernel_rfl)).trans d18)) ?_
            refine HMU.stillG (v := .bool false) (fun _ => Bel.refl _ _) rfl rfl rfl (fun f h K => K.at 5 102 rfl rfl) (fun f h K => Runs.notb (t := true) (show f 103 = .bool true from (K.at 6 103 rfl rfl)) rfl) ?_
            refine HMU.stillG (fun _ => Bel.refl _ _) rfl rfl rfl (fun f h K => K.at 5 102 rfl rfl) (fun f h K => Runs.move (K.at 7 104 rfl rfl)) ?_
            refine HMU.skipG rfl rfl rfl (fun f h K => K.at 8 105 rfl rfl) ?_
            refine HMU.skipG rfl rfl rfl (fun f h K => K.at 8 105 rfl rfl) ?_
            refine HMU.skipG rfl rfl rfl (fun f h K => K.at 8 105 rfl rfl) ?_
            refine HMU.skipG rfl rfl rfl (fun f h K => K.at 8 105 rfl rfl) ?_
            refine HMU.skipG rfl rfl rfl (fun f h K => K.at 8 105 rfl rfl) ?_
            refine HMU.skipG rfl rfl rfl (fun f h K => K.at 8 105 rfl rfl) ?_
            refine HMU.skipG rfl rfl rfl (fun f h K => K.at 8 105 rfl rfl) ?_
            refine HMU.skipG rfl rfl rfl (fun f h K => K.at 8 105 rfl rfl) ?_
            refine HMU.stillG (fun _ => Bel.refl _ _) rfl rfl rfl (fun f h K => K.at 5 102 rfl rfl) (fun f h K => Runs.pick (K.at 8 105 rfl rfl) rfl) ?_
            refine HMU.stillG (fun _ => Bel.refl _ _) rfl rfl rfl (fun f h K => K.at 2 99 rfl rfl) (fun f h K => Runs.pick (K.at 5 102 rfl rfl) (K.at 17 114 rfl rfl)) ?_
            refine HMU.still (fun _ => Bel.refl _ _) (fun f h K => Runs.pick (K.at 2 99 rfl rfl) (K.at 18 115 rfl rfl)) ?_
            refine HMU.still (fun _ => Bel.refl _ _) (fun f h K => Runs.move (K.at 19 116 rfl rfl)) ?_
            refine HMU.stillG (fun _ => Bel.refl _ _) rfl rfl rfl (fun f h K => K.at 20 117 rfl rfl) (fun f h K => Runs.move ((K.keep (by kernel_rfl)).trans d20)) ?_
            refine HMU.stillG (fun _ => Bel.refl _ _) rfl rfl rfl (fun f h K => K.at 20 117 rfl rfl) (fun f h K => Runs.neq (K.at 21 118 rfl rfl) rfl (t := false) rfl) ?_
            refine HMU.stillG (fun _ => Bel.refl _ _) rfl rfl rfl (fun f h K => K.at 20 117 rfl rfl) (fun f h K => Runs.move (K.at 22 119 rfl rfl)) ?_
            refine HMU.skipG rfl rfl rfl (fun f h K => K.at 23 120 rfl rfl) ?_
            refine HMU.skipG rfl rfl rfl (fun f h K => K.at 23 120 rfl rfl) ?_
            refine HMU.stillG (fun _ => Bel.refl _ _) rfl rfl rfl (fun f h K => K.at 20 117 rfl rfl) (fun f h K => Runs.pick (K.at 23 120 rfl rfl) rfl) ?_
            refine HMU.still (fun _ => Bel.refl _ _) (fun f h K => Runs.pick (K.at 20 117 rfl rfl) (K.at 26 123 rfl rfl)) ?_
            refine HMU.still (fun _ => Bel.refl _ _) (fun f h K => Runs.move (K.at 27 124 rfl rfl)) ?_
            refine HMU.stillG (fun _ => Bel.refl _ _) rfl rfl rfl (fun f h K => K.at 28 125 rfl rfl) (fun f h K => Runs.move ((K.keep (by kernel_rfl)).trans f14)) ?_
            refine HMU.stillG (fun _ => Bel.refl _ _) rfl rfl rfl (fun f h K => K.at 28 125 rfl rfl) (fun f h K => Runs.move ((K.keep (by kernel_rfl)).trans f12)) ?_
            refine HMU.oneG (fun v hh => ∃ kb kc2, v = .slice kb ks.length kc2 ∧ Dgs hh kb ks) (fun v u u' X ⟨kb, kc2, q1, q2⟩ => ⟨kb, kc2, q1, q2.ext X⟩) rfl rfl rfl (fun f h K => K.at 28 125 rfl rfl) (fun f h K => HO.call Try.func29 bd29 nm29 (args1 (K.at 30 127 rfl rfl)) rfl ((keysE_ch h s b room M 40 ks GG kp kq (S12.ext K.grown) (by omega)).mono fun v h' ⟨kb, kc2, q1, q2, q3⟩ => ⟨q3, kb, kc2, q1, q2.dgs⟩)) ?_
            refine HMU.oneG (fun x _ => x = .bool true) (fun _ _ _ _ e => e) rfl rfl rfl (fun f h K => K.at 28 125 rfl rfl) (fun f h K => by obtain ⟨kb, kc2, q1, q2⟩ := K.at 31 128 rfl rfl; exact HO.call Try.func30 bd30 nm30 (args2 (K.at 29 126 rfl rfl) q1) rfl ((keysT_ch h ks ks ka kb _ _ kc kc2 rfl rfl (D12.ext K.grown).dgs q2 (by omega) (by omega) rfl).mono fun _ _ q => ⟨q.2, q.1⟩)) ?_
            refine HMU.stillG (v := .bool false) (fun _ => Bel.refl _ _) rfl rfl rfl (fun f h K => K.at 28 125 rfl rfl) (fun f h K => Runs.notb (t := true) (show f 129 = .bool true from (K.at 32 129 rfl rfl)) rfl) ?_
            refine HMU.still (fun _ => Bel.refl _ _) (fun f h K => Runs.pick (K.at 28 125 rfl rfl) (K.at 33 130 rfl rfl)) ?_
            intro f' h13 hR V O
            exact ⟨(last_keep O (s := 2) (by kernel_rfl)).trans f2, (last_keep O (s := 3) (by kernel_rfl)).trans f3, (last_keep O (s := 9) (by kernel_rfl)).trans f9, (last_keep O (s := 12) (by kernel_rfl)).trans f12, (last_keep O (s := 14) (by kernel_rfl)).trans f14, (last_keep O (s := 15) (by kernel_rfl)).trans f15, (last_keep O (s := 16) (by kernel_rfl)).trans f16, last_at V 34 131 rfl, hR⟩
          · subst c5'
            -- region 21
            repeat refine HW.seq ?_
            refine HW.growU #[0, 1, 3, 7, 15, 31, 63, 127, 255, 511, 1023, 511, 511, 6655, 14847, 31231, 65535, 131071, 262143, 524287, 1048575, 2097151, 4194303, 8388607, 16777215, 33554431, 67108863, 134217727, 268435455, 536870911, 536870911, 1610612735, 4294967295, 8589934591, 17179869183] (fun a b => Ext a b) mixed (by kernel_rfl) (fun _ => Bel.refl _ _) (fun _ _ _ x y => Bel.ext x y (Nat.le_refl _)) ?_
            refine HMU.still (fun _ => Bel.refl _ _) (fun f h K => Runs.move ((K.keep (by kernel_rfl)).trans d20)) ?_
            refine HMU.still (fun _ => Bel.refl _ _) (fun f h K => Runs.eql (K.at 0 97 rfl rfl) rfl (t := false) rfl) ?_
            refine HMU.still (fun _ => Bel.refl _ _) (fun f h K => Runs.move (K.at 1 98 rfl rfl)) ?_
            refine HMU.skipG rfl rfl rfl (fun f h K => K.at 2 99 rfl rfl) ?_
            refine HMU.skipG rfl rfl rfl (fun f h K => K.at 2 99 rfl rfl) ?_
            refine HMU.skipG rfl rfl rfl (fun f h K => K.at 2 99 rfl rfl) ?_
            refine HMU.skipU rfl rfl rfl (fun f h K => K.at 5 102 rfl rfl) ?_
            refine HMU.skipU rfl rfl rfl (fun f h K => K.at 5 102 rfl rfl) ?_
            refine HMU.skipU rfl rfl rfl (fun f h K => K.at 5 102 rfl rfl) ?_
            refine HMU.skipU rfl rfl rfl (fun f h K => K.at 8 105 rfl rfl) ?_
            refine HMU.skipU rfl rfl rfl (fun f h K => K.at 8 105 rfl rfl) ?_
            refine HMU.skipU rfl rfl rfl (fun f h K => K.at 8 105 rfl rfl) ?_
            refine HMU.skipU rfl rfl rfl (fun f h K => K.at 8 105 rfl rfl) ?_
            refine HMU.skipU rfl rfl rfl (fun f h K => K.at 8 105 rfl rfl) ?_
            refine HMU.skipU rfl rfl rfl (fun f h K => K.at 8 105 rfl rfl) ?_
            refine HMU.skipU rfl rfl rfl (fun f h K => K.at 8 105 rfl rfl) ?_
            refine HMU.skipU rfl rfl rfl (fun f h K => K.at 8 105 rfl rfl) ?_
            refine HMU.skipU rfl rfl rfl (fun f h K => K.at 5 102 rfl rfl) ?_
            refine HMU.skipG rfl rfl rfl (fun f h K => K.at 2 99 rfl rfl) ?_
            refine HMU.still (fun _ => Bel.refl _ _) (fun f h K => Runs.pick (K.at 2 99 rfl rfl) rfl) ?_
            refine HMU.still (fun _ => Bel.refl _ _) (fun f h K => Runs.move (K.at 19 116 rfl rfl)) ?_
            refine HMU.stillG (fun _ => Bel.refl _ _) rfl rfl rfl (fun f h K => K.at 20 117 rfl rfl) (fun f h K => Runs.move ((K.keep (by kernel_rfl)).trans d20)) ?_
            refine HMU.stillG (fun _ => Bel.refl _ _) rfl rfl rfl (fun f h K => K.at 20 117 rfl rfl) (fun f h K => Runs.neq (K.at 21 118 rfl rfl) rfl (t := true) rfl) ?_
            refine HMU.stillG (fun _ => Bel.refl _ _) rfl rfl rfl (fun f h K => K.at 20 117 rfl rfl) (fun f h K => Runs.move (K.at 22 119 rfl rfl)) ?_
            refine HMU.stillG (fun _ => Bel.refl _ _) rfl rfl rfl (fun f h K => K.at 23 120 rfl rfl) (fun f h K => Runs.move ((K.keep (by kernel_rfl)).trans d20)) ?_
            refine HMU.stillG (fun _ => Bel.refl _ _) rfl rfl rfl (fun f h K => K.at 23 120 rfl rfl) (fun f h K => Runs.neq (K.at 24 121 rfl rfl) rfl (t := false) rfl) ?_
            refine HMU.stillG (fun _ => Bel.refl _ _) rfl rfl rfl (fun f h K => K.at 20 117 rfl rfl) (fun f h K => Runs.pick (K.at 23 120 rfl rfl) (K.at 25 122 rfl rfl)) ?_
            refine HMU.still (fun _ => Bel.refl _ _) (fun f h K => Runs.pick (K.at 20 117 rfl rfl) (K.at 26 123 rfl rfl)) ?_
            refine HMU.still (fun _ => Bel.refl _ _) (fun f h K => Runs.move (K.at 27 124 rfl rfl)) ?_
            refine HMU.stillG (fun _ => Bel.refl _ _) rfl rfl rfl (fun f h K => K.at 28 125 rfl rfl) (fun f h K => Runs.move ((K.keep (by kernel_rfl)).trans f14)) ?_
            refine HMU.stillG (fun _ => Bel.refl _ _) rfl rfl rfl (fun f h K => K.at 28 125 rfl rfl) (fun f h K => Runs.move ((K.keep (by kernel_rfl)).trans f12)) ?_
            refine HMU.oneG (fun v hh => ∃ kb kc2, v = .slice kb ks.length kc2 ∧ Dgs hh kb ks) (fun v u u' X ⟨kb, kc2, q1, q2⟩ => ⟨kb, kc2, q1, q2.ext X⟩) rfl rfl rfl (fun f h K => K.at 28 125 rfl rfl) (fun f h K => HO.call Try.func29 bd29 nm29 (args1 (K.at 30 127 rfl rfl)) rfl ((keysE_ch h s b room M 40 ks GG kp kq (S12.ext K.grown) (by omega)).mono fun v h' ⟨kb, kc2, q1, q2, q3⟩ => ⟨q3, kb, kc2, q1, q2.dgs⟩)) ?_
            refine HMU.oneG (fun x _ => x = .bool true) (fun _ _ _ _ e => e) rfl rfl rfl (fun f h K => K.at 28 125 rfl rfl) (fun f h K => by obtain ⟨kb, kc2, q1, q2⟩ := K.at 31 128 rfl rfl; exact HO.call Try.func30 bd30 nm30 (args2 (K.at 29 126 rfl rfl) q1) rfl ((keysT_ch h ks ks ka kb _ _ kc kc2 rfl rfl (D12.ext K.grown).dgs q2 (by omega) (by omega) rfl).mono fun _ _ q => ⟨q.2, q.1⟩)) ?_
            refine HMU.stillG (v := .bool false) (fun _ => Bel.refl _ _) rfl rfl rfl (fun f h K => K.at 28 125 rfl rfl) (fun f h K => Runs.notb (t := true) (show f 129 = .bool true from (K.at 32 129 rfl rfl)) rfl) ?_
            refine HMU.still (fun _ => Bel.refl _ _) (fun f h K => Runs.pick (K.at 28 125 rfl rfl) (K.at 33 130 rfl rfl)) ?_
            intro f' h13 hR V O
            exact ⟨(last_keep O (s := 2) (by kernel_rfl)).trans f2, (last_keep O (s := 3) (by kernel_rfl)).trans f3, (last_keep O (s := 9) (by kernel_rfl)).trans f9, (last_keep O (s := 12) (by kernel_rfl)).trans f12, (last_keep O (s := 14) (by kernel_rfl)).trans f14, (last_keep O (s := 15) (by kernel_rfl)).trans f15, (last_keep O (s := 16) (by kernel_rfl)).trans f16, last_at V 34 131 rfl, hR⟩
          · have hh : had = false := by rw [hhad, c1', c2']; rfl
            subst c5'
            rw [hh] at d18
            have hg2 := getO_new W M xs c1'
            rw [← c3', ← c4', hg1] at hg2
            obtain ⟨ev1, et1⟩ : v1 = xs ∧ t1 = true := by cases hg2; exact ⟨rfl, rfl⟩
            rw [ev1] at d21 B12
            rw [et1] at d22
            -- region 21
            repeat refine HW.seq ?_
            refine HW.growU #[0, 1, 3, 7, 15, 31, 63, 127, 255, 511, 1023, 511, 511, 6655, 14847, 31231, 65535, 131071, 262143, 524287, 1048575, 2097151, 4194303, 8388607, 16777215, 33554431, 67108863, 134217727, 268435455, 536870911, 536870911, 1610612735, 4294967295, 8589934591, 17179869183] (fun a b => Ext a b) mixed (by kernel_rfl) (fun _ => Bel.refl _ _) (fun _ _ _ x y => Bel.ext x y (Nat.le_refl _)) ?_
            refine HMU.still (fun _ => Bel.refl _ _) (fun f h K => Runs.move ((K.keep (by kernel_rfl)).trans d20)) ?_
            refine HMU.still (fun _ => Bel.refl _ _) (fun f h K => Runs.eql (K.at 0 97 rfl rfl) rfl (t := true) rfl) ?_
            refine HMU.still (fun _ => Bel.refl _ _) (fun f h K => Runs.move (K.at 1 98 rfl rfl)) ?_
            refine HMU.stillG (fun _ => Bel.refl _ _) rfl rfl rfl (fun f h K => K.at 2 99 rfl rfl) (fun f h K => Runs.move ((K.keep (by kernel_rfl)).trans d22)) ?_
            refine HMU.stillG (v := .bool false) (fun _ => Bel.refl _ _) rfl rfl rfl (fun f h K => K.at 2 99 rfl rfl) (fun f h K => Runs.notb (t := true) (show f 100 = .bool true from (K.at 3 100 rfl rfl)) rfl) ?_
            refine HMU.stillG (fun _ => Bel.refl _ _) rfl rfl rfl (fun f h K => K.at 2 99 rfl rfl) (fun f h K => Runs.move (K.at 4 101 rfl rfl)) ?_
            refine HMU.stillG (fun _ => Bel.refl _ _) rfl rfl rfl (fun f h K => K.at 5 102 rfl rfl) (fun f h K => Runs.move ((K.keep (by kernel_rfl)).trans d18)) ?_
            refine HMU.stillG (v := .bool true) (fun _ => Bel.refl _ _) rfl rfl rfl (fun f h K => K.at 5 102 rfl rfl) (fun f h K => Runs.notb (t := false) (show f 103 = .bool false from (K.at 6 103 rfl rfl)) rfl) ?_
            refine HMU.stillG (fun _ => Bel.refl _ _) rfl rfl rfl (fun f h K => K.at 5 102 rfl rfl) (fun f h K => Runs.move (K.at 7 104 rfl rfl)) ?_
            refine HMU.stillG (fun _ => Bel.refl _ _) rfl rfl rfl (fun f h K => K.at 8 105 rfl rfl) (fun f h K => Runs.move ((K.keep (by kernel_rfl)).trans d21)) ?_
            refine HMU.stillG (fun _ => Bel.refl _ _) rfl rfl rfl (fun f h K => K.at 8 105 rfl rfl) (fun f h K => Runs.toStrB Try.underlying29 Try.underlying5 Try.underlying9 (K.at 9 106 rfl rfl) rfl (B12.byt.ext K.grown)) ?_
            refine HMU.stillG (fun _ => Bel.refl _ _) rfl rfl rfl (fun f h K => K.at 8 105 rfl rfl) (fun f h K => Runs.move ((K.keep (by kernel_rfl)).trans f2)) ?_
            refine HMU.stillG (fun _ => Bel.refl _ _) rfl rfl rfl (fun f h K => K.at 8 105 rfl rfl) (fun f h K => Runs.move ((K.keep (by kernel_rfl)).trans f16)) ?_
            refine HMU.stillG (fun _ => Bel.refl _ _) rfl rfl rfl (fun f h K => K.at 8 105 rfl rfl) (fun f h K => Runs.ixSl (o' := so + k) Try.underlying22 sz29 (K.at 11 108 rfl rfl) (K.at 12 109 rfl rfl) (by omega) (by omega) (by omega)) ?_
            refine HMU.stillG (fun _ => Bel.refl _ _) rfl rfl rfl (fun f h K => K.at 8 105 rfl rfl) (fun f h K => Runs.load Try.underlying29 rfl (K.at 13 110 rfl rfl) (by rw [cellH_keep (Bel.old K.grown sb (lt_of_cellH hcell'))]; exact hcell')) ?_
            refine HMU.stillG (fun _ => Bel.refl _ _) rfl rfl rfl (fun f h K => K.at 8 105 rfl rfl) (fun f h K => Runs.toStrB Try.underlying29 Try.underlying5 Try.underlying9 (K.at 14 111 rfl rfl) rfl (hby'.ext K.grown)) ?_
            refine HMU.stillG (fun _ => Bel.refl _ _) rfl rfl rfl (fun f h K => K.at 8 105 rfl rfl) (fun f h K => Runs.neqS (K.at 10 107 rfl rfl) (K.at 15 112 rfl rfl) (t := false) (by simp)) ?_
            refine HMU.stillG (fun _ => Bel.refl _ _) rfl rfl rfl (fun f h K => K.at 5 102 rfl rfl) (fun f h K => Runs.pick (K.at 8 105 rfl rfl) (K.at 16 113 rfl rfl)) ?_
            refine HMU.stillG (fun _ => Bel.refl _ _) rfl rfl rfl (fun f h K => K.at 2 99 rfl rfl) (fun f h K => Runs.pick (K.at 5 102 rfl rfl) (K.at 17 114 rfl rfl)) ?_
            refine HMU.still (fun _ => Bel.refl _ _) (fun f h K => Runs.pick (K.at 2 99 rfl rfl) (K.at 18 115 rfl rfl)) ?_
            refine HMU.still (fun _ => Bel.refl _ _) (fun f h K => Runs.move (K.at 19 116 rfl rfl)) ?_
            refine HMU.stillG (fun _ => Bel.refl _ _) rfl rfl rfl (fun f h K => K.at 20 117 rfl rfl) (fun f h K => Runs.move ((K.keep (by kernel_rfl)).trans d20)) ?_
            refine HMU.stillG (fun _ => Bel.refl _ _) rfl rfl rfl (fun f h K => K.at 20 117 rfl rfl) (fun f h K => Runs.neq (K.at 21 118 rfl rfl) rfl (t := false) rfl) ?_
            refine HMU.stillG (fun _ => Bel.refl _ _) rfl rfl rfl (fun f h K => K.at 20 117 rfl rfl) (fun f h K => Runs.move (K.at 22 119 rfl rfl)) ?_
            refine HMU.skipG rfl rfl rfl (fun f h K => K.at 23 120 rfl rfl) ?_
            refine HMU.skipG rfl rfl rfl (fun f h K => K.at 23 120 rfl rfl) ?_
            refine HMU.stillG (fun _ => Bel.refl _ _) rfl rfl rfl (fun f h K => K.at 20 117 rfl rfl) (fun f h K => Runs.pick (K.at 23 120 rfl rfl) rfl) ?_
            refine HMU.still (fun _ => Bel.refl _ _) (fun f h K => Runs.pick (K.at 20 117 rfl rfl) (K.at 26 123 rfl rfl)) ?_
            refine HMU.still (fun _ => Bel.refl _ _) (fun f h K => Runs.move (K.at 27 124 rfl rfl)) ?_
            refine HMU.stillG (fun _ => Bel.refl _ _) rfl rfl rfl (fun f h K => K.at 28 125 rfl rfl) (fun f h K => Runs.move ((K.keep (by kernel_rfl)).trans f14)) ?_
            refine HMU.stillG (fun _ => Bel.refl _ _) rfl rfl rfl (fun f h K => K.at 28 125 rfl rfl) (fun f h K => Runs.move ((K.keep (by kernel_rfl)).trans f12)) ?_
            refine HMU.oneG (fun v hh => ∃ kb kc2, v = .slice kb ks.length kc2 ∧ Dgs hh kb ks) (fun v u u' X ⟨kb, kc2, q1, q2⟩ => ⟨kb, kc2, q1, q2.ext X⟩) rfl rfl rfl (fun f h K => K.at 28 125 rfl rfl) (fun f h K => HO.call Try.func29 bd29 nm29 (args1 (K.at 30 127 rfl rfl)) rfl ((keysE_ch h s b room M 40 ks GG kp kq (S12.ext K.grown) (by omega)).mono fun v h' ⟨kb, kc2, q1, q2, q3⟩ => ⟨q3, kb, kc2, q1, q2.dgs⟩)) ?_
            refine HMU.oneG (fun x _ => x = .bool true) (fun _ _ _ _ e => e) rfl rfl rfl (fun f h K => K.at 28 125 rfl rfl) (fun f h K => by obtain ⟨kb, kc2, q1, q2⟩ := K.at 31 128 rfl rfl; exact HO.call Try.func30 bd30 nm30 (args2 (K.at 29 126 rfl rfl) q1) rfl ((keysT_ch h ks ks ka kb _ _ kc kc2 rfl rfl (D12.ext K.grown).dgs q2 (by omega) (by omega) rfl).mono fun _ _ q => ⟨q.2, q.1⟩)) ?_
            refine HMU.stillG (v := .bool false) (fun _ => Bel.refl _ _) rfl rfl rfl (fun f h K => K.at 28 125 rfl rfl) (fun f h K => Runs.notb (t := true) (show f 129 = .bool true from (K.at 32 129 rfl rfl)) rfl) ?_
            refine HMU.still (fun _ => Bel.refl _ _) (fun f h K => Runs.pick (K.at 28 125 rfl rfl) (K.at 33 130 rfl rfl)) ?_
            intro f' h13 hR V O
            exact ⟨(last_keep O (s := 2) (by kernel_rfl)).trans f2, (last_keep O (s := 3) (by kernel_rfl)).trans f3, (last_keep O (s := 9) (by kernel_rfl)).trans f9, (last_keep O (s := 12) (by kernel_rfl)).trans f12, (last_keep O (s := 14) (by kernel_rfl)).trans f14, (last_keep O (s := 15) (by kernel_rfl)).trans f15, (last_keep O (s := 16) (by kernel_rfl)).trans f16, last_at V 34 131 rfl, hR⟩
        · clear e17 e18 e19 e20 e21 e22
          rintro f' h13 ⟨r2, r3, r9, r12, r14, r15, r16, r131, Y13⟩
          refine HW.no r131 ?_
          refine HW.skip ?_
          -- region 17
          repeat refine HW.seq ?_
          refine HW.region ?_
          refine HL.still (Runs.move r16) ?_
          intro u70 e70
          refine HL.still (Runs.add e70 rfl (i64w (by omega))) ?_
          intro u71 e71
          refine HL.still (Runs.assign e71) ?_
          intro u16 e16
          refine HL.nil ?_
          exact ⟨l.length - (k + 1), by omega, k + 1, by omega, rfl, e16, r2, r3, r9, r12, r14, r15, hX12.ext Y13 (Nat.le_refl _), o11, W', oa', L11, S12.ext Y13, T12.ext Y13, D12.ext Y13, hD10, G', hfit', hap'⟩
      · have hkl : k = l.length := by omega
        subst hkl
        -- region 16
        repeat refine HW.seq ?_
        refine HW.region ?_
        refine HL.still (Runs.move f16) ?_
        intro u66 e66
        refine HL.still (Runs.move f2) ?_
        intro u67 e67
        refine HL.still (Runs.lenSl rfl Try.underlying22 e67) ?_
        intro u68 e68
        refine HL.still (Runs.lss e66 e68 rfl) ?_
        intro u69 e69
        refine HL.nil ?_
        repeat refine HW.seq ?_
        refine HW.no ?_ ?_
        exact e69.trans (congrArg Value.bool (decide_eq_false (by omega)))
        refine HW.exitHere ?_
        exact ⟨f3, f9, f12, f14, f15, hX, own, W, oa, L, S, T, D, hD, ⟨by have := G.len; omega, G.nodup, G.small, G.own⟩, hfit, hap⟩
    clear e16 f2 f3 f9 f12 d14 e14 e15 XA L4 S4 T4 D4 hD4 hX S Sk L Lk hDk D Xk X4 ho4 hok
    rintro f v ⟨f3, f9, f12, f14, f15, hX, own, W, oa, L, S, T, D, hD, G, hfit, hap⟩
    have hv := hX.size
    have htW : tot W ≤ 1000000000 := Nat.le_trans G.tot (by decide)
    have hlW := G.len
    -- region 23
    repeat refine HW.seq ?_
    refine HW.region ?_
    refine HL.still (Runs.move f15) ?_
    intro u132 e132
    refine HL.one (HO.call Try.func44 bd44 nm44 (args1 e132) rfl ((staged_ch v t bm oa s W T (by omega)).mono ?_))
    rintro _ hq ⟨qa, qc, rfl, Q, Xq⟩
    intro u133 e133
    refine HL.still (Runs.assign e133) ?_
    intro u23 e23
    refine HL.nil ?_
    have d23 : u23 = .slice qa (W.map (·.1)).length qc := e23
    have Sq := S.other (.of_ext Xq) (x := 0) (by decide)
    have Tq := T.other (.of_ext Xq) (x := 0) (by decide)
    have Lq := stamp_low (x := 0) L (by omega : N ≤ v.size)
    obtain ⟨Dq, hDq⟩ := ds_st (x := 0) D hD (fun j hj _ => Xq.old j hj)
    have hXq := hX.ext Xq (Nat.le_refl _)
    have zq := Xq.size
    obtain ⟨K, hK⟩ : ∃ K, K = W.map (·.1) := ⟨_, rfl⟩
    have hKl : K.length = W.length := by rw [hK, List.length_map]
    rw [← hK] at Q d23
    have hQ : ∀ g, qa = some ⟨g, 0, none⟩ → stamp own v.size 0 g = 0 := fun g e => stamp_ge (Q.lie g 0 e).1
    obtain ⟨oq, hoq⟩ : ∃ oq, oq = stamp own v.size 0 := ⟨_, rfl⟩
    rw [← hoq] at Sq Tq Lq hQ hDq
    clear L S T D hD hX
    cases cm with
    | false =>
      -- region 24
      repeat refine HW.seq ?_
      refine HW.region ?_
      refine HL.still (Runs.move f3) ?_
      intro u134 e134
      refine HL.still (Runs.notb e134 (t := false) (u := true) rfl) ?_
      intro u135 e135
      refine HL.nil ?_
      refine HW.yes e135 ?_
      obtain ⟨_, oc, _, htc, _, _, ⟨_, hot, _⟩, _⟩ := Tq
      -- region 25
      repeat refine HW.seq ?_
      refine HW.region ?_
      refine HL.still (Runs.move f15) ?_
      intro u136 e136
      refine HL.one (HO.call Try.func41 bd41 nm41 (args1 e136) rfl ((discard_ch hq t s (some bm) oa _ oc _ false htc).mono ?_))
      rintro _ h6 ⟨_, w6⟩
      intro u137 e137
      refine HL.nil ?_
      have E6 : ExF (fun j => oq j = 2) hq h6 := ⟨by rw [w6.size]; exact Nat.le_refl _, fun j _ hn => w6.old j fun e => hn (e ▸ hot)⟩
      have S6 := Sq.other E6 (by decide)
      have T6 : BatO (fun _ => True) h6 t s := ⟨w6.new, trivial⟩
      obtain ⟨D6, _⟩ := ds_st (x := 2) Dq hDq (E6.kp (by decide))
      have X6 := E6.only Lq (by decide) hN.symm hXq
      -- region 26
      repeat refine HW.seq ?_
      refine HW.region ?_
      refine HL.still (Runs.move f9) ?_
      intro u138 e138
      refine HL.still (Runs.move e138) ?_
      intro u139 e139
      refine HL.stillG rfl rfl e139 (Runs.move f14) ?_
      intro u140 e140
      refine HL.stillG rfl rfl e139 (Runs.move f12) ?_
      intro u141 e141
      refine HL.oneG rfl rfl e139 (HO.call Try.func29 bd29 nm29 (args1 e141) rfl ((keysE_ch h6 s b room M 40 ks GG kp kq S6 (by omega)).mono ?_))
      rintro _ h7 ⟨kb, kc2, rfl, D2, X7⟩
      intro u142 e142
      refine HL.oneG rfl rfl e139 (HO.call Try.func30 bd30 nm30 (args2 e140 e142) rfl ((keysT_ch h7 ks ks ka kb _ _ kc kc2 rfl rfl (D6.ext X7).dgs D2.dgs (by omega) (by omega) rfl).mono ?_))
      rintro _ h8 ⟨rfl, X8⟩
      intro u143 e143
      refine HL.still (Runs.pick e139 e143) ?_
      intro u144 e144
      refine HL.still (Runs.move e144) ?_
      intro u145 e145
      refine HL.stillG rfl rfl e145 (Runs.move f15) ?_
      intro u146 e146
      refine HL.oneG rfl rfl e145 (HO.call Try.func39 bd39 nm39 (args1 e146) rfl ((commitO_ch h8 t s ((T6.ext X7).ext X8)).mono ?_))
      rintro _ h9 ⟨rfl, X9⟩
      intro u147 e147
      refine HL.stillG rfl rfl e145 (Runs.eql e147 rfl (t := true) rfl) ?_
      intro u148 e148
      refine HL.still (Runs.pick e145 e148) ?_
      intro u149 e149
      refine HL.still (Runs.assign e149) ?_
      intro u8 e8
      refine HL.nil ?_
      refine HW.ret ?_
      exact RT.one rfl e8 ⟨rfl, ((X6.ext X7 (Nat.le_refl _)).ext X8 (Nat.le_refl _)).ext X9 (Nat.le_refl _)⟩
    | true =>
      -- region 24
      repeat refine HW.seq ?_
      refine HW.region ?_
      refine HL.still (Runs.move f3) ?_
      intro u134 e134
      refine HL.still (Runs.notb e134 (t := true) (u := false) rfl) ?_
      intro u135 e135
      refine HL.nil ?_
      refine HW.no e135 ?_
      refine HW.skip ?_
      have hall := putAll_fresh W (room := room) G.own G.nodup hap hfit
      have GP : Good room (M ++ W) 80 := by rw [← hall]; exact (GG.all W).more (by omega)
      obtain ⟨P, hP⟩ : ∃ P, P = M ++ W := ⟨_, rfl⟩
      have hPl : P.length = M.length + W.length := by rw [hP, List.length_append]
      rw [← hP] at hall GP
      have hinM : ∀ d ∈ ks, (lookM P d).isSome = true := fun d hd => lookM_mem (by rw [hP, List.map_append]; exact List.mem_append_left _ (kp.mem_iff.1 hd))
      have hinW : ∀ d ∈ K, (lookM P d).isSome = true := fun d hd => lookM_mem (by rw [hP, List.map_append, ← hK]; exact List.mem_append_right _ hd)
      -- region 27
      repeat refine HW.seq ?_
      refine HW.region ?_
      refine HL.still (Runs.move f15) ?_
      intro u150 e150
      refine HL.one (HO.call Try.func39 bd39 nm39 (args1 e150) rfl ((commit0_own (own := oq) (x := 1) (y := 2) hq t bm oa s b room W M hfit (by decide) Tq Sq hr1 hr0 GG.fits htW (by omega) (fun p hp => Nat.le_trans (G.small p hp) (by decide))).mono ?_))
      rintro _ h5 ⟨rfl, S5, T5, E5⟩
      intro u151 e151
      refine HL.still (Runs.neq e151 rfl (t := false) rfl) ?_
      intro u152 e152
      refine HL.still (Runs.move e152) ?_
      intro u153 e153
      refine HL.stillG rfl rfl e153 (Runs.move f12) ?_
      intro u154 e154
      refine HL.oneG rfl rfl e153 (HO.call Try.func29 bd29 nm29 (args1 e154) rfl ((keysS_ch h5 s b room P (by rw [hall] at S5; exact S5) (by omega)).mono ?_))
      rintro _ h6 ⟨kb, kc2, ks3, rfl, D3, kp3, kq3, X6⟩
      intro u155 e155
      refine HL.stillG rfl rfl e153 (Runs.lenSl rfl Try.underlying41 e155) ?_
      intro u156 e156
      refine HL.stillG rfl rfl e153 (Runs.move f14) ?_
      intro u157 e157
      refine HL.stillG rfl rfl e153 (Runs.lenSl rfl Try.underlying41 e157) ?_
      intro u158 e158
      refine HL.stillG rfl rfl e153 (Runs.move d23) ?_
      intro u159 e159
      refine HL.stillG rfl rfl e153 (Runs.lenSl rfl Try.underlying41 e159) ?_
      intro u160 e160
      refine HL.stillG rfl rfl e153 (Runs.add e158 e160 (i64w (by omega))) ?_
      intro u161 e161
      refine HL.stillG rfl rfl e153 (Runs.neq e156 e161 (t := false) (by rw [kp3.length_eq, List.length_map, hPl, hksl, hKl]; simp)) ?_
      intro u162 e162
      refine HL.still (Runs.pick e153 e162) ?_
      intro u163 e163
      refine HL.nil ?_
      rw [hall] at S5
      have S6 := S5.ext X6
      obtain ⟨D5, _⟩ := ds_st (x := 1) Dq hDq (E5.kp2 (by decide) (by decide))
      obtain ⟨Q5, _⟩ := ds_st (x := 1) Q hQ (E5.kp2 (by decide) (by decide))
      have D6 := D5.ext X6
      have Q6 := Q5.ext X6
      have hX6 : Ext h h6 := (only_st Lq hN.symm hXq E5.size (E5.kp2 (by decide) (by decide))).ext X6 (Nat.le_refl _)
      refine HW.no e163 ?_
      refine HW.skip ?_
      -- region 29
      repeat refine HW.seq ?_
      refine HW.region ?_
      refine HL.still (Runs.assign rfl) ?_
      intro u24 e24
      refine HL.nil ?_
      repeat refine HW.seq ?_
      refine HW.mono (N := fun f v => f 9 = .bool true ∧ f 12 = .pointer (some ⟨s, 0, none⟩) ∧ f 14 = .slice ka ks.length kc ∧ Ext h6 v) ?_ ?_ (fun _ _ _ q => q) (fun _ _ q => q)
      · refine HW.block ?_
        refine HW.loop (fun n f v => ∃ k : Nat, k ≤ K.length ∧ n = K.length - k ∧ f 24 = I64 k ∧ f 9 = .bool true ∧ f 12 = .pointer (some ⟨s, 0, none⟩) ∧ f 14 = .slice ka ks.length kc ∧ f 23 = .slice qa K.length qc ∧ Ext h6 v) K.length
          ⟨0, Nat.zero_le _, rfl, e24, f9, f12, f14, d23, Bel.refl _ _⟩ ?_
        clear e24 f9 f12 f14 d23
        rintro n f v ⟨k, hk1, hn, f24, f9, f12, f14, f23, hXv⟩
        by_cases hlt : k < K.length
        · obtain ⟨sb, so, rfl, hc⟩ := (Q6.ext hXv).dgs.at hlt
          obtain ⟨d, hd⟩ : ∃ d, d = K.getD k zD := ⟨_, rfl⟩
          rw [← hd] at hc
          have hdK : d ∈ K := by rw [hd, List.getD_eq_getElem?_getD, List.getElem?_eq_getElem hlt]; exact List.getElem_mem hlt
          have hdP : (lookM P d).isSome = true := hinW d hdK
          -- region 30
          repeat refine HW.seq ?_
          refine HW.region ?_
          refine HL.still (Runs.move f24) ?_
          intro u164 e164
          refine HL.still (Runs.move f23) ?_
          intro u165 e165
          refine HL.still (Runs.lenSl rfl Try.underlying41 e165) ?_
          intro u166 e166
          refine HL.still (Runs.lss e164 e166 rfl) ?_
          intro u167 e167
          refine HL.nil ?_
          repeat refine HW.seq ?_
          refine HW.yes ?_ ?_
          exact e167.trans (congrArg Value.bool (decide_eq_true (by omega)))
          refine HW.skip ?_
          repeat refine HW.seq ?_
          refine HW.block ?_
          -- region 32
          repeat refine HW.seq ?_
          refine HW.region ?_
          refine HL.still (Runs.move f12) ?_
          intro u170 e170
          refine HL.still (Runs.move f23) ?_
          intro u171 e171
          refine HL.still (Runs.move f24) ?_
          intro u172 e172
          refine HL.still (Runs.ixSl (o' := so + k * 32) Try.underlying41 sz31 e171 e172 (by omega) (by omega) (by omega)) ?_
          intro u173 e173
          refine HL.still (Runs.loadAgg Try.underlying31 rfl sz31 e173 (encD_len d) hc) ?_
          intro u174 e174
          refine HL.one (HO.call Try.func23 bd23 nm23 (args2 e170 e174) rfl ((hasX_ch v s b room P d true (S6.ext hXv) hdP).mono ?_))
          rintro _ h9 ⟨rfl, Y9⟩
          intro u175 e175
          refine HL.still (Runs.notb e175 (t := true) (u := false) rfl) ?_
          intro u176 e176
          refine HL.nil ?_
          refine HW.no e176 ?_
          refine HW.skip ?_
          -- region 31
          repeat refine HW.seq ?_
          refine HW.region ?_
          refine HL.still (Runs.move f24) ?_
          intro u168 e168
          refine HL.still (Runs.add e168 rfl (i64w (by omega))) ?_
          intro u169 e169
          refine HL.still (Runs.assign e169) ?_
          intro u24 e24
          refine HL.nil ?_
          exact ⟨K.length - (k + 1), by omega, k + 1, by omega, rfl, e24, f9, f12, f14, f23, hXv.ext Y9 (Nat.le_refl _)⟩
        · have hkl : k = K.length := by omega
          subst hkl
          -- region 30
          repeat refine HW.seq ?_
          refine HW.region ?_
          refine HL.still (Runs.move f24) ?_
          intro u164 e164
          refine HL.still (Runs.move f23) ?_
          intro u165 e165
          refine HL.still (Runs.lenSl rfl Try.underlying41 e165) ?_
          intro u166 e166
          refine HL.still (Runs.lss e164 e166 rfl) ?_
          intro u167 e167
          refine HL.nil ?_
          repeat refine HW.seq ?_
          refine HW.no ?_ ?_
          exact e167.trans (congrArg Value.bool (decide_eq_false (by omega)))
          refine HW.exitHere ?_
          exact ⟨f9, f12, f14, hXv⟩
      clear e24 f9 f12 f14 d23
      rintro f w ⟨f9, f12, f14, hXw⟩
      -- region 34
      repeat refine HW.seq ?_
      refine HW.region ?_
      refine HL.still (Runs.assign rfl) ?_
      intro u25 e25
      refine HL.nil ?_
      repeat refine HW.seq ?_
      refine HW.mono (N := fun f v => f 9 = .bool true ∧ f 12 = .pointer (some ⟨s, 0, none⟩) ∧ Ext h6 v) ?_ ?_ (fun _ _ _ q => q) (fun _ _ q => q)
      · refine HW.block ?_
        refine HW.loop (fun n f v => ∃ k : Nat, k ≤ ks.length ∧ n = ks.length - k ∧ f 25 = I64 k ∧ f 9 = .bool true ∧ f 12 = .pointer (some ⟨s, 0, none⟩) ∧ f 14 = .slice ka ks.length kc ∧ Ext h6 v) ks.length
          ⟨0, Nat.zero_le _, rfl, e25, f9, f12, f14, hXw⟩ ?_
        clear e25 f9 f12 f14
        rintro n f v ⟨k, hk1, hn, f25, f9, f12, f14, hXv⟩
        by_cases hlt : k < ks.length
        · obtain ⟨sb, so, rfl, hc⟩ := (D6.ext hXv).dgs.at hlt
          obtain ⟨d, hd⟩ : ∃ d, d = ks.getD k zD := ⟨_, rfl⟩
          rw [← hd] at hc
          have hdK : d ∈ ks := by rw [hd, List.getD_eq_getElem?_getD, List.getElem?_eq_getElem hlt]; exact List.getElem_mem hlt
          have hdP : (lookM P d).isSome = true := hinM d hdK
          -- region 35
          repeat refine HW.seq ?_
          refine HW.region ?_
          refine HL.still (Runs.move f25) ?_
          intro u177 e177
          refine HL.still (Runs.move f14) ?_
          intro u178 e178
          refine HL.still (Runs.lenSl rfl Try.underlying41 e178) ?_
          intro u179 e179
          refine HL.still (Runs.lss e177 e179 rfl) ?_
          intro u180 e180
          refine HL.nil ?_
          repeat refine HW.seq ?_
          refine HW.yes ?_ ?_
          exact e180.trans (congrArg Value.bool (decide_eq_true (by omega)))
          refine HW.skip ?_
          repeat refine HW.seq ?_
          refine HW.block ?_
          -- region 37
          repeat refine HW.seq ?_
          refine HW.region ?_
          refine HL.still (Runs.move f12) ?_
          intro u183 e183
          refine HL.still (Runs.move f14) ?_
          intro u184 e184
          refine HL.still (Runs.move f25) ?_
          intro u185 e185
          refine HL.still (Runs.ixSl (o' := so + k * 32) Try.underlying41 sz31 e184 e185 (by omega) (by omega) (by omega)) ?_
          intro u186 e186
          refine HL.still (Runs.loadAgg Try.underlying31 rfl sz31 e186 (encD_len d) hc) ?_
          intro u187 e187
          refine HL.one (HO.call Try.func23 bd23 nm23 (args2 e183 e187) rfl ((hasX_ch v s b room P d true (S6.ext hXv) hdP).mono ?_))
          rintro _ h9 ⟨rfl, Y9⟩
          intro u188 e188
          refine HL.still (Runs.notb e188 (t := true) (u := false) rfl) ?_
          intro u189 e189
          refine HL.nil ?_
          refine HW.no e189 ?_
          refine HW.skip ?_
          -- region 36
          repeat refine HW.seq ?_
          refine HW.region ?_
          refine HL.still (Runs.move f25) ?_
          intro u181 e181
          refine HL.still (Runs.add e181 rfl (i64w (by omega))) ?_
          intro u182 e182
          refine HL.still (Runs.assign e182) ?_
          intro u25 e25
          refine HL.nil ?_
          exact ⟨ks.length - (k + 1), by omega, k + 1, by omega, rfl, e25, f9, f12, f14, hXv.ext Y9 (Nat.le_refl _)⟩
        · have hkl : k = ks.length := by omega
          subst hkl
          -- region 35
          repeat refine HW.seq ?_
          refine HW.region ?_
          refine HL.still (Runs.move f25) ?_
          intro u177 e177
          refine HL.still (Runs.move f14) ?_
          intro u178 e178
          refine HL.still (Runs.lenSl rfl Try.underlying41 e178) ?_
          intro u179 e179
          refine HL.still (Runs.lss e177 e179 rfl) ?_
          intro u180 e180
          refine HL.nil ?_
          repeat refine HW.seq ?_
          refine HW.no ?_ ?_
          exact e180.trans (congrArg Value.bool (decide_eq_false (by omega)))
          refine HW.exitHere ?_
          exact ⟨f9, f12, hXv⟩
      clear e25 f9 f12 f14
      rintro f y ⟨f9, f12, hXy⟩
      have Sy := S6.ext hXy
      -- region 39
      repeat refine HW.seq ?_
      refine HW.region ?_
      refine HL.still (Runs.move f9) ?_
      intro u190 e190
      refine HL.still (Runs.move e190) ?_
      intro u191 e191
      refine HL.stillG rfl rfl e191 (Runs.move f12) ?_
      intro u192 e192
      refine HL.oneG rfl rfl e191 (HO.call Try.func26 bd26 nm26 (args1 e192) rfl ((usedX_ch y s b room P (tot P) Sy rfl).mono ?_))
      rintro _ hc ⟨rfl, Xc⟩
      intro u193 e193
      refine HL.stillG rfl rfl e191 (Runs.move f12) ?_
      intro u194 e194
      refine HL.oneG rfl rfl e191 (HO.call Try.func28 bd28 nm28 (args1 e194) rfl ((roomX_ch hc s b room P (Sy.ext Xc)).mono ?_))
      rintro _ hd ⟨rfl, Xd⟩
      intro u195 e195
      refine HL.stillG rfl rfl e191 (Runs.leq e193 e195 (t := true) (decide_eq_true GP.fits)) ?_
      intro u196 e196
      refine HL.still (Runs.pick e191 e196) ?_
      intro u197 e197
      refine HL.still (Runs.assign e197) ?_
      intro u8 e8
      refine HL.nil ?_
      refine HW.ret ?_
      exact RT.one rfl e8 ⟨rfl, ((hX6.ext hXy (Nat.le_refl _)).ext Xc (Nat.le_refl _)).ext Xd (Nat.le_refl _)⟩
end Go.Proofs.Ytklelhfgbjpifaa
