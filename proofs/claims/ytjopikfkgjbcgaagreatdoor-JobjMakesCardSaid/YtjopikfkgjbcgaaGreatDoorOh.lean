/- Is a row right: onionskinref11.right (which calls itself), Right. -/
import Derived.Test.YtjopikfkgjbcgaaGreatDoorOg
import Derived.Test.YtjopikfkgjbcgaaGreatDoorRa
namespace Go.Proofs.YtjopikfkgjbcgaaGreatDoor
set_option linter.unnecessarySimpa false
set_option linter.unusedSimpArgs false
set_option linter.unusedVariables false
open Go.RowKit
abbrev gS (s : List UInt8) : Value := .string (strOf s)
theorem in9 : (Tryz.prog.info? 9).map (fun i => (i.zero, i.size, i.bytes)) = some (some (gS []), 1, 16) := by kernel_rfl
theorem one9 (s : List UInt8) : (gS s).oneCell' = true := rfl
/-- What the document's number says of what stands behind. -/
def resV (l : List JV) (r : Option (List JV)) : Int := match r with | none => -1 | some q => (l.length : Int) - q.length
section
variable {ρ : Operand → Value} {h : Heap} {d : Option Tmp} {ty : TypeId} {pos : String} {af : Array Edge} {gd : Option (Nat × Bool)} {K : Value → Heap → Prop} {x : Operand}
theorem run_str1 (s : ByteArray) (w : World) : (Instr.buildSlice 22 1 #[(0, .string s)]).run Tryz.prog w = .ok (.slice (some ⟨w.heap.size, 0, none⟩) 1 1) (w.alloc (.cells #[.string s] 9)) := by kernel_rfl
set_option maxRecDepth 10000 in
theorem HO.str1 (s : List UInt8) (hx : ρ x = gS s) (k : ∀ h', Nw h h' (.cells ([s].map gS).toArray 9 (0, 0)) → K (.slice (some ⟨h.size, 0, none⟩) 1 1) h') : HO Tryz.prog ⟨d, .buildSlice 22 1 #[(0, x)], ty, pos, af, gd⟩ ρ h K :=
  HO.buildSlice (cells := [s].map gS) (fun w => by
    have e : (#[(0, x)] : Array (Nat × Operand)).map (fun (i, x) => (i, ρ x)) = #[(0, gS s)] := by simp [hx]
    rw [e]
    exact run_str1 _ w) k
end
theorem kids_none {g : List JV → Option (List JV)} {o : Bool} {n : Nat} {ns : List (List UInt8)} : kidsV g o (n + 1) ns [] = none := rfl
theorem kids_step {g : List JV → Option (List JV)} {o : Bool} {n : Nat} {ns : List (List UInt8)} {x : JV} {r : List JV} : kidsV g o (n + 1) ns (x :: r) = if (o && ns.contains x.2.1) = true then none else (g (x :: r)).bind (kidsV g o n (x.2.1 :: ns)) := rfl
set_option maxRecDepth 10000 in
set_option maxHeartbeats 4000000 in
theorem rightR_ch (d : Nat) : ∀ (h : Heap) (l : List JV) (a : Option Addr) (n cap at0 deep : Nat) (mem : Bool), n = l.length → Jvs h a l → l.length ≤ 100000 → OkJ l → deep + d = 50 → at0 ≤ 200000 →
    CH Tryz.prog 65 #[.slice a n cap, I64 (at0 : Nat), I64 (deep : Nat), .bool mem] h fun v h' => v = I64 (resV l (rightV d mem (l.drop at0))) ∧ Ext h h' := by
  induction d with
  | zero =>
    intro h l a n cap at0 deep mem hn hB hl hOk hd hat
    subst hn
    refine CH.of_body Tryz.func65 rfl rfl rfl ?_
    intro f hf
    have p0 : f 0 = .slice a l.length cap := by rw [hf]; exact fr0_at rfl
    have p1 : f 1 = I64 (at0 : Nat) := by rw [hf]; exact fr0_at rfl
    have p2 : f 2 = I64 (deep : Nat) := by rw [hf]; exact fr0_at rfl
    -- region 0
    repeat refine HW.seq ?_
    refine HW.region ?_
    refine HL.still (Runs.assign rfl) ?_
    intro u8 e8
    refine HL.nil ?_
    by_cases hge : at0 ≥ l.length
    · skip
      -- region 1
      repeat refine HW.seq ?_
      refine HW.region ?_
      refine HL.still (Runs.move p1) ?_
      intro u15 e15
      refine HL.still (Runs.move p0) ?_
      intro u16 e16
      refine HL.still (Runs.lenSl rfl Tryz.underlying26 e16) ?_
      intro u17 e17
      refine HL.still (Runs.geq e15 e17 (t := true) (decide_eq_true (by omega))) ?_
      intro u18 e18
      refine HL.still (Runs.move e18) ?_
      intro u19 e19
      refine HL.skipG rfl rfl e19 ?_
      intro u20 e20
      refine HL.skipG rfl rfl e19 ?_
      intro u21 e21
      refine HL.still (Runs.pick e19 rfl) ?_
      intro u22 e22
      refine HL.nil ?_
      refine HW.yes e22 ?_
      -- region 2
      repeat refine HW.seq ?_
      refine HW.region ?_
      refine HL.still (Runs.assign rfl) ?_
      intro u8 e8
      refine HL.nil ?_
      refine HW.ret ?_
      exact RT.one rfl e8 ⟨rfl, Bel.refl _ _⟩
    · skip
      -- region 1
      repeat refine HW.seq ?_
      refine HW.region ?_
      refine HL.still (Runs.move p1) ?_
      intro u15 e15
      refine HL.still (Runs.move p0) ?_
      intro u16 e16
      refine HL.still (Runs.lenSl rfl Tryz.underlying26 e16) ?_
      intro u17 e17
      refine HL.still (Runs.geq e15 e17 (t := false) (decide_eq_false (by omega))) ?_
      intro u18 e18
      refine HL.still (Runs.move e18) ?_
      intro u19 e19
      refine HL.stillG rfl rfl e19 (Runs.move p2) ?_
      intro u20 e20
      refine HL.stillG rfl rfl e19 (Runs.geq e20 rfl (t := true) (decide_eq_true (by omega))) ?_
      intro u21 e21
      refine HL.still (Runs.pick e19 e21) ?_
      intro u22 e22
      refine HL.nil ?_
      refine HW.yes e22 ?_
      -- region 2
      repeat refine HW.seq ?_
      refine HW.region ?_
      refine HL.still (Runs.assign rfl) ?_
      intro u8 e8
      refine HL.nil ?_
      refine HW.ret ?_
      exact RT.one rfl e8 ⟨rfl, Bel.refl _ _⟩
  | succ d ih =>
    intro h l a n cap at0 deep mem hn hB hl hOk hd hat
    subst hn
    refine CH.of_body Tryz.func65 rfl rfl rfl ?_
    intro f hf
    have p0 : f 0 = .slice a l.length cap := by rw [hf]; exact fr0_at rfl
    have p1 : f 1 = I64 (at0 : Nat) := by rw [hf]; exact fr0_at rfl
    have p2 : f 2 = I64 (deep : Nat) := by rw [hf]; exact fr0_at rfl
    have p3 : f 3 = .bool mem := by rw [hf]; exact fr0_at rfl
    -- region 0
    repeat refine HW.seq ?_
    refine HW.region ?_
    refine HL.still (Runs.assign rfl) ?_
    intro u8 e8
    refine HL.nil ?_
    by_cases hge : at0 ≥ l.length
    · skip
      -- region 1
      repeat refine HW.seq ?_
      refine HW.region ?_
      refine HL.still (Runs.move p1) ?_
      intro u15 e15
      refine HL.still (Runs.move p0) ?_
      intro u16 e16
      refine HL.still (Runs.lenSl rfl Tryz.underlying26 e16) ?_
      intro u17 e17
      refine HL.still (Runs.geq e15 e17 (t := true) (decide_eq_true (by omega))) ?_
      intro u18 e18
      refine HL.still (Runs.move e18) ?_
      intro u19 e19
      refine HL.skipG rfl rfl e19 ?_
      intro u20 e20
      refine HL.skipG rfl rfl e19 ?_
      intro u21 e21
      refine HL.still (Runs.pick e19 rfl) ?_
      intro u22 e22
      refine HL.nil ?_
      refine HW.yes e22 ?_
      -- region 2
      repeat refine HW.seq ?_
      refine HW.region ?_
      refine HL.still (Runs.assign rfl) ?_
      intro u8 e8
      refine HL.nil ?_
      refine HW.ret ?_
      exact RT.one rfl e8 ⟨by rw [List.drop_of_length_le hge]; rfl, Bel.refl _ _⟩
    have hlt : at0 < l.length := by omega
    -- region 1
    repeat refine HW.seq ?_
    refine HW.region ?_
    refine HL.still (Runs.move p1) ?_
    intro u15 e15
    refine HL.still (Runs.move p0) ?_
    intro u16 e16
    refine HL.still (Runs.lenSl rfl Tryz.underlying26 e16) ?_
    intro u17 e17
    refine HL.still (Runs.geq e15 e17 (t := false) (decide_eq_false (by omega))) ?_
    intro u18 e18
    refine HL.still (Runs.move e18) ?_
    intro u19 e19
    refine HL.stillG rfl rfl e19 (Runs.move p2) ?_
    intro u20 e20
    refine HL.stillG rfl rfl e19 (Runs.geq e20 rfl (t := false) (decide_eq_false (by omega))) ?_
    intro u21 e21
    refine HL.still (Runs.pick e19 e21) ?_
    intro u22 e22
    refine HL.nil ?_
    refine HW.no e22 ?_
    refine HW.skip ?_
    obtain ⟨sb, so, rfl, hc⟩ := hB.at hlt
    obtain ⟨x, hx⟩ : ∃ x, x = l.getD at0 zJ := ⟨_, rfl⟩
    rw [← hx] at hc
    have hdr : l.drop at0 = x :: l.drop (at0 + 1) := by
      rw [List.drop_eq_getElem_cons hlt, hx, List.getD_eq_getElem?_getD, List.getElem?_eq_getElem hlt]; rfl
    have hxm : x ∈ l := by
      rw [hx, List.getD_eq_getElem?_getD, List.getElem?_eq_getElem hlt]
      exact List.getElem_mem hlt
    obtain ⟨hx1, hx2, hx3⟩ := hOk x hxm
    rw [hdr]
    have hO := ownR_ch h x mem (by omega) (by omega)
    cases hfit : fitV mem x with
    | false =>
      rw [hfit] at hO
      -- region 3
      repeat refine HW.seq ?_
      refine HW.region ?_
      refine HL.still (Runs.move p0) ?_
      intro u23 e23
      refine HL.still (Runs.move p1) ?_
      intro u24 e24
      refine HL.still (Runs.ixSl (o' := so + at0 * 4) Tryz.underlying26 sz41 e23 e24 (by omega) (by omega) (by omega)) ?_
      intro u25 e25
      refine HL.still (Runs.loadAgg Tryz.underlying41 rfl sz41 e25 (encJ_len x) hc) ?_
      intro u26 e26
      refine HL.still (Runs.move p3) ?_
      intro u27 e27
      refine HL.one (HO.call Tryz.func77 bd77 nm77 (args2 e26 e27) rfl ((hO).mono ?_))
      rintro _ h2 ⟨rfl, X2⟩
      intro u28 e28
      refine HL.still (Runs.assign e28) ?_
      intro u9 e9
      refine HL.nil ?_
      -- region 4
      repeat refine HW.seq ?_
      refine HW.region ?_
      refine HL.still (Runs.move e9) ?_
      intro u29 e29
      refine HL.still (Runs.notb e29 (u := true) rfl) ?_
      intro u30 e30
      refine HL.nil ?_
      refine HW.yes e30 ?_
      -- region 5
      repeat refine HW.seq ?_
      refine HW.region ?_
      refine HL.still (Runs.assign rfl) ?_
      intro u8 e8
      refine HL.nil ?_
      refine HW.ret ?_
      exact RT.one rfl e8 ⟨by rw [rightV, hfit]; rfl, X2⟩
    | true =>
      rw [hfit] at hO
      have h0c := own_count (fit_own hfit).1
      have hcT : ((x.2.2.2.toNat : Nat) : Int) = x.2.2.2 := by omega
      obtain ⟨c, hcE⟩ : ∃ c, c = x.2.2.2.toNat := ⟨_, rfl⟩
      rw [← hcE] at hcT
      rw [rightV, hfit, if_pos rfl, ← hcE]
      -- region 3
      repeat refine HW.seq ?_
      refine HW.region ?_
      refine HL.still (Runs.move p0) ?_
      intro u23 e23
      refine HL.still (Runs.move p1) ?_
      intro u24 e24
      refine HL.still (Runs.ixSl (o' := so + at0 * 4) Tryz.underlying26 sz41 e23 e24 (by omega) (by omega) (by omega)) ?_
      intro u25 e25
      refine HL.still (Runs.loadAgg Tryz.underlying41 rfl sz41 e25 (encJ_len x) hc) ?_
      intro u26 e26
      refine HL.still (Runs.move p3) ?_
      intro u27 e27
      refine HL.one (HO.call Tryz.func77 bd77 nm77 (args2 e26 e27) rfl ((hO).mono ?_))
      rintro _ h2 ⟨rfl, X2⟩
      intro u28 e28
      refine HL.still (Runs.assign e28) ?_
      intro u9 e9
      refine HL.nil ?_
      -- region 4
      repeat refine HW.seq ?_
      refine HW.region ?_
      refine HL.still (Runs.move e9) ?_
      intro u29 e29
      refine HL.still (Runs.notb e29 (u := false) rfl) ?_
      intro u30 e30
      refine HL.nil ?_
      refine HW.no e30 ?_
      refine HW.skip ?_
      have hc2 : ∀ i v, (encJ x)[i]? = some v → cellH h2 sb (so + at0 * 4 + i) = some v := fun i v q => (cellH_keep (X2.old sb (lt_of_cellH (hc i v q)))).trans (hc i v q)
      -- region 6
      repeat refine HW.seq ?_
      refine HW.region ?_
      refine HL.still (Runs.move p0) ?_
      intro u31 e31
      refine HL.still (Runs.move p1) ?_
      intro u32 e32
      refine HL.still (Runs.ixSl (o' := so + at0 * 4) Tryz.underlying26 sz41 e31 e32 (by omega) (by omega) (by omega)) ?_
      intro u33 e33
      refine HL.still (Runs.fld (o' := so + at0 * 4) Tryz.underlying41 rfl sz3 (by decide) e33 (by first | rfl | omega)) ?_
      intro u34 e34
      refine HL.still (Runs.load Tryz.underlying3 rfl e34 (hc2 0 _ rfl)) ?_
      intro u35 e35
      refine HL.still (Runs.eql e35 rfl (t := isObj x) (by unfold isObj; rw [Bool.eq_iff_iff, beq_iff_eq, decide_eq_true_eq])) ?_
      intro u36 e36
      refine HL.still (Runs.assign e36) ?_
      intro u10 e10
      refine HL.nil ?_
      -- region 7
      repeat refine HW.seq ?_
      refine HW.region ?_
      refine HL.still (Runs.assign rfl) ?_
      intro u11 e11
      refine HL.nil ?_
      -- region 8
      repeat refine HW.seq ?_
      refine HW.region ?_
      refine HL.still (Runs.move p1) ?_
      intro u37 e37
      refine HL.still (Runs.add e37 rfl (i64w (by omega))) ?_
      intro u38 e38
      refine HL.still (Runs.assign e38) ?_
      intro u12 e12
      refine HL.nil ?_
      -- region 9
      repeat refine HW.seq ?_
      refine HW.region ?_
      refine HL.still (Runs.assign rfl) ?_
      intro u13 e13
      refine HL.nil ?_
      have g12 : u12 = I64 ((at0 + 1 : Nat) : Int) := e12
      repeat refine HW.seq ?_
      refine HW.block ?_
      refine HW.loop (fun m f u => ∃ (i k : Nat) (N : List (List UInt8)) (an : Option Addr) (cn : Nat), i ≤ c ∧ m = c - i ∧ k ≤ l.length ∧ at0 + 1 + i ≤ k ∧ f 13 = I64 i ∧ f 12 = I64 k ∧ f 11 = .slice an N.length cn ∧ N.length = i ∧ Rs gS u h.size 9 an cn N ∧ f 10 = .bool (isObj x) ∧ f 0 = .slice (some ⟨sb, so, none⟩) l.length cap ∧ f 1 = I64 (at0 : Nat) ∧ f 2 = I64 (deep : Nat) ∧ f 3 = .bool mem ∧ kidsV (rightV d (isObj x)) (isObj x) c [] (l.drop (at0 + 1)) = kidsV (rightV d (isObj x)) (isObj x) (c - i) N.reverse (l.drop k) ∧ Ext h u) c
        ⟨0, at0 + 1, [], none, 0, Nat.zero_le _, rfl, by omega, by omega, e13, g12, e11, rfl, Rs.start _ _ _, e10, p0, p1, p2, p3, rfl, X2⟩ ?_
      clear e8 e9 e10 e11 e12 e13 g12 e30 p0 p1 p2 p3 hO hc2 X2
      rintro m f u ⟨i, k, N, an, cn, hic, hm, hkl, hik, f13, f12, f11, hNl, hN, f10, f0, f1, f2, f3, hkv, hX⟩
      have hcu : ∀ i v, (encJ x)[i]? = some v → cellH u sb (so + at0 * 4 + i) = some v := fun i v q => (cellH_keep (hX.old sb (lt_of_cellH (hc i v q)))).trans (hc i v q)
      by_cases hil : i < c
      · have hlt10 : decide ((i : Int) < x.2.2.2) = true := decide_eq_true (by omega)
        -- region 10
        repeat refine HW.seq ?_
        refine HW.region ?_
        refine HL.still (Runs.move f13) ?_
        intro u39 e39
        refine HL.still (Runs.move f0) ?_
        intro u40 e40
        refine HL.still (Runs.move f1) ?_
        intro u41 e41
        refine HL.still (Runs.ixSl (o' := so + at0 * 4) Tryz.underlying26 sz41 e40 e41 (by omega) (by omega) (by omega)) ?_
        intro u42 e42
        refine HL.still (Runs.fld (o' := so + at0 * 4 + 3) Tryz.underlying41 rfl sz3 (by decide) e42 (by first | rfl | omega)) ?_
        intro u43 e43
        refine HL.still (Runs.load Tryz.underlying3 rfl e43 (hcu 3 _ rfl)) ?_
        intro u44 e44
        refine HL.still (Runs.lss e39 e44 (t := true) hlt10) ?_
        intro u45 e45
        refine HL.nil ?_
        refine HW.yes e45 ?_
        refine HW.skip ?_
        repeat refine HW.seq ?_
        refine HW.block ?_
        rw [show c - i = (c - (i + 1)) + 1 by omega] at hkv
        by_cases hkk : k ≥ l.length
        · rw [List.drop_of_length_le hkk, kids_none] at hkv
          -- region 12
          repeat refine HW.seq ?_
          refine HW.region ?_
          refine HL.still (Runs.move f12) ?_
          intro u48 e48
          refine HL.still (Runs.move f0) ?_
          intro u49 e49
          refine HL.still (Runs.lenSl rfl Tryz.underlying26 e49) ?_
          intro u50 e50
          refine HL.still (Runs.geq e48 e50 (t := true) (decide_eq_true (by omega))) ?_
          intro u51 e51
          refine HL.nil ?_
          refine HW.yes e51 ?_
          -- region 13
          repeat refine HW.seq ?_
          refine HW.region ?_
          refine HL.still (Runs.assign rfl) ?_
          intro u8 e8
          refine HL.nil ?_
          refine HW.ret ?_
          exact RT.one rfl e8 ⟨by rw [hkv]; rfl, hX⟩
        have hkl' : k < l.length := by omega
        obtain ⟨sb', so', e', hcy⟩ := (hB.ext hX).at hkl'
        cases e'
        obtain ⟨y, hy⟩ : ∃ y, y = l.getD k zJ := ⟨_, rfl⟩
        rw [← hy] at hcy
        have hdy : l.drop k = y :: l.drop (k + 1) := by
          rw [List.drop_eq_getElem_cons hkl', hy, List.getD_eq_getElem?_getD, List.getElem?_eq_getElem hkl']; rfl
        rw [hdy, kids_step, ← hdy] at hkv
        -- region 12
        repeat refine HW.seq ?_
        refine HW.region ?_
        refine HL.still (Runs.move f12) ?_
        intro u48 e48
        refine HL.still (Runs.move f0) ?_
        intro u49 e49
        refine HL.still (Runs.lenSl rfl Tryz.underlying26 e49) ?_
        intro u50 e50
        refine HL.still (Runs.geq e48 e50 (t := false) (decide_eq_false (by omega))) ?_
        intro u51 e51
        refine HL.nil ?_
        refine HW.no e51 ?_
        refine HW.skip ?_
        -- is the key one of those that were
        refine HW.seq ?_
        refine HW.mono (N := fun f v => (isObj x && N.contains y.2.1) = false ∧ f 0 = .slice (some ⟨sb, so, none⟩) l.length cap ∧ f 1 = I64 (at0 : Nat) ∧ f 2 = I64 (deep : Nat) ∧ f 3 = .bool mem ∧ f 10 = .bool (isObj x) ∧ f 11 = .slice an N.length cn ∧ f 12 = I64 k ∧ f 13 = I64 i ∧ u = v) ?_ ?_ (fun _ _ _ q => q) (fun _ _ q => q)
        · skip
          -- region 14
          repeat refine HW.seq ?_
          refine HW.region ?_
          refine HL.still (Runs.assign rfl) ?_
          intro u14 e14
          refine HL.nil ?_
          repeat refine HW.seq ?_
          refine HW.block ?_
          refine HW.loop (fun m f v => ∃ j : Nat, j ≤ N.length ∧ m = N.length - j ∧ f 14 = I64 j ∧ (∀ s ∈ N.take j, s ≠ y.2.1) ∧ (0 < j → isObj x = true) ∧ f 0 = .slice (some ⟨sb, so, none⟩) l.length cap ∧ f 1 = I64 (at0 : Nat) ∧ f 2 = I64 (deep : Nat) ∧ f 3 = .bool mem ∧ f 10 = .bool (isObj x) ∧ f 11 = .slice an N.length cn ∧ f 12 = I64 k ∧ f 13 = I64 i ∧ u = v) N.length
            ⟨0, Nat.zero_le _, rfl, e14, (fun s hs => by simp at hs), (fun q => by cases q), f0, f1, f2, f3, f10, f11, f12, f13, rfl⟩ ?_
          clear e14 f0 f1 f2 f3 f10 f11 f12 f13
          rintro m f v ⟨j, hj, hm', f14, hno, hob, f0, f1, f2, f3, f10, f11, f12, f13, rfl⟩
          by_cases hjl : j < N.length
          · by_cases hobj : isObj x = true
            rotate_left
            · have hobj : isObj x = false := by simpa using hobj
              rw [hobj] at f10
              -- region 15
              repeat refine HW.seq ?_
              refine HW.region ?_
              refine HL.still (Runs.move f14) ?_
              intro u52 e52
              refine HL.still (Runs.move f11) ?_
              intro u53 e53
              refine HL.still (Runs.lenSl rfl Tryz.underlying22 e53) ?_
              intro u54 e54
              refine HL.still (Runs.lss e52 e54 (t := true) (decide_eq_true (by omega))) ?_
              intro u55 e55
              refine HL.still (Runs.move e55) ?_
              intro u56 e56
              refine HL.stillG rfl rfl e56 (Runs.move f10) ?_
              intro u57 e57
              refine HL.still (Runs.pick e56 e57) ?_
              intro u58 e58
              refine HL.nil ?_
              refine HW.no e58 ?_
              refine HW.exitHere ?_
              exact ⟨by rw [hobj]; rfl, f0, f1, f2, f3, f10.trans (by rw [hobj]), f11, f12, f13, rfl⟩
            · rw [hobj] at f10
              obtain ⟨nb, no, rfl, hcs⟩ := (hN.byt (z0 := [])).at hjl
              obtain ⟨s, hs⟩ : ∃ s, s = N.getD j [] := ⟨_, rfl⟩
              rw [← hs] at hcs
              have hsm : s ∈ N := by
                rw [hs, List.getD_eq_getElem?_getD, List.getElem?_eq_getElem hjl]
                exact List.getElem_mem hjl
              -- region 15
              repeat refine HW.seq ?_
              refine HW.region ?_
              refine HL.still (Runs.move f14) ?_
              intro u52 e52
              refine HL.still (Runs.move f11) ?_
              intro u53 e53
              refine HL.still (Runs.lenSl rfl Tryz.underlying22 e53) ?_
              intro u54 e54
              refine HL.still (Runs.lss e52 e54 (t := true) (decide_eq_true (by omega))) ?_
              intro u55 e55
              refine HL.still (Runs.move e55) ?_
              intro u56 e56
              refine HL.stillG rfl rfl e56 (Runs.move f10) ?_
              intro u57 e57
              refine HL.still (Runs.pick e56 e57) ?_
              intro u58 e58
              refine HL.nil ?_
              refine HW.yes e58 ?_
              refine HW.skip ?_
              repeat refine HW.seq ?_
              refine HW.block ?_
              by_cases he : s = y.2.1
              · skip
                -- region 17
                repeat refine HW.seq ?_
                refine HW.draw mixed (by kernel_rfl) ?_
                refine HS.still (Runs.move f11) ?_
                intro u61 e61
                refine HS.still (Runs.move f14) ?_
                intro u62 e62
                refine HS.still (Runs.ixSl (o' := no + j) Tryz.underlying22 sz9 e61 e62 (by omega) (by omega) (by omega)) ?_
                intro u63 e63
                refine HS.still (Runs.load Tryz.underlying9 rfl e63 hcs) ?_
                intro u64 e64
                refine HS.still (Runs.move f0) ?_
                intro u65 e65
                refine HS.still (Runs.move f12) ?_
                intro u66 e66
                refine HS.still (Runs.ixSl (o' := so + k * 4) Tryz.underlying26 sz41 e65 e66 (by omega) (by omega) (by omega)) ?_
                intro u67 e67
                refine HS.still (Runs.fld (o' := so + k * 4 + 1) Tryz.underlying41 rfl sz9 (by decide) e67 (by first | rfl | omega)) ?_
                intro u68 e68
                refine HS.still (Runs.load Tryz.underlying9 rfl e68 (hcy 1 _ rfl)) ?_
                intro u69 e69
                refine HS.still (Runs.eqS e64 e69 (t := true) (by simp [he])) ?_
                intro u70 e70
                refine HS.nil ?_
                refine HW.yes e70 ?_
                -- region 18
                repeat refine HW.seq ?_
                refine HW.region ?_
                refine HL.still (Runs.assign rfl) ?_
                intro u8 e8
                refine HL.nil ?_
                refine HW.ret ?_
                have hcont : N.reverse.contains y.2.1 = true := by simpa [he] using hsm
                exact RT.one rfl e8 ⟨by rw [hkv, hobj, hcont]; rfl, hX⟩
              · skip
                -- region 17
                repeat refine HW.seq ?_
                refine HW.draw mixed (by kernel_rfl) ?_
                refine HS.still (Runs.move f11) ?_
                intro u61 e61
                refine HS.still (Runs.move f14) ?_
                intro u62 e62
                refine HS.still (Runs.ixSl (o' := no + j) Tryz.underlying22 sz9 e61 e62 (by omega) (by omega) (by omega)) ?_
                intro u63 e63
                refine HS.still (Runs.load Tryz.underlying9 rfl e63 hcs) ?_
                intro u64 e64
                refine HS.still (Runs.move f0) ?_
                intro u65 e65
                refine HS.still (Runs.move f12) ?_
                intro u66 e66
                refine HS.still (Runs.ixSl (o' := so + k * 4) Tryz.underlying26 sz41 e65 e66 (by omega) (by omega) (by omega)) ?_
                intro u67 e67
                refine HS.still (Runs.fld (o' := so + k * 4 + 1) Tryz.underlying41 rfl sz9 (by decide) e67 (by first | rfl | omega)) ?_
                intro u68 e68
                refine HS.still (Runs.load Tryz.underlying9 rfl e68 (hcy 1 _ rfl)) ?_
                intro u69 e69
                refine HS.still (Runs.eqS e64 e69 (t := false) (by simpa using he)) ?_
                intro u70 e70
                refine HS.nil ?_
                refine HW.no e70 ?_
                refine HW.skip ?_
                -- region 16
                repeat refine HW.seq ?_
                refine HW.region ?_
                refine HL.still (Runs.move f14) ?_
                intro u59 e59
                refine HL.still (Runs.add e59 rfl (i64w (by omega))) ?_
                intro u60 e60
                refine HL.still (Runs.assign e60) ?_
                intro u14 e14
                refine HL.nil ?_
                refine ⟨N.length - (j + 1), by omega, j + 1, by omega, rfl, e14, ?_, (fun _ => hobj), f0, f1, f2, f3, f10.trans (by rw [hobj]), f11, f12, f13, rfl⟩
                intro t ht
                rw [List.take_succ_eq_append_getElem hjl] at ht
                rcases List.mem_append.1 ht with ht | ht
                · exact hno t ht
                · have ht : t = N[j] := by simpa using ht
                  rw [hs, List.getD_eq_getElem?_getD, List.getElem?_eq_getElem hjl] at he
                  rw [ht]
                  exact he
          · have hjn : j = N.length := by omega
            subst hjn
            rw [List.take_of_length_le (Nat.le_refl _)] at hno
            have hcont : N.contains y.2.1 = false := by
              simp only [List.contains_eq_mem, decide_eq_false_iff_not]
              exact fun q => hno _ q rfl
            -- region 15
            repeat refine HW.seq ?_
            refine HW.region ?_
            refine HL.still (Runs.move f14) ?_
            intro u52 e52
            refine HL.still (Runs.move f11) ?_
            intro u53 e53
            refine HL.still (Runs.lenSl rfl Tryz.underlying22 e53) ?_
            intro u54 e54
            refine HL.still (Runs.lss e52 e54 (t := false) (decide_eq_false (by omega))) ?_
            intro u55 e55
            refine HL.still (Runs.move e55) ?_
            intro u56 e56
            refine HL.skipG rfl rfl e56 ?_
            intro u57 e57
            refine HL.still (Runs.pick e56 rfl) ?_
            intro u58 e58
            refine HL.nil ?_
            refine HW.no e58 ?_
            refine HW.exitHere ?_
            exact ⟨by rw [hcont, Bool.and_false], f0, f1, f2, f3, f10, f11, f12, f13, rfl⟩
        clear f0 f1 f2 f3 f10 f11 f12 f13
        rintro f v ⟨hcn, f0, f1, f2, f3, f10, f11, f12, f13, rfl⟩
        have hcn2 : (isObj x && N.reverse.contains y.2.1) = false := by
          rw [List.contains_reverse]
          exact hcn
        rw [hcn2] at hkv
        simp only [Bool.false_eq_true, if_false] at hkv
        -- region 19
        repeat refine HW.seq ?_
        refine HW.region ?_
        refine HL.still (Runs.move f11) ?_
        intro u71 e71
        refine HL.still (Runs.move f0) ?_
        intro u72 e72
        refine HL.still (Runs.move f12) ?_
        intro u73 e73
        refine HL.still (Runs.ixSl (o' := so + k * 4) Tryz.underlying26 sz41 e72 e73 (by omega) (by omega) (by omega)) ?_
        intro u74 e74
        refine HL.still (Runs.fld (o' := so + k * 4 + 1) Tryz.underlying41 rfl sz9 (by decide) e74 (by first | rfl | omega)) ?_
        intro u75 e75
        refine HL.still (Runs.load Tryz.underlying9 rfl e75 (hcy 1 _ rfl)) ?_
        intro u76 e76
        refine HL.one (HO.str1 y.2.1 e76 ?_)
        intro h5 w5
        intro u77 e77
        refine HL.one (HO.rapp1 Tryz.underlying22 in9 rfl one9 e71 e77 rfl rfl (hN.ext w5.ext) (row_block (z0 := []) w5.new) (by simp; omega) (by simp; unfold maxLen; omega) (by rw [w5.size]; have := hX.size; omega) ?_)
        intro a6 c6 h6 R6 G6
        intro u78 e78
        refine HL.still (Runs.assign e78) ?_
        intro u11 e11
        refine HL.nil ?_
        have X6 : Ext h h6 := G6.belR (hX.ext w5.ext (Nat.le_refl _)) (hN.ext w5.ext) (Nat.le_refl _) (Nat.le_refl _)
        have g11 : u11 = .slice a6 (N ++ [y.2.1]).length c6 := e11
        have hrec := ih h6 l (some ⟨sb, so, none⟩) l.length cap k (deep + 1) (isObj x) rfl (hB.ext X6) hl hOk (by omega) (by omega)
        cases hr : rightV d (isObj x) (l.drop k) with
        | none =>
          rw [hr] at hkv hrec
          -- region 20
          repeat refine HW.seq ?_
          refine HW.region ?_
          refine HL.still (Runs.move f0) ?_
          intro u79 e79
          refine HL.still (Runs.move f12) ?_
          intro u80 e80
          refine HL.still (Runs.move f2) ?_
          intro u81 e81
          refine HL.still (Runs.add e81 rfl (i64w (by omega))) ?_
          intro u82 e82
          refine HL.still (Runs.move f10) ?_
          intro u83 e83
          refine HL.one (HO.call Tryz.func65 bd65 nm65 (args4 e79 e80 e82 e83) rfl ((hrec).mono ?_))
          rintro _ h7 ⟨rfl, X7⟩
          intro u84 e84
          refine HL.still (Runs.assign e84) ?_
          intro u12 e12
          refine HL.nil ?_
          -- region 21
          repeat refine HW.seq ?_
          refine HW.region ?_
          refine HL.still (Runs.move e12) ?_
          intro u85 e85
          refine HL.still (Runs.lss e85 rfl (t := true) rfl) ?_
          intro u86 e86
          refine HL.nil ?_
          refine HW.yes e86 ?_
          -- region 22
          repeat refine HW.seq ?_
          refine HW.region ?_
          refine HL.still (Runs.assign rfl) ?_
          intro u8 e8
          refine HL.nil ?_
          refine HW.ret ?_
          exact RT.one rfl e8 ⟨by rw [hkv]; rfl, X6.ext X7 (Nat.le_refl _)⟩
        | some q =>
          rw [hr] at hkv hrec
          simp only [Option.bind_some] at hkv
          obtain ⟨p, hpe, hps⟩ := has_seg d (isObj x) _ _ hr
          have hpn := List.length_pos_iff.2 hps.ne
          have hlen : l.length - k = p.length + q.length := by
            have := congrArg List.length hpe
            rwa [List.length_drop, List.length_append] at this
          have hq : q = l.drop (k + p.length) := by
            rw [← List.drop_drop, hpe, List.drop_left]
          have hres : resV l (some q) = ((k + p.length : Nat) : Int) := by
            show (l.length : Int) - q.length = _
            omega
          rw [hres] at hrec
          -- region 20
          repeat refine HW.seq ?_
          refine HW.region ?_
          refine HL.still (Runs.move f0) ?_
          intro u79 e79
          refine HL.still (Runs.move f12) ?_
          intro u80 e80
          refine HL.still (Runs.move f2) ?_
          intro u81 e81
          refine HL.still (Runs.add e81 rfl (i64w (by omega))) ?_
          intro u82 e82
          refine HL.still (Runs.move f10) ?_
          intro u83 e83
          refine HL.one (HO.call Tryz.func65 bd65 nm65 (args4 e79 e80 e82 e83) rfl ((hrec).mono ?_))
          rintro _ h7 ⟨rfl, X7⟩
          intro u84 e84
          refine HL.still (Runs.assign e84) ?_
          intro u12 e12
          refine HL.nil ?_
          -- region 21
          repeat refine HW.seq ?_
          refine HW.region ?_
          refine HL.still (Runs.move e12) ?_
          intro u85 e85
          refine HL.still (Runs.lss e85 rfl (t := false) (decide_eq_false (by omega))) ?_
          intro u86 e86
          refine HL.nil ?_
          refine HW.no e86 ?_
          refine HW.skip ?_
          -- region 11
          repeat refine HW.seq ?_
          refine HW.region ?_
          refine HL.still (Runs.move f13) ?_
          intro u46 e46
          refine HL.still (Runs.add e46 rfl (i64w (by omega))) ?_
          intro u47 e47
          refine HL.still (Runs.assign e47) ?_
          intro u13 e13
          refine HL.nil ?_
          refine ⟨c - (i + 1), by omega, i + 1, k + p.length, N ++ [y.2.1], a6, c6, by omega, rfl, by omega, by omega, e13, e12, g11, by simp [hNl], R6.ext X7, f10, f0, f1, f2, f3, ?_, X6.ext X7 (Nat.le_refl _)⟩
          rw [hkv, hq]
          simp
      · have hic' : i = c := by omega
        subst hic'
        rw [Nat.sub_self] at hkv
        have hlt10 : decide ((i : Int) < x.2.2.2) = false := decide_eq_false (by omega)
        -- region 10
        repeat refine HW.seq ?_
        refine HW.region ?_
        refine HL.still (Runs.move f13) ?_
        intro u39 e39
        refine HL.still (Runs.move f0) ?_
        intro u40 e40
        refine HL.still (Runs.move f1) ?_
        intro u41 e41
        refine HL.still (Runs.ixSl (o' := so + at0 * 4) Tryz.underlying26 sz41 e40 e41 (by omega) (by omega) (by omega)) ?_
        intro u42 e42
        refine HL.still (Runs.fld (o' := so + at0 * 4 + 3) Tryz.underlying41 rfl sz3 (by decide) e42 (by first | rfl | omega)) ?_
        intro u43 e43
        refine HL.still (Runs.load Tryz.underlying3 rfl e43 (hcu 3 _ rfl)) ?_
        intro u44 e44
        refine HL.still (Runs.lss e39 e44 (t := false) hlt10) ?_
        intro u45 e45
        refine HL.nil ?_
        refine HW.no e45 ?_
        refine HW.exitHere ?_
        -- region 23
        repeat refine HW.seq ?_
        refine HW.region ?_
        refine HL.still (Runs.move f12) ?_
        intro u87 e87
        refine HL.still (Runs.assign e87) ?_
        intro u8 e8
        refine HL.nil ?_
        refine HW.ret ?_
        refine RT.one rfl e8 ⟨?_, hX⟩
        rw [hkv]
        show I64 k = I64 ((l.length : Int) - (l.drop k).length)
        rw [List.length_drop]
        exact congrArg (Value.int .i64) (by omega)
set_option maxRecDepth 10000 in
theorem rightT_ch (h : Heap) (l : List JV) (a : Option Addr) (n cap : Nat) (hn : n = l.length) (hB : Jvs h a l) (hl : l.length ≤ 100000) (hOk : OkJ l) : CH Tryz.prog 48 #[.slice a n cap] h fun v h' => v = .bool (rightO l) ∧ Ext h h' := by
  subst hn
  refine CH.of_body Tryz.func48 rfl rfl rfl ?_
  intro f hf
  have p0 : f 0 = .slice a l.length cap := by rw [hf]; exact fr0_at rfl
  have hr := rightR_ch 50 h l a l.length cap 0 0 false rfl hB hl hOk rfl (by decide)
  rw [List.drop_zero] at hr
  -- region 0
  repeat refine HW.seq ?_
  refine HW.region ?_
  refine HL.still (Runs.assign rfl) ?_
  intro u2 e2
  refine HL.nil ?_
  by_cases h0 : l.length > 0
  · by_cases h5 : l.length ≤ 5000
    · have hres : (resV l (rightV 50 false l) == (l.length : Int)) = (rightV 50 false l == some []) := by
        rw [Bool.eq_iff_iff, beq_iff_eq, beq_iff_eq]
        cases hv : rightV 50 false l with
        | none => simp [resV]
        | some q =>
          simp only [resV, Option.some.injEq]
          exact ⟨fun e => List.length_eq_zero_iff.1 (by omega), fun e => by rw [e]; simp⟩
      -- region 1
      repeat refine HW.seq ?_
      refine HW.region ?_
      refine HL.still (Runs.move p0) ?_
      intro u3 e3
      refine HL.still (Runs.lenSl rfl Tryz.underlying26 e3) ?_
      intro u4 e4
      refine HL.still (Runs.gtr e4 rfl (t := true) (decide_eq_true (by omega))) ?_
      intro u5 e5
      refine HL.still (Runs.move e5) ?_
      intro u6 e6
      refine HL.stillG rfl rfl e6 (Runs.move p0) ?_
      intro u7 e7
      refine HL.stillG rfl rfl e6 (Runs.lenSl rfl Tryz.underlying26 e7) ?_
      intro u8 e8
      refine HL.stillG rfl rfl e6 (Runs.leq e8 rfl (t := true) (decide_eq_true (by omega))) ?_
      intro u9 e9
      refine HL.still (Runs.pick e6 e9) ?_
      intro u10 e10
      refine HL.still (Runs.move e10) ?_
      intro u11 e11
      refine HL.stillG rfl rfl e11 (Runs.move p0) ?_
      intro u12 e12
      refine HL.oneG rfl rfl e11 (HO.call Tryz.func65 bd65 nm65 (args4 e12 rfl rfl rfl) rfl ((hr).mono ?_))
      rintro _ h2 ⟨rfl, X2⟩
      intro u13 e13
      refine HL.stillG rfl rfl e11 (Runs.move p0) ?_
      intro u14 e14
      refine HL.stillG rfl rfl e11 (Runs.lenSl rfl Tryz.underlying26 e14) ?_
      intro u15 e15
      refine HL.stillG rfl rfl e11 (Runs.eql e13 e15 (t := (rightV 50 false l == some [])) hres) ?_
      intro u16 e16
      refine HL.still (Runs.pick e11 e16) ?_
      intro u17 e17
      refine HL.still (Runs.assign e17) ?_
      intro u2 e2
      refine HL.nil ?_
      refine HW.ret ?_
      exact RT.one rfl e2 ⟨by unfold rightO; rw [decide_eq_true h5]; rfl, X2⟩
    · skip
      -- region 1
      repeat refine HW.seq ?_
      refine HW.region ?_
      refine HL.still (Runs.move p0) ?_
      intro u3 e3
      refine HL.still (Runs.lenSl rfl Tryz.underlying26 e3) ?_
      intro u4 e4
      refine HL.still (Runs.gtr e4 rfl (t := true) (decide_eq_true (by omega))) ?_
      intro u5 e5
      refine HL.still (Runs.move e5) ?_
      intro u6 e6
      refine HL.stillG rfl rfl e6 (Runs.move p0) ?_
      intro u7 e7
      refine HL.stillG rfl rfl e6 (Runs.lenSl rfl Tryz.underlying26 e7) ?_
      intro u8 e8
      refine HL.stillG rfl rfl e6 (Runs.leq e8 rfl (t := false) (decide_eq_false (by omega))) ?_
      intro u9 e9
      refine HL.still (Runs.pick e6 e9) ?_
      intro u10 e10
      refine HL.still (Runs.move e10) ?_
      intro u11 e11
      refine HL.skipG rfl rfl e11 ?_
      intro u12 e12
      refine HL.skipG rfl rfl e11 ?_
      intro u13 e13
      refine HL.skipG rfl rfl e11 ?_
      intro u14 e14
      refine HL.skipG rfl rfl e11 ?_
      intro u15 e15
      refine HL.skipG rfl rfl e11 ?_
      intro u16 e16
      refine HL.still (Runs.pick e11 rfl) ?_
      intro u17 e17
      refine HL.still (Runs.assign e17) ?_
      intro u2 e2
      refine HL.nil ?_
      refine HW.ret ?_
      exact RT.one rfl e2 ⟨by unfold rightO; rw [decide_eq_false h5]; rfl, Bel.refl _ _⟩
  · have hl0 : l = [] := List.length_eq_zero_iff.1 (by omega)
    -- region 1
    repeat refine HW.seq ?_
    refine HW.region ?_
    refine HL.still (Runs.move p0) ?_
    intro u3 e3
    refine HL.still (Runs.lenSl rfl Tryz.underlying26 e3) ?_
    intro u4 e4
    refine HL.still (Runs.gtr e4 rfl (t := false) (decide_eq_false (by omega))) ?_
    intro u5 e5
    refine HL.still (Runs.move e5) ?_
    intro u6 e6
    refine HL.skipG rfl rfl e6 ?_
    intro u7 e7
    refine HL.skipG rfl rfl e6 ?_
    intro u8 e8
    refine HL.skipG rfl rfl e6 ?_
    intro u9 e9
    refine HL.still (Runs.pick e6 rfl) ?_
    intro u10 e10
    refine HL.still (Runs.move e10) ?_
    intro u11 e11
    refine HL.skipG rfl rfl e11 ?_
    intro u12 e12
    refine HL.skipG rfl rfl e11 ?_
    intro u13 e13
    refine HL.skipG rfl rfl e11 ?_
    intro u14 e14
    refine HL.skipG rfl rfl e11 ?_
    intro u15 e15
    refine HL.skipG rfl rfl e11 ?_
    intro u16 e16
    refine HL.still (Runs.pick e11 rfl) ?_
    intro u17 e17
    refine HL.still (Runs.assign e17) ?_
    intro u2 e2
    refine HL.nil ?_
    refine HW.ret ?_
    exact RT.one rfl e2 ⟨by rw [hl0]; rfl, Bel.refl _ _⟩
end Go.Proofs.YtjopikfkgjbcgaaGreatDoor
