/- A text and a number made: onionskinref12.mended, Text, Int. -/
import Derived.Test.YtjopikfkgjbcgaaGreatDoorYe
import Derived.Test.YtjopikfkgjbcgaaGreatDoorKc
import Derived.Test.YtjopikfkgjbcgaaGreatDoorOr
import Derived.Test.YtjopikfkgjbcgaaGreatDoorOp
namespace Go.Proofs.YtjopikfkgjbcgaaGreatDoor
set_option linter.unnecessarySimpa false
set_option linter.unusedSimpArgs false
set_option linter.unusedVariables false
open Go.RowKit
set_option maxRecDepth 10000 in
theorem mendedR_ch (h : Heap) (s : List UInt8) (hs : s.length ≤ 1000) : CH Tryz.prog 22 #[.string (strOf s)] h fun v h' => v = .string (strOf (mendO s)) ∧ Ext h h' := by
  refine CH.of_body Tryz.func22 rfl rfl rfl ?_
  intro f hf
  have p0 : f 0 = .string (strOf s) := by rw [hf]; exact fr0_at rfl
  -- region 0
  repeat refine HW.seq ?_
  refine HW.region ?_
  refine HL.still (Runs.assign rfl) ?_
  intro u2 e2
  refine HL.nil ?_
  -- region 1
  repeat refine HW.seq ?_
  refine HW.region ?_
  refine HL.still (Runs.move p0) ?_
  intro u7 e7
  refine HL.one (HO.call Tryz.func46 bd46 nm46 (args1 e7) rfl ((quote_ch h s hs).mono ?_))
  rintro _ h2 ⟨rfl, X2⟩
  intro u8 e8
  refine HL.one (HO.call Tryz.func45 bd45 nm45 (args1 e8) rfl ((unquote_ch h2 s hs).mono ?_))
  rintro _ h3 ⟨⟨k, rfl⟩, X3⟩
  intro u9 e9
  refine HL.still (Runs.move e9) ?_
  intro u6 e6
  refine HL.still (Runs.extr e6 rfl) ?_
  intro u10 e10
  refine HL.still (Runs.extr e6 rfl) ?_
  intro u11 e11
  refine HL.still (Runs.extr e6 rfl) ?_
  intro u12 e12
  refine HL.still (Runs.assign e10) ?_
  intro u3 e3
  refine HL.still (Runs.assign e11) ?_
  intro u4 e4
  refine HL.still (Runs.assign e12) ?_
  intro u5 e5
  refine HL.nil ?_
  have g3 : u3 = .string (strOf (mendO s)) := e3
  -- region 2
  repeat refine HW.seq ?_
  refine HW.region ?_
  refine HL.still (Runs.move g3) ?_
  intro u13 e13
  refine HL.still (Runs.assign e13) ?_
  intro u2 e2
  refine HL.nil ?_
  refine HW.ret ?_
  exact RT.one rfl e2 ⟨rfl, X2.ext X3 (Nat.le_refl _)⟩
set_option maxRecDepth 10000 in
theorem textT_ch (h : Heap) (s : List UInt8) (hs : s.length ≤ 1000) : CH Tryz.prog 8 #[.string (strOf s)] h fun v h' => ∃ a c, v = .slice a (textO s).length c ∧ Js h' h.size a c (textO s) ∧ Ext h h' := by
  refine CH.of_body Tryz.func8 rfl rfl rfl ?_
  intro f hf
  have p0 : f 0 = .string (strOf s) := by rw [hf]; exact fr0_at rfl
  -- region 0
  repeat refine HW.seq ?_
  refine HW.region ?_
  refine HL.still (Runs.assign rfl) ?_
  intro u2 e2
  refine HL.nil ?_
  -- region 1
  repeat refine HW.seq ?_
  refine HW.region ?_
  refine HL.still (Runs.move p0) ?_
  intro u3 e3
  refine HL.one (HO.call Tryz.func22 bd22 nm22 (args1 e3) rfl ((mendedR_ch h s hs).mono ?_))
  rintro _ h2 ⟨rfl, X2⟩
  intro u4 e4
  refine HL.still (Runs.buildText (k := 4) rfl e4) ?_
  intro u5 e5
  refine HL.one (HO.val1 (4, [], mendO s, 0) e5 ?_)
  intro h3 J3 X3
  intro u6 e6
  refine HL.still (Runs.assign e6) ?_
  intro u2 e2
  refine HL.nil ?_
  refine HW.ret ?_
  exact RT.one rfl e2 ⟨_, 1, rfl, J3.low X2.size, X2.ext X3 (Nat.le_refl _)⟩
set_option maxRecDepth 10000 in
theorem intT_ch (h : Heap) (n : Int) (h0 : -9223372036854775808 ≤ n) (h1 : n ≤ 9223372036854775807) : CH Tryz.prog 10 #[I64 n] h fun v h' => ∃ a c, v = .slice a (intO n).length c ∧ Js h' h.size a c (intO n) ∧ Ext h h' := by
  refine CH.of_body Tryz.func10 rfl rfl rfl ?_
  intro f hf
  have p0 : f 0 = I64 n := by rw [hf]; exact fr0_at rfl
  -- region 0
  repeat refine HW.seq ?_
  refine HW.region ?_
  refine HL.still (Runs.assign rfl) ?_
  intro u2 e2
  refine HL.nil ?_
  -- region 1
  repeat refine HW.seq ?_
  refine HW.region ?_
  refine HL.still (Runs.move p0) ?_
  intro u3 e3
  refine HL.one (HO.call Tryz.func24 bd24 nm24 (args1 e3) rfl ((textR_ch h n h0 h1).mono ?_))
  rintro _ h2 ⟨rfl, rfl⟩
  intro u4 e4
  refine HL.still (Runs.buildText (k := 3) rfl e4) ?_
  intro u5 e5
  refine HL.one (HO.val1 (3, [], Lib.itoa n, 0) e5 ?_)
  intro h3 J3 X3
  intro u6 e6
  refine HL.still (Runs.assign e6) ?_
  intro u2 e2
  refine HL.nil ?_
  refine HW.ret ?_
  exact RT.one rfl e2 ⟨_, 1, rfl, J3, X3⟩
end Go.Proofs.YtjopikfkgjbcgaaGreatDoor
/-! Rows of rows made: onionskinref12.made, List, Object. -/
namespace Go.Proofs.YtjopikfkgjbcgaaGreatDoor
set_option linter.unnecessarySimpa false
set_option linter.unusedSimpArgs false
set_option linter.unusedVariables false
open Go.RowKit
/-- A row that is owned stays where another block is turned. -/
theorem Js.exb {h h' : Heap} {base g0 : Nat} {a : Option Addr} {cap : Nat} {l : List JV} (x : Js h base a cap l) (k : ExB g0 h h') (hg : g0 < base) : Js h' base a cap l := by
  rcases x.blk with ⟨rfl, rfl⟩ | ⟨g, rfl, hg', _⟩
  · refine ⟨?_, x.2⟩
    rcases x.1.cases with ⟨h1, h2, h3⟩ | ⟨g, c, h1, h2, _⟩
    · rw [h1]; exact Own.nil h' base 41 4
    · have := (slice_inj h1).1
      cases this
  · obtain ⟨cur, h1, h2, h3⟩ := x.blkAt
    exact Js.of_blk (k.keep h1 (by omega)) h2 h3 hg' x.2 x.capLe
/-- What is made, each row under its key. -/
def madeR (kind : Int) (keys : List (List UInt8)) (Ls : List (List JV)) : List JV :=
  if Ls.all rightO = true then wholeO ((kind, [], [], (Ls.length : Int)) :: bodyK 6 keys Ls Ls.length) else []
theorem madeR6 (keys : List (List UInt8)) (Ls : List (List JV)) : madeR 6 keys Ls = madeO 6 keys Ls := rfl
theorem bodyR5 (Ls : List (List JV)) (n : Nat) (h : ∀ l ∈ Ls, rightO l = true) : ∀ k, k ≤ Ls.length → bodyK 6 (List.replicate n []) Ls k = bodyK 5 [] Ls k
  | 0, _ => rfl
  | k + 1, hk => by
    rw [bodyK_succ, bodyK_succ, bodyR5 Ls n h k (by omega)]
    congr 1
    unfold pieceK
    rw [if_pos rfl, if_neg (by decide)]
    have hr := h (Ls.getD k []) (by rw [List.getD_eq_getElem?_getD, List.getElem?_eq_getElem (by omega)]; exact List.getElem_mem _)
    have hk0 : (List.replicate n ([] : List UInt8)).getD k [] = [] := by
      rw [List.getD_eq_getElem?_getD, List.getElem?_replicate]
      split <;> rfl
    rw [hk0, named_self (right_key hr)]
theorem madeR5 (Ls : List (List JV)) (n : Nat) : madeR 5 (List.replicate n []) Ls = madeO 5 [] Ls := by
  unfold madeR madeO
  by_cases h : Ls.all rightO = true
  · rw [if_pos h, if_pos h, bodyR5 Ls n (List.all_eq_true.1 h) Ls.length (Nat.le_refl _)]
  · rw [if_neg h, if_neg h]
set_option maxRecDepth 10000 in
set_option maxHeartbeats 2000000 in
theorem madeR_ch (h : Heap) (kind : Int) (keys : List (List UInt8)) (L : List RowJ) (ka ra : Option Addr) (kn kc rn rc : Nat) (hkn : kn = keys.length) (hrn : rn = L.length) (hkl : keys.length = L.length) (hK : Row gS [] h ka keys) (hL : Jvss h ra L)
    (hll : L.length ≤ 1000) (hlen : lenLs (L.map (·.2.2)) ≤ 50000) (hO : ∀ x ∈ L, OkJ x.2.2) (hks : ∀ s ∈ keys, s.length ≤ 140737488355328) :
    CH Tryz.prog 26 #[I64 kind, .slice ka kn kc, .slice ra rn rc] h fun v h' => ∃ a c, v = .slice a (madeR kind keys (L.map (·.2.2))).length c ∧ Js h' h.size a c (madeR kind keys (L.map (·.2.2))) ∧ Ext h h' := by
  subst hkn hrn
  refine CH.of_body Tryz.func26 rfl rfl rfl ?_
  intro f hf
  have p0 : f 0 = I64 kind := by rw [hf]; exact fr0_at rfl
  have p1 : f 1 = .slice ka keys.length kc := by rw [hf]; exact fr0_at rfl
  have p2 : f 2 = .slice ra L.length rc := by rw [hf]; exact fr0_at rfl
  obtain ⟨Ls, hLs⟩ : ∃ Ls, Ls = L.map (·.2.2) := ⟨_, rfl⟩
  rw [← hLs] at hlen ⊢
  have hLl : Ls.length = L.length := by rw [hLs, List.length_map]
  have hget : ∀ {i : Nat} {y : RowJ}, L[i]? = some y → Ls.getD i [] = y.2.2 := fun {i y} q => by
    rw [hLs, List.getD_eq_getElem?_getD, List.getElem?_map, q]
    rfl
  have hOl : ∀ l ∈ Ls, OkJ l := fun l hl => by
    rw [hLs] at hl
    obtain ⟨x, hx, rfl⟩ := List.mem_map.1 hl
    exact hO x hx
  have hbl := body_len 6 keys Ls
  -- region 0
  repeat refine HW.seq ?_
  refine HW.region ?_
  refine HL.still (Runs.assign rfl) ?_
  intro u6 e6
  refine HL.nil ?_
  -- region 1
  repeat refine HW.seq ?_
  refine HW.region ?_
  refine HL.still (Runs.move p0) ?_
  intro u10 e10
  refine HL.still (Runs.move p2) ?_
  intro u11 e11
  refine HL.still (Runs.lenSl rfl Tryz.underlying23 e11) ?_
  intro u12 e12
  refine HL.still (Runs.buildMany e10 e12) ?_
  intro u13 e13
  refine HL.one (HO.val1 (kind, [], [], (L.length : Int)) e13 ?_)
  intro h1 J1 X1
  intro u14 e14
  refine HL.still (Runs.assign e14) ?_
  intro u7 e7
  refine HL.nil ?_
  have g7 : u7 = .slice (some ⟨h.size, 0, none⟩) 1 1 := e7
  -- region 2
  repeat refine HW.seq ?_
  refine HW.region ?_
  refine HL.still (Runs.assign rfl) ?_
  intro u8 e8
  refine HL.nil ?_
  repeat refine HW.seq ?_
  refine HW.block ?_
  refine HW.loop (fun m f u => ∃ (k : Nat) (a : Option Addr) (c : Nat), k ≤ L.length ∧ m = L.length - k ∧ f 8 = I64 k ∧ f 1 = .slice ka keys.length kc ∧ f 2 = .slice ra L.length rc ∧ f 7 = .slice a ((kind, [], [], (L.length : Int)) :: bodyK 6 keys Ls k).length c ∧ Js u h.size a c ((kind, [], [], (L.length : Int)) :: bodyK 6 keys Ls k) ∧ (∀ l ∈ Ls.take k, rightO l = true) ∧ Ext h u) L.length
    ⟨0, _, 1, Nat.zero_le _, rfl, e8, p1, p2, g7, J1, (fun l hl => by simp at hl), X1⟩ ?_
  clear e6 e7 g7 e8 p0 p1 p2
  rintro m f u ⟨k, a, c, hk, hm, f8, f1, f2, f7, J, hrt, hX⟩
  by_cases hlt : k < L.length
  · obtain ⟨y, hy⟩ : ∃ y, L[k]? = some y := ⟨_, List.getElem?_eq_getElem hlt⟩
    obtain ⟨sb, so, rfl, hcell, hyv, hyc⟩ := (hL.ext hX).at hy
    have hgy := hget hy
    have hym : y ∈ L := List.mem_iff_getElem?.2 ⟨k, hy⟩
    have hLk : k < Ls.length := by omega
    have hsucc := hbl (k + 1) (by omega)
    have hbk := hbl k (by omega)
    have htk := lenLs_take Ls (k + 1)
    have hpl := piece_len 6 keys Ls k
    rw [hgy] at hpl
    have hbs := bodyK_succ 6 keys Ls k
    have hbsl : (bodyK 6 keys Ls (k + 1)).length = (bodyK 6 keys Ls k).length + y.2.2.length := by rw [hbs, List.length_append, hpl]
    have hmemL : Ls.getD k [] ∈ Ls := by
      rw [List.getD_eq_getElem?_getD, List.getElem?_eq_getElem hLk]
      exact List.getElem_mem hLk
    rw [hgy] at hmemL
    -- region 3
    repeat refine HW.seq ?_
    refine HW.region ?_
    refine HL.still (Runs.move f8) ?_
    intro u15 e15
    refine HL.still (Runs.move f2) ?_
    intro u16 e16
    refine HL.still (Runs.lenSl rfl Tryz.underlying23 e16) ?_
    intro u17 e17
    refine HL.still (Runs.lss e15 e17 rfl) ?_
    intro u18 e18
    refine HL.nil ?_
    repeat refine HW.seq ?_
    refine HW.yes ?_ ?_
    exact e18.trans (congrArg Value.bool (decide_eq_true (by omega)))
    refine HW.skip ?_
    repeat refine HW.seq ?_
    refine HW.block ?_
    have hR := rightT_ch u y.2.2 y.1 y.2.2.length y.2.1 rfl hyv (by omega) (hO y hym)
    cases hr : rightO y.2.2 with
    | false =>
      rw [hr] at hR
      have hs : madeR kind keys Ls = [] := by
        unfold madeR
        rw [if_neg]
        intro q
        rw [List.all_eq_true] at q
        rw [q _ hmemL] at hr
        cases hr
      -- region 5
      repeat refine HW.seq ?_
      refine HW.region ?_
      refine HL.still (Runs.move f2) ?_
      intro u21 e21
      refine HL.still (Runs.move f8) ?_
      intro u22 e22
      refine HL.still (Runs.ixSl (o' := so + k) Tryz.underlying23 sz26 e21 e22 (by omega) (by omega) (by omega)) ?_
      intro u23 e23
      refine HL.still (Runs.load Tryz.underlying26 rfl e23 hcell) ?_
      intro u24 e24
      refine HL.one (HO.call Tryz.func48 bd48 nm48 (args1 e24) rfl ((hR).mono ?_))
      rintro _ h2 ⟨rfl, X2⟩
      intro u25 e25
      refine HL.still (Runs.assign e25) ?_
      intro u9 e9
      refine HL.nil ?_
      have g9 : u9 = .bool false := e9
      -- region 6
      repeat refine HW.seq ?_
      refine HW.region ?_
      refine HL.still (Runs.move g9) ?_
      intro u26 e26
      refine HL.still (Runs.notb e26 (u := true) rfl) ?_
      intro u27 e27
      refine HL.nil ?_
      refine HW.yes e27 ?_
      -- region 7
      repeat refine HW.seq ?_
      refine HW.region ?_
      refine HL.still (Runs.assign rfl) ?_
      intro u6 e6
      refine HL.nil ?_
      refine HW.ret ?_
      exact RT.one rfl e6 ⟨none, 0, by rw [hs]; rfl, by rw [hs]; exact Js.start _ _, hX.ext X2 (Nat.le_refl _)⟩
    | true =>
      rw [hr] at hR
      have hrt2 : ∀ l ∈ Ls.take (k + 1), rightO l = true := fun l hl => by
        rw [List.take_succ_eq_append_getElem hLk] at hl
        rcases List.mem_append.1 hl with q | q
        · exact hrt l q
        · have q : l = Ls[k] := List.mem_singleton.1 q
          rw [List.getD_eq_getElem?_getD, List.getElem?_eq_getElem hLk] at hgy
          rw [q, show Ls[k] = y.2.2 from hgy]
          exact hr
      -- region 5
      repeat refine HW.seq ?_
      refine HW.region ?_
      refine HL.still (Runs.move f2) ?_
      intro u21 e21
      refine HL.still (Runs.move f8) ?_
      intro u22 e22
      refine HL.still (Runs.ixSl (o' := so + k) Tryz.underlying23 sz26 e21 e22 (by omega) (by omega) (by omega)) ?_
      intro u23 e23
      refine HL.still (Runs.load Tryz.underlying26 rfl e23 hcell) ?_
      intro u24 e24
      refine HL.one (HO.call Tryz.func48 bd48 nm48 (args1 e24) rfl ((hR).mono ?_))
      rintro _ h2 ⟨rfl, X2⟩
      intro u25 e25
      refine HL.still (Runs.assign e25) ?_
      intro u9 e9
      refine HL.nil ?_
      have g9 : u9 = .bool true := e9
      -- region 6
      repeat refine HW.seq ?_
      refine HW.region ?_
      refine HL.still (Runs.move g9) ?_
      intro u26 e26
      refine HL.still (Runs.notb e26 (u := false) rfl) ?_
      intro u27 e27
      refine HL.nil ?_
      refine HW.no e27 ?_
      refine HW.skip ?_
      have X02 : Ext h h2 := hX.ext X2 (Nat.le_refl _)
      obtain ⟨kb, ko, rfl, hck⟩ := (hK.ext X02).at (show k < keys.length by omega)
      have hcell2 : cellH h2 sb (so + k) = some (.slice y.1 y.2.2.length y.2.1) := (cellH_keep (X2.old sb (lt_of_cellH hcell))).trans hcell
      have hpc : pieceK 6 keys Ls k = namedO y.2.2 (keys.getD k []) := by unfold pieceK; rw [if_pos rfl, hgy]
      have hnm : ∀ u, Ext h2 u → CH Tryz.prog 49 #[.slice y.1 y.2.2.length y.2.1, .string (strOf (keys.getD k []))] u fun v h' => ∃ a' c', v = .slice a' (pieceK 6 keys Ls k).length c' ∧ Js h' u.size a' c' (pieceK 6 keys Ls k) ∧ Ext u h' := fun u X => by
        rw [hpc]
        exact namedR_ch u y.2.2 y.1 y.2.2.length y.2.1 (keys.getD k []) rfl ((hyv.ext X2).ext X) (by omega)
      have J2 := J.ext X2
      obtain ⟨ga, rfl, hga, hgl⟩ : ∃ g, a = some ⟨g, 0, none⟩ ∧ h.size ≤ g ∧ g < h2.size := by
        rcases J2.blk with ⟨_, q⟩ | ⟨g, q, q1, q2⟩
        · cases q
        · exact ⟨g, q, q1, q2⟩
      have kc : ∀ u, Ext h2 u → cellH u sb (so + k) = some (.slice y.1 y.2.2.length y.2.1) := fun u X => (cellH_keep (X.old sb (lt_of_cellH hcell2))).trans hcell2
      have kk2 : ∀ u, Ext h2 u → cellH u kb (ko + k) = some (gS (keys.getD k [])) := fun u X => (cellH_keep (X.old kb (lt_of_cellH hck))).trans hck
      -- region 8
      repeat refine HW.seq ?_
      refine HW.last #[0, 0, 0, 6, 14, 0, 0, 96, 224, 510, 1023, 2047] (fun a b => Ext a b) (ExB ga) 10 mixed (by kernel_rfl) (fun _ => Bel.refl _ _) (fun _ _ _ x y => Bel.ext x y (Nat.le_refl _)) (fun _ => ⟨Nat.le_refl _, fun _ _ _ => rfl⟩) ?_
      refine HM2.still ⟨fun _ => Bel.refl _ _, fun _ => ⟨Nat.le_refl _, fun _ _ _ => rfl⟩⟩ (fun f h K => Runs.move ((K.keepB (by kernel_rfl)).trans f7)) ?_
      refine HM2.still ⟨fun _ => Bel.refl _ _, fun _ => ⟨Nat.le_refl _, fun _ _ _ => rfl⟩⟩ (fun f h K => Runs.move ((K.keep (by kernel_rfl)).trans f2)) ?_
      refine HM2.still ⟨fun _ => Bel.refl _ _, fun _ => ⟨Nat.le_refl _, fun _ _ _ => rfl⟩⟩ (fun f h K => Runs.move ((K.keep (by kernel_rfl)).trans f8)) ?_
      refine HM2.still ⟨fun _ => Bel.refl _ _, fun _ => ⟨Nat.le_refl _, fun _ _ _ => rfl⟩⟩ (fun f h K => Runs.ixSl (o' := so + k) Tryz.underlying23 sz26 (K.at 1 29 rfl rfl) (K.at 2 30 rfl rfl) (by omega) (by omega) (by omega)) ?_
      refine HM2.still ⟨fun _ => Bel.refl _ _, fun _ => ⟨Nat.le_refl _, fun _ _ _ => rfl⟩⟩ (fun f h K => Runs.load Tryz.underlying26 rfl (K.at 3 31 rfl rfl) (kc h (K.grown (.inr rfl)))) ?_
      refine HM2.still ⟨fun _ => Bel.refl _ _, fun _ => ⟨Nat.le_refl _, fun _ _ _ => rfl⟩⟩ (fun f h K => Runs.move ((K.keep (by kernel_rfl)).trans f1)) ?_
      refine HM2.still ⟨fun _ => Bel.refl _ _, fun _ => ⟨Nat.le_refl _, fun _ _ _ => rfl⟩⟩ (fun f h K => Runs.move ((K.keep (by kernel_rfl)).trans f8)) ?_
      refine HM2.still ⟨fun _ => Bel.refl _ _, fun _ => ⟨Nat.le_refl _, fun _ _ _ => rfl⟩⟩ (fun f h K => Runs.ixSl (o' := ko + k) Tryz.underlying22 sz9 (K.at 5 33 rfl rfl) (K.at 6 34 rfl rfl) (by omega) (by omega) (by omega)) ?_
      refine HM2.still ⟨fun _ => Bel.refl _ _, fun _ => ⟨Nat.le_refl _, fun _ _ _ => rfl⟩⟩ (fun f h K => Runs.load Tryz.underlying9 rfl (K.at 7 35 rfl rfl) (kk2 h (K.grown (.inr rfl)))) ?_
      refine HM2.one (fun v hh => ∃ a c, v = .slice a (pieceK 6 keys Ls k).length c ∧ Js hh h2.size a c (pieceK 6 keys Ls k)) (fun _ _ => ⟨fun v u u' x ⟨a, c, q1, q2⟩ => ⟨a, c, q1, q2.ext x⟩, fun v u u' x ⟨a, c, q1, q2⟩ => ⟨a, c, q1, q2.exb x hgl⟩⟩) (fun f hh K => HO.call Tryz.func49 bd49 nm49 (args2 (K.at 4 32 rfl rfl) (K.at 8 36 rfl rfl)) rfl ((hnm hh (K.grown (.inr rfl))).mono fun v h' ⟨a, c, q1, q2, q3⟩ => ⟨Rk.grow rfl q3, a, c, q1, q2.low (Bel.size (K.grown (.inr rfl)))⟩)) ?_
      refine HM2.one (fun v hh => (∃ a c, v = .slice a (((kind, [], [], (L.length : Int)) :: bodyK 6 keys Ls k) ++ pieceK 6 keys Ls k).length c ∧ Js hh h.size a c (((kind, [], [], (L.length : Int)) :: bodyK 6 keys Ls k) ++ pieceK 6 keys Ls k)) ∧ Ext h hh) (fun e => absurd rfl e) (fun f hh K => by obtain ⟨a3, c3, q1, q2⟩ := K.at 9 37 rfl rfl; exact HO.dapp (K.at 0 28 rfl rfl) q1 rfl rfl (J2.ext (K.grown (.inl rfl))) q2.jvs (by rw [List.length_cons, hpl]; omega) (X02.ext (K.grown (.inl rfl)) (Nat.le_refl _)).size fun a9 c9 h9 J9 G9 => ⟨Rk.turn ⟨Gr.size G9, fun j hj hne => Gr.old G9 j hj (fun e => hne (by cases e; rfl))⟩, ⟨a9, c9, rfl, J9⟩, G9.belJ (X02.ext (K.grown (.inl rfl)) (Nat.le_refl _)) (J2.ext (K.grown (.inl rfl))) (Nat.le_refl _) (Nat.le_refl _)⟩) ?_
      refine HM2.one (fun v hh => (∃ a c, v = .slice a (((kind, [], [], (L.length : Int)) :: bodyK 6 keys Ls k) ++ pieceK 6 keys Ls k).length c ∧ Js hh h.size a c (((kind, [], [], (L.length : Int)) :: bodyK 6 keys Ls k) ++ pieceK 6 keys Ls k)) ∧ Ext h hh) (fun _ e => absurd e (by decide)) (fun f u K => HO.of_runs (Runs.assign rfl) ⟨Rk.refl ⟨fun _ => Bel.refl _ _, fun _ => ⟨Nat.le_refl _, fun _ _ _ => rfl⟩⟩ _, K.at 10 38 rfl rfl⟩) ?_
      intro f' g' V O
      obtain ⟨⟨a6, c6, g7, J6⟩, X6⟩ := last_at V 11 7 rfl
      have k1 : f' 1 = _ := (last_keep O (by kernel_rfl)).trans f1
      have k2 : f' 2 = _ := (last_keep O (by kernel_rfl)).trans f2
      have k8 : f' 8 = _ := (last_keep O (by kernel_rfl)).trans f8
      rw [List.cons_append, ← hbs] at J6 g7
      -- region 4
      repeat refine HW.seq ?_
      refine HW.region ?_
      refine HL.still (Runs.move k8) ?_
      intro u19 e19
      refine HL.still (Runs.add e19 rfl (i64w (by omega))) ?_
      intro u20 e20
      refine HL.still (Runs.assign e20) ?_
      intro u8 e8
      refine HL.nil ?_
      exact ⟨L.length - (k + 1), by omega, k + 1, a6, c6, by omega, rfl, e8, k1, k2, g7, J6, hrt2, X6⟩
  · have hkl2 : k = L.length := by omega
    subst hkl2
    have hbk := hbl L.length (by omega)
    have htk := lenLs_take Ls L.length
    have hs : madeR kind keys Ls = wholeO ((kind, [], [], (L.length : Int)) :: bodyK 6 keys Ls L.length) := by
      unfold madeR
      rw [if_pos, hLl]
      rw [List.all_eq_true]
      intro l hl
      exact hrt l (by rw [List.take_of_length_le (by omega)]; exact hl)
    -- region 3
    repeat refine HW.seq ?_
    refine HW.region ?_
    refine HL.still (Runs.move f8) ?_
    intro u15 e15
    refine HL.still (Runs.move f2) ?_
    intro u16 e16
    refine HL.still (Runs.lenSl rfl Tryz.underlying23 e16) ?_
    intro u17 e17
    refine HL.still (Runs.lss e15 e17 rfl) ?_
    intro u18 e18
    refine HL.nil ?_
    repeat refine HW.seq ?_
    refine HW.no ?_ ?_
    exact e18.trans (congrArg Value.bool (decide_eq_false (by omega)))
    refine HW.exitHere ?_
    -- region 9
    repeat refine HW.seq ?_
    refine HW.region ?_
    refine HL.still (Runs.move f7) ?_
    intro u39 e39
    refine HL.one (HO.call Tryz.func50 bd50 nm50 (args1 e39) rfl ((fineJ_ch u _ a h.size _ c rfl J (by rw [List.length_cons]; omega) (fun x hx => by rcases List.mem_cons.1 hx with rfl | hx; exact ⟨Nat.zero_le _, Nat.zero_le _, (show (L.length : Int) ≤ 9223372036854775807 by omega)⟩; exact body_ok hOl hks L.length (by omega) x hx)).mono ?_))
    rintro _ h2 ⟨⟨a2, c2, rfl, J2⟩, X2⟩
    intro u40 e40
    refine HL.still (Runs.assign e40) ?_
    intro u6 e6
    refine HL.nil ?_
    refine HW.ret ?_
    exact RT.one rfl e6 ⟨a2, c2, by rw [hs], by rw [hs]; exact J2, hX.ext X2 (Nat.le_refl _)⟩
set_option maxRecDepth 10000 in
theorem listR_ch (h : Heap) (L : List RowJ) (ra : Option Addr) (rn rc : Nat) (hrn : rn = L.length) (hL : Jvss h ra L) (hll : L.length ≤ 1000) (hlen : lenLs (L.map (·.2.2)) ≤ 50000) (hO : ∀ x ∈ L, OkJ x.2.2) :
    CH Tryz.prog 12 #[.slice ra rn rc] h fun v h' => ∃ a c, v = .slice a (listO (L.map (·.2.2))).length c ∧ Js h' h.size a c (listO (L.map (·.2.2))) ∧ Ext h h' := by
  subst hrn
  refine CH.of_body Tryz.func12 rfl rfl rfl ?_
  intro f hf
  have p0 : f 0 = .slice ra L.length rc := by rw [hf]; exact fr0_at rfl
  have hs : listO (L.map (·.2.2)) = madeR 5 (List.replicate L.length []) (L.map (·.2.2)) := (madeR5 _ _).symm
  rw [hs]
  -- region 0
  repeat refine HW.seq ?_
  refine HW.region ?_
  refine HL.still (Runs.assign rfl) ?_
  intro u2 e2
  refine HL.nil ?_
  -- region 1
  repeat refine HW.seq ?_
  refine HW.region ?_
  refine HL.still (Runs.move p0) ?_
  intro u3 e3
  refine HL.still (Runs.lenSl rfl Tryz.underlying23 e3) ?_
  intro u4 e4
  refine HL.one (HO.makeR (z := gS []) (n := L.length) Tryz.underlying22 in9 rfl e4 e4 (by omega) (by omega) ?_)
  intro h1 w1
  intro u5 e5
  refine HL.still (Runs.move p0) ?_
  intro u6 e6
  refine HL.one (HO.call Tryz.func26 bd26 nm26 (args3 rfl e5 e6) rfl ((madeR_ch h1 5 (List.replicate L.length []) L (some ⟨h.size, 0, none⟩) ra L.length L.length L.length rc (by simp) rfl (by simp) (row_block (z0 := []) (gv := gS) (xs := List.replicate L.length []) (by rw [List.map_replicate]; exact w1.new)) (hL.ext w1.ext) hll hlen hO (fun s hs => by rw [(List.mem_replicate.1 hs).2]; exact Nat.zero_le _)).mono ?_))
  rintro _ h2 ⟨a2, c2, rfl, J2, X2⟩
  intro u7 e7
  refine HL.still (Runs.assign e7) ?_
  intro u2 e2
  refine HL.nil ?_
  refine HW.ret ?_
  exact RT.one rfl e2 ⟨a2, c2, rfl, J2.low w1.ext.size, w1.ext.ext X2 (Nat.le_refl _)⟩
set_option maxRecDepth 10000 in
theorem objR_ch (h : Heap) (keys : List (List UInt8)) (L : List RowJ) (ka ra : Option Addr) (kn kc rn rc : Nat) (hkn : kn = keys.length) (hrn : rn = L.length) (hK : Row gS [] h ka keys) (hL : Jvss h ra L) (hll : L.length ≤ 1000) (hkl : keys.length ≤ 1000000) (hlen : lenLs (L.map (·.2.2)) ≤ 50000) (hO : ∀ x ∈ L, OkJ x.2.2) (hks : ∀ s ∈ keys, s.length ≤ 140737488355328) :
    CH Tryz.prog 14 #[.slice ka kn kc, .slice ra rn rc] h fun v h' => ∃ a c, v = .slice a (objectO keys (L.map (·.2.2))).length c ∧ Js h' h.size a c (objectO keys (L.map (·.2.2))) ∧ Ext h h' := by
  refine CH.of_body Tryz.func14 rfl rfl rfl ?_
  intro f hf
  have p0 : f 0 = .slice ka kn kc := by rw [hf]; exact fr0_at rfl
  have p1 : f 1 = .slice ra rn rc := by rw [hf]; exact fr0_at rfl
  -- region 0
  repeat refine HW.seq ?_
  refine HW.region ?_
  refine HL.still (Runs.assign rfl) ?_
  intro u4 e4
  refine HL.nil ?_
  by_cases he : keys.length = L.length
  · have hs : objectO keys (L.map (·.2.2)) = madeR 6 keys (L.map (·.2.2)) := by unfold objectO; rw [if_pos (by rw [List.length_map]; exact he)]; rfl
    rw [hs]
    -- region 1
    repeat refine HW.seq ?_
    refine HW.region ?_
    refine HL.still (Runs.move p0) ?_
    intro u5 e5
    refine HL.still (Runs.lenSl rfl Tryz.underlying22 e5) ?_
    intro u6 e6
    refine HL.still (Runs.move p1) ?_
    intro u7 e7
    refine HL.still (Runs.lenSl rfl Tryz.underlying23 e7) ?_
    intro u8 e8
    refine HL.still (Runs.neq e6 e8 (t := false) (by rw [hkn, hrn, he]; simp)) ?_
    intro u9 e9
    refine HL.nil ?_
    refine HW.no e9 ?_
    refine HW.skip ?_
    -- region 3
    repeat refine HW.seq ?_
    refine HW.region ?_
    refine HL.still (Runs.move p0) ?_
    intro u10 e10
    refine HL.still (Runs.move p1) ?_
    intro u11 e11
    refine HL.one (HO.call Tryz.func26 bd26 nm26 (args3 rfl e10 e11) rfl ((madeR_ch h 6 keys L ka ra kn kc rn rc hkn hrn he hK hL hll hlen hO hks).mono ?_))
    rintro _ h2 ⟨a2, c2, rfl, J2, X2⟩
    intro u12 e12
    refine HL.still (Runs.assign e12) ?_
    intro u4 e4
    refine HL.nil ?_
    refine HW.ret ?_
    exact RT.one rfl e4 ⟨a2, c2, rfl, J2, X2⟩
  · have hs : objectO keys (L.map (·.2.2)) = [] := by unfold objectO; rw [if_neg (by rw [List.length_map]; exact he)]
    rw [hs]
    -- region 1
    repeat refine HW.seq ?_
    refine HW.region ?_
    refine HL.still (Runs.move p0) ?_
    intro u5 e5
    refine HL.still (Runs.lenSl rfl Tryz.underlying22 e5) ?_
    intro u6 e6
    refine HL.still (Runs.move p1) ?_
    intro u7 e7
    refine HL.still (Runs.lenSl rfl Tryz.underlying23 e7) ?_
    intro u8 e8
    refine HL.still (Runs.neq e6 e8 (t := true) (by simp; omega)) ?_
    intro u9 e9
    refine HL.nil ?_
    refine HW.yes e9 ?_
    -- region 2
    repeat refine HW.seq ?_
    refine HW.region ?_
    refine HL.still (Runs.assign rfl) ?_
    intro u4 e4
    refine HL.nil ?_
    refine HW.ret ?_
    exact RT.one rfl e4 ⟨none, 0, rfl, Js.start _ _, Bel.refl _ _⟩
end Go.Proofs.YtjopikfkgjbcgaaGreatDoor
