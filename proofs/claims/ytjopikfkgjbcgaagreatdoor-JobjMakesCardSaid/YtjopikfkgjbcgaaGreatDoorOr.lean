/- What is made: jobj.Int, Text, made, List, Object. -/
import Derived.Test.YtjopikfkgjbcgaaGreatDoorOp
import Derived.Test.YtjopikfkgjbcgaaGreatDoorShelf
import Derived.Lib.AppendIntMem
import Derived.WalkKit
import Derived.WalkMore
namespace Go.Proofs.YtjopikfkgjbcgaaGreatDoor
set_option linter.unnecessarySimpa false
set_option linter.unusedSimpArgs false
set_option linter.unusedVariables false
open Go.RowKit
theorem itoa_ch (h : Heap) (n : Int) (h0 : -9223372036854775808 ≤ n) (h1 : n ≤ 9223372036854775807) (hP : Plc h) : CH Tryz.prog 23 #[I64 n] h fun v h' => v = .string (strOf (Lib.itoa n)) ∧ Ext h h' :=
  CH.of_below (fun w hw => (Tryz.strconv_Itoa n h0 h1 w (hP w hw).2).mono fun _ w' ⟨a, k, os, b⟩ => ⟨a, by rw [b]; exact Lib.below_grow _ w (Nat.le_refl _) k os⟩) fun h' x => ⟨rfl, x⟩
set_option maxRecDepth 100000 in
theorem same_calls (x : Int) (w : World) : Calls Tryz.prog 21 #[.int .i32 x] w fun e w' => e = .returned (.int .i32 x) ∧ w' = w := by
  go_enter Tryz.func21, Tryz.ntmps21
  go_wp2
  go_ret
  exact ⟨rfl, rfl⟩
/-- A string, of which what is no right character is U+FFFD. -/
def mendO (s : List UInt8) : List UInt8 := Lib.mapD id s
theorem map_ch (h : Heap) (s : List UInt8) (hP : Plc h) (hs : s.length < 35184372088832) : CH Tryz.prog 20 #[.func (.func 21) #[] #[], .string (strOf s)] h fun v h' => v = .string (strOf (mendO s)) ∧ Ext h h' :=
  CH.of_below (fun w hw => (Tryz.strings_Map_runes 21 #[] (fun args w => enters_of Tryz.func21 rfl rfl args w) id (strOf s) w (by rw [strOf_size]; exact hs) (fun W x _ _ => (same_calls (x : Int) W).mono fun _ _ ⟨a, b⟩ => ⟨a, 0, b⟩) (fun x hx => ⟨by simp, by simp only [id]; omega⟩) (hP w hw).1).mono fun _ _ ⟨a, b⟩ => ⟨a, b⟩) fun h' x => ⟨rfl, x⟩
section
variable {ρ : Operand → Value} {h : Heap} {d : Option Tmp} {ty : TypeId} {pos : String} {af : Array Edge} {gd : Option (Nat × Bool)} {K : Value → Heap → Prop} {x y : Operand}
theorem run_bText (k : Int) (s : ByteArray) (w : World) : (Instr.build 41 #[(0, I64 k), (2, .string s)]).run Tryz.prog w = .ok (.agg #[I64 k, .string ⟨#[]⟩, .string s, I64 0]) w := by kernel_rfl
theorem run_bMany (k n : Int) (w : World) : (Instr.build 41 #[(0, I64 k), (3, I64 n)]).run Tryz.prog w = .ok (.agg #[I64 k, .string ⟨#[]⟩, .string ⟨#[]⟩, I64 n]) w := by kernel_rfl
theorem run_val1 (k : Int) (s t : ByteArray) (n : Int) (w : World) : (Instr.buildSlice 26 1 #[(0, .agg #[I64 k, .string s, .string t, I64 n])]).run Tryz.prog w = .ok (.slice (some ⟨w.heap.size, 0, none⟩) 1 1) (w.alloc (.cells #[I64 k, .string s, .string t, I64 n] 41)) := by kernel_rfl
set_option maxRecDepth 10000 in
theorem Runs.buildText {k : Int} {s : List UInt8} (hx : ρ x = I64 k) (hy : ρ y = .string (strOf s)) : Runs Tryz.prog ⟨d, .build 41 #[(0, x), (2, y)], ty, pos, af, gd⟩ ρ h (.agg (encJ (k, [], s, 0)).toArray) := by
  refine Runs.build fun w => ?_
  have e : (#[(0, x), (2, y)] : Array (Nat × Operand)).map (fun (i, x) => (i, ρ x)) = #[(0, I64 k), (2, .string (strOf s))] := by simp [hx, hy]
  rw [e]
  exact run_bText _ _ w
set_option maxRecDepth 10000 in
theorem Runs.buildMany {k n : Int} (hx : ρ x = I64 k) (hy : ρ y = I64 n) : Runs Tryz.prog ⟨d, .build 41 #[(0, x), (3, y)], ty, pos, af, gd⟩ ρ h (.agg (encJ (k, [], [], n)).toArray) := by
  refine Runs.build fun w => ?_
  have e : (#[(0, x), (3, y)] : Array (Nat × Operand)).map (fun (i, x) => (i, ρ x)) = #[(0, I64 k), (3, I64 n)] := by simp [hx, hy]
  rw [e]
  exact run_bMany _ _ w
set_option maxRecDepth 10000 in
theorem HO.val1 (v : JV) (hx : ρ x = .agg (encJ v).toArray) (k : ∀ h', Js h' h.size (some ⟨h.size, 0, none⟩) 1 [v] → Ext h h' → K (.slice (some ⟨h.size, 0, none⟩) 1 1) h') : HO Tryz.prog ⟨d, .buildSlice 26 1 #[(0, x)], ty, pos, af, gd⟩ ρ h K :=
  HO.buildSlice (cells := flJ [v]) (e := 41) (fun w => by
    have e : (#[(0, x)] : Array (Nat × Operand)).map (fun (i, x) => (i, ρ x)) = #[(0, .agg (encJ v).toArray)] := by simp [hx]
    rw [e]
    exact run_val1 _ _ _ _ w) fun h' w => k h' (Js.lit (l := [v]) w (Nat.le_refl _) (show 1 ≤ maxLen by decide)) w.ext
end
def intO (n : Int) : List JV := [(3, [], Lib.itoa n, 0)]
def textO (s : List UInt8) : List JV := [(4, [], mendO s, 0)]
set_option maxRecDepth 10000 in
theorem intJ_ch (h : Heap) (n : Int) (h0 : -9223372036854775808 ≤ n) (h1 : n ≤ 9223372036854775807) (hP : Plc h) : CH Tryz.prog 9 #[I64 n] h fun v h' => ∃ a c, v = .slice a (intO n).length c ∧ Js h' h.size a c (intO n) ∧ Ext h h' := by
  refine CH.of_body Tryz.func9 rfl rfl rfl ?_
  intro f hf
  have p0 : f 0 = I64 n := by rw [hf]; exact fr0_at rfl
  -- region 0
  repeat refine HW.seq ?_
  refine HW.region ?_
  refine HL.still (Runs.assign rfl) ?_
  intro u2 e2
  refine HL.nil ?_
  -- region 1
  repeat refine HW.seq ?_
  refine HW.region ?_
  refine HL.still (Runs.move p0) ?_
  intro u3 e3
  refine HL.one (HO.call Tryz.func23 bd23 nm23 (args1 e3) rfl ((itoa_ch h n h0 h1 hP).mono ?_))
  rintro _ h2 ⟨rfl, X2⟩
  intro u4 e4
  refine HL.still (Runs.buildText (k := 3) rfl e4) ?_
  intro u5 e5
  refine HL.one (HO.val1 (3, [], Lib.itoa n, 0) e5 ?_)
  intro h3 J3 X3
  intro u6 e6
  refine HL.still (Runs.assign e6) ?_
  intro u2 e2
  refine HL.nil ?_
  refine HW.ret ?_
  exact RT.one rfl e2 ⟨_, 1, rfl, J3.low X2.size, X2.ext X3 (Nat.le_refl _)⟩
set_option maxRecDepth 10000 in
theorem textJ_ch (h : Heap) (s : List UInt8) (hs : s.length < 35184372088832) (hP : Plc h) : CH Tryz.prog 7 #[.string (strOf s)] h fun v h' => ∃ a c, v = .slice a (textO s).length c ∧ Js h' h.size a c (textO s) ∧ Ext h h' := by
  refine CH.of_body Tryz.func7 rfl rfl rfl ?_
  intro f hf
  have p0 : f 0 = .string (strOf s) := by rw [hf]; exact fr0_at rfl
  -- region 0
  repeat refine HW.seq ?_
  refine HW.region ?_
  refine HL.still (Runs.assign rfl) ?_
  intro u2 e2
  refine HL.nil ?_
  -- region 1
  repeat refine HW.seq ?_
  refine HW.region ?_
  refine HL.still (Runs.move p0) ?_
  intro u3 e3
  refine HL.one (HO.call Tryz.func20 bd20 nm20 (args2 rfl e3) rfl ((map_ch h s hP hs).mono ?_))
  rintro _ h2 ⟨rfl, X2⟩
  intro u4 e4
  refine HL.still (Runs.assign e4) ?_
  intro u0 e0
  refine HL.nil ?_
  have g0 := e0
  -- region 2
  repeat refine HW.seq ?_
  refine HW.region ?_
  refine HL.still (Runs.move g0) ?_
  intro u5 e5
  refine HL.still (Runs.buildText (k := 4) rfl e5) ?_
  intro u6 e6
  refine HL.one (HO.val1 (4, [], mendO s, 0) e6 ?_)
  intro h3 J3 X3
  intro u7 e7
  refine HL.still (Runs.assign e7) ?_
  intro u2 e2
  refine HL.nil ?_
  refine HW.ret ?_
  exact RT.one rfl e2 ⟨_, 1, rfl, J3.low X2.size, X2.ext X3 (Nat.le_refl _)⟩
end Go.Proofs.YtjopikfkgjbcgaaGreatDoor
/-! A list of rows, an object of them: jobj.made, List, Object. -/
namespace Go.Proofs.YtjopikfkgjbcgaaGreatDoor
set_option linter.unnecessarySimpa false
set_option linter.unusedSimpArgs false
set_option linter.unusedVariables false
open Go.RowKit
/-- What the i-th row comes to. -/
def pieceK (kind : Int) (keys : List (List UInt8)) (Ls : List (List JV)) (i : Nat) : List JV := if kind = 6 then namedO (Ls.getD i []) (keys.getD i []) else Ls.getD i []
def bodyK (kind : Int) (keys : List (List UInt8)) (Ls : List (List JV)) (k : Nat) : List JV := ((List.range k).map (pieceK kind keys Ls)).flatten
def madeO (kind : Int) (keys : List (List UInt8)) (Ls : List (List JV)) : List JV :=
  if Ls.all rightO = true then wholeO ((kind, [], [], (Ls.length : Int)) :: bodyK kind keys Ls Ls.length) else []
def listO (Ls : List (List JV)) : List JV := madeO 5 [] Ls
def objectO (keys : List (List UInt8)) (Ls : List (List JV)) : List JV := if keys.length = Ls.length then madeO 6 keys Ls else []
theorem bodyK_succ (kind : Int) (keys : List (List UInt8)) (Ls : List (List JV)) (k : Nat) : bodyK kind keys Ls (k + 1) = bodyK kind keys Ls k ++ pieceK kind keys Ls k := by
  unfold bodyK
  rw [List.range_succ]
  simp
theorem piece_len (kind : Int) (keys : List (List UInt8)) (Ls : List (List JV)) (i : Nat) : (pieceK kind keys Ls i).length = (Ls.getD i []).length := by
  unfold pieceK
  split
  · rw [namedO_len]
  · rfl
/-- How many values rows have. -/
def lenLs (Ls : List (List JV)) : Nat := Ls.flatten.length
theorem body_len (kind : Int) (keys : List (List UInt8)) (Ls : List (List JV)) : ∀ k, k ≤ Ls.length → (bodyK kind keys Ls k).length = lenLs (Ls.take k)
  | 0, _ => rfl
  | k + 1, h => by
    rw [bodyK_succ, List.length_append, body_len kind keys Ls k (by omega), piece_len, List.take_succ_eq_append_getElem (by omega)]
    unfold lenLs
    rw [List.flatten_append, List.length_append, List.getD_eq_getElem?_getD, List.getElem?_eq_getElem (by omega)]
    simp
theorem lenLs_take (Ls : List (List JV)) (k : Nat) : lenLs (Ls.take k) ≤ lenLs Ls := by
  unfold lenLs
  conv => rhs; rw [← List.take_append_drop k Ls]
  rw [List.flatten_append, List.length_append]
  omega
theorem body_ok {kind : Int} {keys : List (List UInt8)} {Ls : List (List JV)} (hO : ∀ l ∈ Ls, OkJ l) (hk : ∀ s ∈ keys, s.length ≤ 140737488355328) : ∀ k, k ≤ Ls.length → OkJ (bodyK kind keys Ls k)
  | 0, _ => fun x hx => by simp [bodyK] at hx
  | k + 1, h => by
    rw [bodyK_succ]
    have hl : OkJ (Ls.getD k []) := by
      rw [List.getD_eq_getElem?_getD, List.getElem?_eq_getElem (by omega)]
      exact hO _ (List.getElem_mem _)
    refine (body_ok hO hk k (by omega)).append ?_
    unfold pieceK
    split
    · refine hl.named ?_
      by_cases hkl : k < keys.length
      · rw [List.getD_eq_getElem?_getD, List.getElem?_eq_getElem hkl]
        exact hk _ (List.getElem_mem _)
      · rw [List.getD_eq_getElem?_getD, List.getElem?_eq_none (by omega)]
        decide
    · exact hl
set_option maxRecDepth 10000 in
set_option maxHeartbeats 2000000 in
theorem made_ch (h : Heap) (kind : Int) (keys : List (List UInt8)) (L : List RowJ) (ka ra : Option Addr) (kn kc rn rc : Nat) (hkind : kind = 5 ∨ kind = 6) (hkn : kn = keys.length) (hrn : rn = L.length) (hkl : kind = 6 → keys.length = L.length) (hK : Row gS [] h ka keys) (hL : Jvss h ra L) (hP : Plc h)
    (hll : L.length ≤ 1000) (hlen : lenLs (L.map (·.2.2)) ≤ 50000) (hO : ∀ x ∈ L, OkJ x.2.2) (hks : ∀ s ∈ keys, s.length ≤ 140737488355328) :
    CH Tryz.prog 25 #[I64 kind, .slice ka kn kc, .slice ra rn rc] h fun v h' => ∃ a c, v = .slice a (madeO kind keys (L.map (·.2.2))).length c ∧ Js h' h.size a c (madeO kind keys (L.map (·.2.2))) ∧ Ext h h' := by
  subst hkn hrn
  refine CH.of_body Tryz.func25 rfl rfl rfl ?_
  intro f hf
  have p0 : f 0 = I64 kind := by rw [hf]; exact fr0_at rfl
  have p1 : f 1 = .slice ka keys.length kc := by rw [hf]; exact fr0_at rfl
  have p2 : f 2 = .slice ra L.length rc := by rw [hf]; exact fr0_at rfl
  obtain ⟨Ls, hLs⟩ : ∃ Ls, Ls = L.map (·.2.2) := ⟨_, rfl⟩
  rw [← hLs] at hlen ⊢
  have hLl : Ls.length = L.length := by rw [hLs, List.length_map]
  have hget : ∀ {i : Nat} {y : RowJ}, L[i]? = some y → Ls.getD i [] = y.2.2 := fun {i y} q => by
    rw [hLs, List.getD_eq_getElem?_getD, List.getElem?_map, q]
    rfl
  have hOl : ∀ l ∈ Ls, OkJ l := fun l hl => by
    rw [hLs] at hl
    obtain ⟨x, hx, rfl⟩ := List.mem_map.1 hl
    exact hO x hx
  have hbl := body_len kind keys Ls
  -- region 0
  repeat refine HW.seq ?_
  refine HW.region ?_
  refine HL.still (Runs.assign rfl) ?_
  intro u6 e6
  refine HL.nil ?_
  -- region 1
  repeat refine HW.seq ?_
  refine HW.region ?_
  refine HL.still (Runs.move p0) ?_
  intro u10 e10
  refine HL.still (Runs.move p2) ?_
  intro u11 e11
  refine HL.still (Runs.lenSl rfl Tryz.underlying23 e11) ?_
  intro u12 e12
  refine HL.still (Runs.buildMany e10 e12) ?_
  intro u13 e13
  refine HL.one (HO.val1 (kind, [], [], (L.length : Int)) e13 ?_)
  intro h1 J1 X1
  intro u14 e14
  refine HL.still (Runs.assign e14) ?_
  intro u7 e7
  refine HL.nil ?_
  have g7 : u7 = .slice (some ⟨h.size, 0, none⟩) 1 1 := e7
  -- region 2
  repeat refine HW.seq ?_
  refine HW.region ?_
  refine HL.still (Runs.move p2) ?_
  intro u15 e15
  refine HL.still (Runs.lenSl rfl Tryz.underlying23 e15) ?_
  intro u16 e16
  refine HL.still (Runs.move rfl) ?_
  intro u17 e17
  refine HL.nil ?_
  repeat refine HW.seq ?_
  refine HW.block ?_
  refine HW.loop (fun m f u => ∃ (k : Nat) (a : Option Addr) (c : Nat), k ≤ L.length ∧ m = L.length - k ∧ f 17 = I64 k ∧ f 16 = I64 L.length ∧ f 15 = .slice ra L.length rc ∧ f 0 = I64 kind ∧ f 1 = .slice ka keys.length kc ∧ f 7 = .slice a ((kind, [], [], (L.length : Int)) :: bodyK kind keys Ls k).length c ∧ Js u h.size a c ((kind, [], [], (L.length : Int)) :: bodyK kind keys Ls k) ∧ (∀ l ∈ Ls.take k, rightO l = true) ∧ Ext h u) L.length
    ⟨0, _, 1, Nat.zero_le _, rfl, e17, e16, e15, p0, p1, g7, J1, (fun l hl => by simp at hl), X1⟩ ?_
  clear e6 e7 g7 e15 e16 e17 p0 p1 p2
  rintro m f u ⟨k, a, c, hk, hm, f17, f16, f15, f0, f1, f7, J, hrt, hX⟩
  by_cases hlt : k < L.length
  · obtain ⟨y, hy⟩ : ∃ y, L[k]? = some y := ⟨_, List.getElem?_eq_getElem hlt⟩
    obtain ⟨sb, so, rfl, hcell, hyv, hyc⟩ := (hL.ext hX).at hy
    have hgy := hget hy
    have hym : y ∈ L := List.mem_iff_getElem?.2 ⟨k, hy⟩
    have hLk : k < Ls.length := by omega
    have hsucc := hbl (k + 1) (by omega)
    have hbk := hbl k (by omega)
    have htk := lenLs_take Ls (k + 1)
    have hpl := piece_len kind keys Ls k
    rw [hgy] at hpl
    have hbs := bodyK_succ kind keys Ls k
    have hbsl : (bodyK kind keys Ls (k + 1)).length = (bodyK kind keys Ls k).length + y.2.2.length := by rw [hbs, List.length_append, hpl]
    have hmemL : Ls.getD k [] ∈ Ls := by
      rw [List.getD_eq_getElem?_getD, List.getElem?_eq_getElem hLk]
      exact List.getElem_mem hLk
    rw [hgy] at hmemL
    -- region 3
    repeat refine HW.seq ?_
    refine HW.region ?_
    refine HL.still (Runs.lss f17 f16 rfl) ?_
    intro u18 e18
    refine HL.nil ?_
    repeat refine HW.seq ?_
    refine HW.yes ?_ ?_
    exact e18.trans (congrArg Value.bool (decide_eq_true (by omega)))
    refine HW.skip ?_
    repeat refine HW.seq ?_
    refine HW.block ?_
    -- region 4
    repeat refine HW.seq ?_
    refine HW.region ?_
    refine HL.still (Runs.move f17) ?_
    intro u19 e19
    refine HL.still (Runs.ixSl (o' := so + k) Tryz.underlying23 sz26 f15 f17 (by omega) (by omega) (by omega)) ?_
    intro u20 e20
    refine HL.still (Runs.load Tryz.underlying26 rfl e20 hcell) ?_
    intro u21 e21
    refine HL.still (Runs.assign e19) ?_
    intro u8 e8
    refine HL.still (Runs.assign e21) ?_
    intro u9 e9
    refine HL.nil ?_
    have g8 := e8
    have g9 := e9
    have hR := right_ch u y.2.2 y.1 y.2.2.length y.2.1 rfl hyv (hP.ext hX) (by omega) (hO y hym)
    cases hr : rightO y.2.2 with
    | false =>
      rw [hr] at hR
      have hs : madeO kind keys Ls = [] := by
        unfold madeO
        rw [if_neg]
        intro q
        rw [List.all_eq_true] at q
        rw [q _ hmemL] at hr
        cases hr
      -- region 5
      repeat refine HW.seq ?_
      refine HW.region ?_
      refine HL.still (Runs.move g9) ?_
      intro u22 e22
      refine HL.one (HO.call Tryz.func30 bd30 nm30 (args1 e22) rfl ((hR).mono ?_))
      rintro _ h2 ⟨rfl, X2⟩
      intro u23 e23
      refine HL.still (Runs.notb e23 (u := true) rfl) ?_
      intro u24 e24
      refine HL.nil ?_
      refine HW.yes e24 ?_
      -- region 6
      repeat refine HW.seq ?_
      refine HW.region ?_
      refine HL.still (Runs.assign rfl) ?_
      intro u6 e6
      refine HL.nil ?_
      refine HW.ret ?_
      exact RT.one rfl e6 ⟨none, 0, by rw [hs]; rfl, by rw [hs]; exact Js.start _ _, hX.ext X2 (Nat.le_refl _)⟩
    | true =>
      rw [hr] at hR
      have hrt2 : ∀ l ∈ Ls.take (k + 1), rightO l = true := fun l hl => by
        rw [List.take_succ_eq_append_getElem hLk] at hl
        rcases List.mem_append.1 hl with q | q
        · exact hrt l q
        · have q : l = Ls[k] := List.mem_singleton.1 q
          rw [List.getD_eq_getElem?_getD, List.getElem?_eq_getElem hLk] at hgy
          rw [q, show Ls[k] = y.2.2 from hgy]
          exact hr
      -- region 5
      repeat refine HW.seq ?_
      refine HW.region ?_
      refine HL.still (Runs.move g9) ?_
      intro u22 e22
      refine HL.one (HO.call Tryz.func30 bd30 nm30 (args1 e22) rfl ((hR).mono ?_))
      rintro _ h2 ⟨rfl, X2⟩
      intro u23 e23
      refine HL.still (Runs.notb e23 (u := false) rfl) ?_
      intro u24 e24
      refine HL.nil ?_
      refine HW.no e24 ?_
      refine HW.skip ?_
      have X02 : Ext h h2 := hX.ext X2 (Nat.le_refl _)
      refine HW.seq ?_
      refine HW.mono (N := fun f v => (∃ a9 c9, f 9 = .slice a9 (pieceK kind keys Ls k).length c9 ∧ Jvs v a9 (pieceK kind keys Ls k)) ∧ f 0 = I64 kind ∧ f 1 = .slice ka keys.length kc ∧ f 7 = .slice a ((kind, [], [], (L.length : Int)) :: bodyK kind keys Ls k).length c ∧ f 15 = .slice (some ⟨sb, so, none⟩) L.length rc ∧ f 16 = I64 L.length ∧ f 17 = I64 k ∧ Ext h2 v) ?_ ?_ (fun _ _ _ q => q) (fun _ _ q => q)
      · repeat refine HW.seq ?_
        rcases hkind with rfl | rfl
        · have hpc : pieceK 5 keys Ls k = y.2.2 := by unfold pieceK; rw [if_neg (by decide), hgy]
          -- region 7
          repeat refine HW.seq ?_
          refine HW.region ?_
          refine HL.still (Runs.move f0) ?_
          intro u25 e25
          refine HL.still (Runs.eql e25 rfl (t := false) rfl) ?_
          intro u26 e26
          refine HL.nil ?_
          refine HW.no e26 ?_
          refine HW.skip ?_
          exact ⟨⟨y.1, y.2.1, by rw [hpc]; exact g9, by rw [hpc]; exact hyv.ext X2⟩, f0, f1, f7, f15, f16, f17, Bel.refl _ _⟩
        · have hkl' := hkl rfl
          obtain ⟨kb, ko, rfl, hck⟩ := (hK.ext X02).at (show k < keys.length by omega)
          have hpc : pieceK 6 keys Ls k = namedO y.2.2 (keys.getD k []) := by unfold pieceK; rw [if_pos rfl, hgy]
          have hpl' : (pieceK 6 keys Ls k).length = (namedO y.2.2 (keys.getD k [])).length := by rw [hpc]
          -- region 7
          repeat refine HW.seq ?_
          refine HW.region ?_
          refine HL.still (Runs.move f0) ?_
          intro u25 e25
          refine HL.still (Runs.eql e25 rfl (t := true) rfl) ?_
          intro u26 e26
          refine HL.nil ?_
          refine HW.yes e26 ?_
          -- region 8
          repeat refine HW.seq ?_
          refine HW.region ?_
          refine HL.still (Runs.move g9) ?_
          intro u27 e27
          refine HL.still (Runs.move f1) ?_
          intro u28 e28
          refine HL.still (Runs.move g8) ?_
          intro u29 e29
          refine HL.still (Runs.ixSl (o' := ko + k) Tryz.underlying22 sz9 e28 e29 (by omega) (by omega) (by omega)) ?_
          intro u30 e30
          refine HL.still (Runs.load Tryz.underlying9 rfl e30 hck) ?_
          intro u31 e31
          refine HL.one (HO.call Tryz.func31 bd31 nm31 (args2 e27 e31) rfl ((named_ch h2 y.2.2 y.1 y.2.2.length y.2.1 (keys.getD k []) rfl (hyv.ext X2) (by omega)).mono ?_))
          rintro _ h3 ⟨a3, c3, rfl, J3, X3⟩
          intro u32 e32
          refine HL.still (Runs.assign e32) ?_
          intro u9 e9
          refine HL.nil ?_
          exact ⟨⟨a3, c3, by rw [hpc]; exact e9, by rw [hpc]; exact J3.jvs⟩, f0, f1, f7, f15, f16, f17, X3⟩
      clear f0 f1 f7 f15 f16 f17 g8 g9
      rintro f v ⟨⟨a9, c9, g9, hJ9⟩, f0, f1, f7, f15, f16, f17, X3⟩
      have J3 := (J.ext X2).ext X3
      have X03 : Ext h v := X02.ext X3 (Nat.le_refl _)
      -- region 9
      repeat refine HW.seq ?_
      refine HW.region ?_
      refine HL.still (Runs.move f7) ?_
      intro u33 e33
      refine HL.still (Runs.move g9) ?_
      intro u34 e34
      refine HL.one (HO.dapp e33 e34 rfl rfl J3 hJ9 (by rw [List.length_cons, hpl]; omega) X03.size ?_)
      intro a6 c6 h6 J6 G6
      intro u35 e35
      refine HL.still (Runs.assign e35) ?_
      intro u7 e7
      refine HL.nil ?_
      rw [List.cons_append, ← hbs] at J6 e7
      have g7 := e7
      -- region 10
      repeat refine HW.seq ?_
      refine HW.region ?_
      refine HL.still (Runs.add f17 rfl (i64w (by omega))) ?_
      intro u36 e36
      refine HL.still (Runs.move e36) ?_
      intro u17 e17
      refine HL.nil ?_
      exact ⟨L.length - (k + 1), by omega, k + 1, a6, c6, by omega, rfl, e17, f16, f15, f0, f1, g7, J6, hrt2, G6.belJ X03 J3 (Nat.le_refl _) (Nat.le_refl _)⟩
  · have hkl2 : k = L.length := by omega
    subst hkl2
    have hbk := hbl L.length (by omega)
    have htk := lenLs_take Ls L.length
    have hs : madeO kind keys Ls = wholeO ((kind, [], [], (L.length : Int)) :: bodyK kind keys Ls L.length) := by
      unfold madeO
      rw [if_pos, hLl]
      rw [List.all_eq_true]
      intro l hl
      exact hrt l (by rw [List.take_of_length_le (by omega)]; exact hl)
    -- region 3
    repeat refine HW.seq ?_
    refine HW.region ?_
    refine HL.still (Runs.lss f17 f16 rfl) ?_
    intro u18 e18
    refine HL.nil ?_
    repeat refine HW.seq ?_
    refine HW.no ?_ ?_
    exact e18.trans (congrArg Value.bool (decide_eq_false (by omega)))
    refine HW.exitHere ?_
    -- region 11
    repeat refine HW.seq ?_
    refine HW.region ?_
    refine HL.still (Runs.move f7) ?_
    intro u37 e37
    refine HL.one (HO.call Tryz.func34 bd34 nm34 (args1 e37) rfl ((wholeJ_ch u _ a h.size _ c rfl J (hP.ext hX) (by rw [List.length_cons]; omega) (fun x hx => by rcases List.mem_cons.1 hx with rfl | hx; exact ⟨Nat.zero_le _, Nat.zero_le _, (show (L.length : Int) ≤ 9223372036854775807 by omega)⟩; exact body_ok hOl hks L.length (by omega) x hx)).mono ?_))
    rintro _ h2 ⟨⟨a2, c2, rfl, J2⟩, X2⟩
    intro u38 e38
    refine HL.still (Runs.assign e38) ?_
    intro u6 e6
    refine HL.nil ?_
    refine HW.ret ?_
    exact RT.one rfl e6 ⟨a2, c2, by rw [hs], by rw [hs]; exact J2, hX.ext X2 (Nat.le_refl _)⟩
set_option maxRecDepth 10000 in
theorem list_ch (h : Heap) (L : List RowJ) (ra : Option Addr) (rn rc : Nat) (hrn : rn = L.length) (hL : Jvss h ra L) (hP : Plc h) (hll : L.length ≤ 1000) (hlen : lenLs (L.map (·.2.2)) ≤ 50000) (hO : ∀ x ∈ L, OkJ x.2.2) :
    CH Tryz.prog 11 #[.slice ra rn rc] h fun v h' => ∃ a c, v = .slice a (listO (L.map (·.2.2))).length c ∧ Js h' h.size a c (listO (L.map (·.2.2))) ∧ Ext h h' := by
  refine CH.of_body Tryz.func11 rfl rfl rfl ?_
  intro f hf
  have p0 : f 0 = .slice ra rn rc := by rw [hf]; exact fr0_at rfl
  -- region 0
  repeat refine HW.seq ?_
  refine HW.region ?_
  refine HL.still (Runs.assign rfl) ?_
  intro u2 e2
  refine HL.nil ?_
  -- region 1
  repeat refine HW.seq ?_
  refine HW.region ?_
  refine HL.still (Runs.move p0) ?_
  intro u3 e3
  refine HL.one (HO.call Tryz.func25 bd25 nm25 (args3 rfl rfl e3) rfl ((made_ch h 5 [] L none ra 0 0 rn rc (.inl rfl) rfl hrn (fun q => by cases q) (Row.nil _ _) hL hP hll hlen hO (fun s hs => by cases hs)).mono ?_))
  rintro _ h2 ⟨a2, c2, rfl, J2, X2⟩
  intro u4 e4
  refine HL.still (Runs.assign e4) ?_
  intro u2 e2
  refine HL.nil ?_
  refine HW.ret ?_
  exact RT.one rfl e2 ⟨a2, c2, rfl, J2, X2⟩
set_option maxRecDepth 10000 in
theorem obj_ch (h : Heap) (keys : List (List UInt8)) (L : List RowJ) (ka ra : Option Addr) (kn kc rn rc : Nat) (hkn : kn = keys.length) (hrn : rn = L.length) (hK : Row gS [] h ka keys) (hL : Jvss h ra L) (hP : Plc h) (hll : L.length ≤ 1000) (hkl : keys.length ≤ 1000000) (hlen : lenLs (L.map (·.2.2)) ≤ 50000) (hO : ∀ x ∈ L, OkJ x.2.2) (hks : ∀ s ∈ keys, s.length ≤ 140737488355328) :
    CH Tryz.prog 13 #[.slice ka kn kc, .slice ra rn rc] h fun v h' => ∃ a c, v = .slice a (objectO keys (L.map (·.2.2))).length c ∧ Js h' h.size a c (objectO keys (L.map (·.2.2))) ∧ Ext h h' := by
  refine CH.of_body Tryz.func13 rfl rfl rfl ?_
  intro f hf
  have p0 : f 0 = .slice ka kn kc := by rw [hf]; exact fr0_at rfl
  have p1 : f 1 = .slice ra rn rc := by rw [hf]; exact fr0_at rfl
  -- region 0
  repeat refine HW.seq ?_
  refine HW.region ?_
  refine HL.still (Runs.assign rfl) ?_
  intro u4 e4
  refine HL.nil ?_
  by_cases he : keys.length = L.length
  · have hs : objectO keys (L.map (·.2.2)) = madeO 6 keys (L.map (·.2.2)) := by unfold objectO; rw [if_pos (by rw [List.length_map]; exact he)]
    rw [hs]
    -- region 1
    repeat refine HW.seq ?_
    refine HW.region ?_
    refine HL.still (Runs.move p0) ?_
    intro u5 e5
    refine HL.still (Runs.lenSl rfl Tryz.underlying22 e5) ?_
    intro u6 e6
    refine HL.still (Runs.move p1) ?_
    intro u7 e7
    refine HL.still (Runs.lenSl rfl Tryz.underlying23 e7) ?_
    intro u8 e8
    refine HL.still (Runs.neq e6 e8 (t := false) (by rw [hkn, hrn, he]; simp)) ?_
    intro u9 e9
    refine HL.nil ?_
    refine HW.no e9 ?_
    refine HW.skip ?_
    -- region 3
    repeat refine HW.seq ?_
    refine HW.region ?_
    refine HL.still (Runs.move p0) ?_
    intro u10 e10
    refine HL.still (Runs.move p1) ?_
    intro u11 e11
    refine HL.one (HO.call Tryz.func25 bd25 nm25 (args3 rfl e10 e11) rfl ((made_ch h 6 keys L ka ra kn kc rn rc (.inr rfl) hkn hrn (fun _ => he) hK hL hP hll hlen hO hks).mono ?_))
    rintro _ h2 ⟨a2, c2, rfl, J2, X2⟩
    intro u12 e12
    refine HL.still (Runs.assign e12) ?_
    intro u4 e4
    refine HL.nil ?_
    refine HW.ret ?_
    exact RT.one rfl e4 ⟨a2, c2, rfl, J2, X2⟩
  · have hs : objectO keys (L.map (·.2.2)) = [] := by unfold objectO; rw [if_neg (by rw [List.length_map]; exact he)]
    rw [hs]
    -- region 1
    repeat refine HW.seq ?_
    refine HW.region ?_
    refine HL.still (Runs.move p0) ?_
    intro u5 e5
    refine HL.still (Runs.lenSl rfl Tryz.underlying22 e5) ?_
    intro u6 e6
    refine HL.still (Runs.move p1) ?_
    intro u7 e7
    refine HL.still (Runs.lenSl rfl Tryz.underlying23 e7) ?_
    intro u8 e8
    refine HL.still (Runs.neq e6 e8 (t := true) (by simp; omega)) ?_
    intro u9 e9
    refine HL.nil ?_
    refine HW.yes e9 ?_
    -- region 2
    repeat refine HW.seq ?_
    refine HW.region ?_
    refine HL.still (Runs.assign rfl) ?_
    intro u4 e4
    refine HL.nil ?_
    refine HW.ret ?_
    exact RT.one rfl e4 ⟨none, 0, rfl, Js.start _ _, Bel.refl _ _⟩
end Go.Proofs.YtjopikfkgjbcgaaGreatDoor
