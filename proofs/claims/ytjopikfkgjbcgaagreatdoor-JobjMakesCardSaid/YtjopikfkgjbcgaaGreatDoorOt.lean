/- The small case: onionskinlaw12.small. -/
import Derived.Test.YtjopikfkgjbcgaaGreatDoorOr
namespace Go.Proofs.YtjopikfkgjbcgaaGreatDoor
set_option linter.unnecessarySimpa false
set_option linter.unusedSimpArgs false
set_option linter.unusedVariables false
open Go.RowKit
theorem Js.cells {h : Heap} {base : Nat} {a : Option Addr} {cap : Nat} {l : List JV} (x : Js h base a cap l) (hl : l ≠ []) : ∃ g, a = some ⟨g, 0, none⟩ ∧ ∀ (k : Nat) (y : JV), l[k]? = some y → ∀ i v, (encJ y)[i]? = some v → cellH h g (k * 4 + i) = some v := by
  rcases x.blk with ⟨_, q⟩ | ⟨g, rfl, _, _⟩
  · exact absurd q hl
  · refine ⟨g, rfl, fun k y hy i v hv => ?_⟩
    have hk := (List.getElem?_eq_some_iff.1 hy).1
    obtain ⟨sb, so, e, hc⟩ := x.jvs.at hk
    cases e
    have := hc i v (by rw [List.getD_eq_getElem?_getD, hy]; exact hv)
    rwa [Nat.zero_add] at this
theorem it5 : Lib.itoa (-5) = [45, 53] := by simp [Lib.itoa, Lib.decDigits]
theorem it1 : Lib.itoa 1 = [49] := by simp [Lib.itoa, Lib.decDigits]
theorem mx : mendO [120] = [120] := by decide +kernel
theorem my : mendO [121] = [121] := by decide +kernel
def i5L : List JV := [(3, [], [45, 53], 0)]
def i1L : List JV := [(3, [], [49], 0)]
def txL : List JV := [(4, [], [120], 0)]
def tyL : List JV := [(4, [], [121], 0)]
theorem i5e : intO (-5) = i5L := by unfold intO; rw [it5]; rfl
theorem i1e : intO 1 = i1L := by unfold intO; rw [it1]; rfl
theorem txe : textO [120] = txL := by unfold textO; rw [mx]; rfl
theorem tye : textO [121] = tyL := by unfold textO; rw [my]; rfl
def lL : List JV := [(5, [], [], 2), (4, [], [120], 0), (3, [], [49], 0)]
theorem lLe : listO [txL, i1L] = lL := by decide +kernel
def oL : List JV := [(6, [], [], 2), (3, [97], [45, 53], 0), (5, [98], [], 2), (4, [], [120], 0), (3, [], [49], 0)]
theorem oLe : objectO [[97], [98]] [i5L, lL] = oL := by decide +kernel
theorem e0e : listO [] = [(5, [], [], 0)] := by decide +kernel
theorem get_b : getO oL 0 [98] = 2 := by decide +kernel
theorem item_1 : itemO oL 2 1 = 4 := by decide +kernel
theorem cut_2 : cutO oL 2 = lL := by decide +kernel
def dL : List JV := [(6, [], [], 2), (4, [97], [121], 0), (5, [98], [], 2), (4, [], [120], 0), (3, [], [49], 0)]
theorem set_a : setO oL [97] tyL = dL := by decide +kernel
def eL : List JV := [(6, [], [], 3), (3, [97], [45, 53], 0), (5, [98], [], 2), (4, [], [120], 0), (3, [], [49], 0), (5, [99], [], 0)]
theorem set_c : setO oL [99] [(5, [], [], 0)] = eL := by decide +kernel
def fL : List JV := [(6, [], [], 1), (3, [97], [45, 53], 0)]
theorem drop_b : dropO oL [98] = fL := by decide +kernel
theorem obj_aa : objectO [[97], [97]] [i1L, i1L] = [] := by decide +kernel
theorem get_x : getO oL 0 [120] = -1 := by decide +kernel
theorem get_2 : getO oL 2 [] = -1 := by decide +kernel
theorem item_n : itemO [] 0 0 = -1 := by decide +kernel
theorem okL (l : List JV) (h : (l.all fun x => decide (x.2.1.length ≤ 140737488355328) && decide (x.2.2.1.length ≤ 140737488355328) && decide (x.2.2.2 ≤ 9223372036854775807)) = true) : OkJ l := fun x hx => by
  have := List.all_eq_true.1 h x hx
  simp only [Bool.and_eq_true, decide_eq_true_eq] at this
  exact ⟨this.1.1, this.1.2, this.2⟩
theorem jvss2 {h h' : Heap} {p q : RowJ} (w : Nw h h' (.cells ([p, q].map rowV).toArray 26 (0, 0))) (hp : Jvs h p.1 p.2.2 ∧ p.2.2.length ≤ p.2.1) (hq : Jvs h q.1 q.2.2 ∧ q.2.2.length ≤ q.2.1) : Jvss h' (some ⟨h.size, 0, none⟩) [p, q] :=
  jvss_block w.new fun x hx => by
    simp only [List.mem_cons, List.not_mem_nil, or_false] at hx
    rcases hx with rfl | rfl
    · exact ⟨hp.1.ext w.ext, hp.2⟩
    · exact ⟨hq.1.ext w.ext, hq.2⟩
end Go.Proofs.YtjopikfkgjbcgaaGreatDoor
/-! The small case, walked: onionskinlaw12.small. -/
namespace Go.Proofs.YtjopikfkgjbcgaaGreatDoor
set_option linter.unnecessarySimpa false
set_option linter.unusedSimpArgs false
set_option linter.unusedVariables false
open Go.RowKit
section
variable {ρ : Operand → Value} {h : Heap} {d : Option Tmp} {ty : TypeId} {pos : String} {af : Array Edge} {gd : Option (Nat × Bool)} {K : Value → Heap → Prop}
theorem run_two (c e : UInt8) (w : World) : (Instr.buildSlice 22 2 #[(0, .string ⟨#[c]⟩), (1, .string ⟨#[e]⟩)]).run Tryz.prog w = .ok (.slice (some ⟨w.heap.size, 0, none⟩) 2 2) (w.alloc (.cells #[.string ⟨#[c]⟩, .string ⟨#[e]⟩] 9)) := by kernel_rfl
set_option maxRecDepth 10000 in
theorem HO.two (c e : UInt8) (hc : ∀ v, ρ (.const v) = v) (k : ∀ h', Nw h h' (.cells ([[c], [e]].map gS).toArray 9 (0, 0)) → K (.slice (some ⟨h.size, 0, none⟩) 2 2) h') : HO Tryz.prog ⟨d, .buildSlice 22 2 #[(0, .const (.string ⟨#[c]⟩)), (1, .const (.string ⟨#[e]⟩))], ty, pos, af, gd⟩ ρ h K :=
  HO.buildSlice (cells := [[c], [e]].map gS) (fun w => by
    have e : (#[(0, .const (.string ⟨#[c]⟩)), (1, .const (.string ⟨#[e]⟩))] : Array (Nat × Operand)).map (fun (i, x) => (i, ρ x)) = #[(0, .string ⟨#[c]⟩), (1, .string ⟨#[e]⟩)] := by simp [hc]
    rw [e]
    exact run_two _ _ w) k
end
theorem i5_ch (h : Heap) (hP : Plc h) : CH Tryz.prog 9 #[I64 (-5)] h fun v h' => ∃ a c, v = .slice a i5L.length c ∧ Js h' h.size a c i5L ∧ Ext h h' := by
  have := intJ_ch h (-5) (by decide) (by decide) hP
  rwa [i5e] at this
theorem i1_ch (h : Heap) (hP : Plc h) : CH Tryz.prog 9 #[I64 1] h fun v h' => ∃ a c, v = .slice a i1L.length c ∧ Js h' h.size a c i1L ∧ Ext h h' := by
  have := intJ_ch h 1 (by decide) (by decide) hP
  rwa [i1e] at this
theorem tx_ch (h : Heap) (hP : Plc h) : CH Tryz.prog 7 #[.string (strOf [120])] h fun v h' => ∃ a c, v = .slice a txL.length c ∧ Js h' h.size a c txL ∧ Ext h h' := by
  have := textJ_ch h [120] (by decide) hP
  rwa [txe] at this
theorem ty_ch (h : Heap) (hP : Plc h) : CH Tryz.prog 7 #[.string (strOf [121])] h fun v h' => ∃ a c, v = .slice a tyL.length c ∧ Js h' h.size a c tyL ∧ Ext h h' := by
  have := textJ_ch h [121] (by decide) hP
  rwa [tye] at this
theorem ok_i1 : OkJ i1L := okL _ (by decide)
theorem ok_i5 : OkJ i5L := okL _ (by decide)
theorem ok_tx : OkJ txL := okL _ (by decide)
theorem ok_ty : OkJ tyL := okL _ (by decide)
theorem ok_l : OkJ lL := okL _ (by decide)
theorem ok_o : OkJ oL := okL _ (by decide)
theorem ok_e : OkJ [(5, [], [], 0)] := okL _ (by decide)
theorem list2_ch (h : Heap) (a b : Option Addr) (c e : Nat) (ra : Option Addr) (hL : Jvss h ra [((a, c, txL) : RowJ), (b, e, i1L)]) (hP : Plc h) : CH Tryz.prog 11 #[.slice ra 2 2] h fun v h' => ∃ a c, v = .slice a lL.length c ∧ Js h' h.size a c lL ∧ Ext h h' := by
  have := list_ch h _ ra 2 2 rfl hL hP (by simp) (by simp [lenLs, txL, i1L]) (fun x hx => by
    simp only [List.mem_cons, List.not_mem_nil, or_false] at hx
    rcases hx with rfl | rfl
    · exact ok_tx
    · exact ok_i1)
  simp only [List.map_cons, List.map_nil] at this
  rwa [lLe] at this
theorem list0_ch (h : Heap) (hP : Plc h) : CH Tryz.prog 11 #[.slice none 0 0] h fun v h' => ∃ a c, v = .slice a [((5, [], [], 0) : JV)].length c ∧ Js h' h.size a c [(5, [], [], 0)] ∧ Ext h h' := by
  have := list_ch h [] none 0 0 rfl (.inl rfl) hP (by decide) (by decide) (fun x hx => by cases hx)
  simp only [List.map_nil] at this
  rwa [e0e] at this
theorem obj2_ch (h : Heap) (a b : Option Addr) (c e : Nat) (ka ra : Option Addr) (hK : Row gS [] h ka [[97], [98]]) (hL : Jvss h ra [((a, c, i5L) : RowJ), (b, e, lL)]) (hP : Plc h) : CH Tryz.prog 13 #[.slice ka 2 2, .slice ra 2 2] h fun v h' => ∃ a c, v = .slice a oL.length c ∧ Js h' h.size a c oL ∧ Ext h h' := by
  have := obj_ch h [[97], [98]] _ ka ra 2 2 2 2 rfl rfl hK hL hP (by simp) (by decide) (by simp [lenLs, i5L, lL]) (fun x hx => by
    simp only [List.mem_cons, List.not_mem_nil, or_false] at hx
    rcases hx with rfl | rfl
    · exact ok_i5
    · exact ok_l) (fun s hs => by
    simp only [List.mem_cons, List.not_mem_nil, or_false] at hs
    rcases hs with rfl | rfl <;> decide)
  simp only [List.map_cons, List.map_nil] at this
  rwa [oLe] at this
theorem objaa_ch (h : Heap) (a b : Option Addr) (c e : Nat) (ka ra : Option Addr) (hK : Row gS [] h ka [[97], [97]]) (hL : Jvss h ra [((a, c, i1L) : RowJ), (b, e, i1L)]) (hP : Plc h) : CH Tryz.prog 13 #[.slice ka 2 2, .slice ra 2 2] h fun v h' => ∃ a c, v = .slice a 0 c ∧ Ext h h' := by
  have := obj_ch h [[97], [97]] _ ka ra 2 2 2 2 rfl rfl hK hL hP (by simp) (by decide) (by simp [lenLs, i1L]) (fun x hx => by
    simp only [List.mem_cons, List.not_mem_nil, or_false] at hx
    rcases hx with rfl | rfl
    · exact ok_i1
    · exact ok_i1) (fun s hs => by
    simp only [List.mem_cons, List.not_mem_nil, or_false] at hs
    rcases hs with rfl | rfl <;> decide)
  simp only [List.map_cons, List.map_nil] at this
  rw [obj_aa] at this
  exact this.mono fun v h' ⟨a, c, q1, _, q2⟩ => ⟨a, c, q1, q2⟩
set_option maxRecDepth 10000 in
set_option maxHeartbeats 4000000 in
theorem small_ch (h : Heap) (hP : Plc h) : CH Tryz.prog 4 #[] h fun v h' => v = .bool true ∧ Ext h h' := by
  refine CH.of_body Tryz.func4 rfl rfl rfl ?_
  intro f hf
  -- region 0
  repeat refine HW.seq ?_
  refine HW.region ?_
  refine HL.still (Runs.assign rfl) ?_
  intro u0 e0
  refine HL.nil ?_
  -- region 1
  repeat refine HW.seq ?_
  refine HW.region ?_
  refine HL.one (HO.two 97 98 (fun _ => rfl) ?_)
  intro h1 w1
  intro u9 e9
  refine HL.one (HO.call Tryz.func9 bd9 nm9 (args1 rfl) rfl ((i5_ch h1 (hP.ext w1.ext)).mono ?_))
  rintro _ h2 ⟨a2, c2, rfl, J2, X2⟩
  intro u10 e10
  refine HL.one (HO.call Tryz.func7 bd7 nm7 (args1 rfl) rfl ((tx_ch h2 (hP.ext (w1.ext.ext X2 (Nat.le_refl _)))).mono ?_))
  rintro _ h3 ⟨a3, c3, rfl, J3, X3⟩
  intro u11 e11
  refine HL.one (HO.call Tryz.func9 bd9 nm9 (args1 rfl) rfl ((i1_ch h3 (hP.ext ((w1.ext.ext X2 (Nat.le_refl _)).ext X3 (Nat.le_refl _)))).mono ?_))
  rintro _ h4 ⟨a4, c4, rfl, J4, X4⟩
  intro u12 e12
  refine HL.one (HO.rows2 (a3, c3, txL) (a4, c4, i1L) e11 e12 ?_)
  intro h5 w5
  intro u13 e13
  refine HL.one (HO.call Tryz.func11 bd11 nm11 (args1 e13) rfl ((list2_ch h5 a3 a4 c3 c4 _ (jvss2 w5 ⟨(J3.ext X4).jvs, J3.2⟩ ⟨J4.jvs, J4.2⟩) (hP.ext ((((w1.ext.ext X2 (Nat.le_refl _)).ext X3 (Nat.le_refl _)).ext X4 (Nat.le_refl _)).ext w5.ext (Nat.le_refl _)))).mono ?_))
  rintro _ h6 ⟨a6, c6, rfl, J6, X6⟩
  intro u14 e14
  refine HL.one (HO.rows2 (a2, c2, i5L) (a6, c6, lL) e10 e14 ?_)
  intro h7 w7
  intro u15 e15
  refine HL.one (HO.call Tryz.func13 bd13 nm13 (args2 e9 e15) rfl ((obj2_ch h7 a2 a6 c2 c6 _ _ ((row_block (z0 := []) w1.new).ext ((((X2.ext X3 (Nat.le_refl _)).ext X4 (Nat.le_refl _)).ext w5.ext (Nat.le_refl _)).ext X6 (Nat.le_refl _) |>.ext w7.ext (Nat.le_refl _))) (jvss2 w7 ⟨((((J2.ext X3).ext X4).ext w5.ext).ext X6).jvs, J2.2⟩ ⟨J6.jvs, J6.2⟩) (hP.ext ((((((w1.ext.ext X2 (Nat.le_refl _)).ext X3 (Nat.le_refl _)).ext X4 (Nat.le_refl _)).ext w5.ext (Nat.le_refl _)).ext X6 (Nat.le_refl _)).ext w7.ext (Nat.le_refl _)))).mono ?_))
  rintro _ h8 ⟨a8, c8, rfl, J8, X8⟩
  intro u16 e16
  refine HL.still (Runs.assign e16) ?_
  intro u1 e1
  refine HL.nil ?_
  have E2 : Ext h h2 := w1.ext.ext X2 (Nat.le_refl _)
  have E4 : Ext h h4 := (E2.ext X3 (Nat.le_refl _)).ext X4 (Nat.le_refl _)
  have E8 : Ext h h8 := (((E4.ext w5.ext (Nat.le_refl _)).ext X6 (Nat.le_refl _)).ext w7.ext (Nat.le_refl _)).ext X8 (Nat.le_refl _)
  have g1 : u1 = .slice a8 5 c8 := e1
  have hg : ∀ u, Ext h u → Plc u := fun u X => hP.ext X
  clear E2 E4 X2 X3 X4 w5 X6 w7 X8 w1 J2 J3 J4 J6 e1 e9 e10 e11 e12 e13 e14 e15 e16
  -- region 2
  repeat refine HW.seq ?_
  refine HW.region ?_
  refine HL.still (Runs.move g1) ?_
  intro u17 e17
  refine HL.still (Runs.lenSl rfl Tryz.underlying26 e17) ?_
  intro u18 e18
  refine HL.still (Runs.neq e18 rfl (t := false) rfl) ?_
  intro u19 e19
  refine HL.nil ?_
  refine HW.no e19 ?_
  refine HW.skip ?_
  have G1 := get_ch h8 oL a8 5 c8 0 [98] rfl J8.jvs (hg _ E8) (by decide) ok_o
  rw [get_b] at G1
  -- region 4
  repeat refine HW.seq ?_
  refine HW.region ?_
  refine HL.still (Runs.move g1) ?_
  intro u20 e20
  refine HL.one (HO.call Tryz.func15 bd15 nm15 (args3 e20 rfl rfl) rfl ((G1).mono ?_))
  rintro _ h9 ⟨rfl, X9⟩
  intro u21 e21
  refine HL.still (Runs.assign e21) ?_
  intro u2 e2
  refine HL.nil ?_
  have g2 : u2 = I64 2 := e2
  have E9 : Ext h h9 := E8.ext X9 (Nat.le_refl _)
  have J9 := J8.ext X9
  clear G1 e2 e20 e21 J8 X9 e17 e18 e19
  have G1 := item_ch h9 oL a8 5 c8 2 1 rfl J9.jvs (hg _ E9) (by decide) ok_o
  rw [item_1] at G1
  -- region 5
  repeat refine HW.seq ?_
  refine HW.region ?_
  refine HL.still (Runs.move g1) ?_
  intro u22 e22
  refine HL.still (Runs.move g2) ?_
  intro u23 e23
  refine HL.one (HO.call Tryz.func16 bd16 nm16 (args3 e22 e23 rfl) rfl ((G1).mono ?_))
  rintro _ h10 ⟨rfl, X10⟩
  intro u24 e24
  refine HL.still (Runs.assign e24) ?_
  intro u3 e3
  refine HL.nil ?_
  have g3 : u3 = I64 4 := e3
  have E10 : Ext h h10 := E9.ext X10 (Nat.le_refl _)
  have J10 := J9.ext X10
  clear G1 e3 e22 e23 e24 J9 X10 E8 E9
  have G1 := cut_ch h10 oL a8 5 c8 2 rfl J10.2 J10.jvs (hg _ E10) (by decide) ok_o
  rw [cut_2] at G1
  -- region 6
  repeat refine HW.seq ?_
  refine HW.region ?_
  refine HL.still (Runs.move g1) ?_
  intro u25 e25
  refine HL.still (Runs.move g2) ?_
  intro u26 e26
  refine HL.one (HO.call Tryz.func17 bd17 nm17 (args2 e25 e26) rfl ((G1).mono ?_))
  rintro _ h11 ⟨ac, cc, rfl, Jc, X11⟩
  intro u27 e27
  refine HL.still (Runs.assign e27) ?_
  intro u4 e4
  refine HL.nil ?_
  have g4 : u4 = .slice ac 3 cc := e4
  have E11 : Ext h h11 := E10.ext X11 (Nat.le_refl _)
  have J11 := J10.ext X11
  clear G1 e4 e25 e26 e27 J10 X11 E10
  have G2 : ∀ u (at1 : Option Addr) (ct : Nat), Ext h11 u → Js u h11.size at1 ct tyL → CH Tryz.prog 18 #[.slice a8 5 c8, .string (strOf [97]), .slice at1 1 ct] u fun v h' => ∃ a' c', v = .slice a' 5 c' ∧ Js h' u.size a' c' dL ∧ Ext u h' := fun u at1 ct X Jt => by
    have := set_ch u oL tyL a8 at1 5 c8 1 ct [97] rfl (J11.ext X).2 rfl (J11.ext X).jvs Jt.jvs (hg _ (E11.ext X (Nat.le_refl _))) (by decide) (by decide) ok_o ok_ty (by decide)
    rw [set_a] at this
    exact this
  -- region 7
  repeat refine HW.seq ?_
  refine HW.region ?_
  refine HL.still (Runs.move g1) ?_
  intro u28 e28
  refine HL.one (HO.call Tryz.func7 bd7 nm7 (args1 rfl) rfl ((ty_ch h11 (hg _ E11)).mono ?_))
  rintro _ h12 ⟨at1, ct, rfl, Jt, X12⟩
  intro u29 e29
  refine HL.one (HO.call Tryz.func18 bd18 nm18 (args3 e28 rfl e29) rfl ((G2 h12 at1 ct X12 Jt).mono ?_))
  rintro _ h13 ⟨ad, cd, rfl, Jd, X13⟩
  intro u30 e30
  refine HL.still (Runs.assign e30) ?_
  intro u5 e5
  refine HL.nil ?_
  have g5 : u5 = .slice ad 5 cd := e5
  have E13 : Ext h h13 := (E11.ext X12 (Nat.le_refl _)).ext X13 (Nat.le_refl _)
  have J13 := (J11.ext X12).ext X13
  have Jc13 := (Jc.ext X12).ext X13
  clear G2 e5 e28 e29 e30 J11 X12 X13 E11 Jc Jt
  have G2 : ∀ u (at1 : Option Addr) (ct : Nat), Ext h13 u → Js u h13.size at1 ct [(5, [], [], 0)] → CH Tryz.prog 18 #[.slice a8 5 c8, .string (strOf [99]), .slice at1 1 ct] u fun v h' => ∃ a' c', v = .slice a' 6 c' ∧ Js h' u.size a' c' eL ∧ Ext u h' := fun u at1 ct X Jt => by
    have := set_ch u oL [(5, [], [], 0)] a8 at1 5 c8 1 ct [99] rfl (J13.ext X).2 rfl (J13.ext X).jvs Jt.jvs (hg _ (E13.ext X (Nat.le_refl _))) (by decide) (by decide) ok_o ok_e (by decide)
    rw [set_c] at this
    exact this
  -- region 8
  repeat refine HW.seq ?_
  refine HW.region ?_
  refine HL.still (Runs.move g1) ?_
  intro u31 e31
  refine HL.one (HO.call Tryz.func11 bd11 nm11 (args1 rfl) rfl ((list0_ch h13 (hg _ E13)).mono ?_))
  rintro _ h14 ⟨at2, ct2, rfl, Jt, X14⟩
  intro u32 e32
  refine HL.one (HO.call Tryz.func18 bd18 nm18 (args3 e31 rfl e32) rfl ((G2 h14 at2 ct2 X14 Jt).mono ?_))
  rintro _ h15 ⟨ae, ce, rfl, Je, X15⟩
  intro u33 e33
  refine HL.still (Runs.assign e33) ?_
  intro u6 e6
  refine HL.nil ?_
  have g6 : u6 = .slice ae 6 ce := e6
  have E15 : Ext h h15 := (E13.ext X14 (Nat.le_refl _)).ext X15 (Nat.le_refl _)
  have J15 := (J13.ext X14).ext X15
  have Jc15 := (Jc13.ext X14).ext X15
  have Jd15 := (Jd.ext X14).ext X15
  clear G2 e6 e31 e32 e33 J13 X14 X15 E13 Jc13 Jt Jd
  have G1 := drop_ch h15 oL a8 5 c8 [98] rfl J15.2 J15.jvs (hg _ E15) (by decide) ok_o
  rw [drop_b] at G1
  -- region 9
  repeat refine HW.seq ?_
  refine HW.region ?_
  refine HL.still (Runs.move g1) ?_
  intro u34 e34
  refine HL.one (HO.call Tryz.func19 bd19 nm19 (args2 e34 rfl) rfl ((G1).mono ?_))
  rintro _ h16 ⟨af, cf, rfl, Jf, X16⟩
  intro u35 e35
  refine HL.still (Runs.assign e35) ?_
  intro u7 e7
  refine HL.nil ?_
  have g7 : u7 = .slice af 2 cf := e7
  have E16 : Ext h h16 := E15.ext X16 (Nat.le_refl _)
  have J16 := J15.ext X16
  have Jc16 := Jc15.ext X16
  have Jd16 := Jd15.ext X16
  have Je16 := Je.ext X16
  clear G1 e7 e34 e35 J15 X16 E15 Jc15 Jd15 Je
  -- region 10
  repeat refine HW.seq ?_
  refine HW.region ?_
  refine HL.one (HO.two 97 97 (fun _ => rfl) ?_)
  intro h17 w17
  intro u36 e36
  refine HL.one (HO.call Tryz.func9 bd9 nm9 (args1 rfl) rfl ((i1_ch h17 (hg _ (E16.ext w17.ext (Nat.le_refl _)))).mono ?_))
  rintro _ h18 ⟨a18, c18, rfl, J18, X18⟩
  intro u37 e37
  refine HL.one (HO.call Tryz.func9 bd9 nm9 (args1 rfl) rfl ((i1_ch h18 (hg _ ((E16.ext w17.ext (Nat.le_refl _)).ext X18 (Nat.le_refl _)))).mono ?_))
  rintro _ h19 ⟨a19, c19, rfl, J19, X19⟩
  intro u38 e38
  refine HL.one (HO.rows2 (a18, c18, i1L) (a19, c19, i1L) e37 e38 ?_)
  intro h20 w20
  intro u39 e39
  refine HL.one (HO.call Tryz.func13 bd13 nm13 (args2 e36 e39) rfl ((objaa_ch h20 a18 a19 c18 c19 _ _ ((row_block (z0 := []) w17.new).ext ((X18.ext X19 (Nat.le_refl _)).ext w20.ext (Nat.le_refl _))) (jvss2 w20 ⟨(J18.ext X19).jvs, J18.2⟩ ⟨J19.jvs, J19.2⟩) (hg _ ((((E16.ext w17.ext (Nat.le_refl _)).ext X18 (Nat.le_refl _)).ext X19 (Nat.le_refl _)).ext w20.ext (Nat.le_refl _)))).mono ?_))
  rintro _ h21 ⟨ag, cg, rfl, X21⟩
  intro u40 e40
  refine HL.still (Runs.assign e40) ?_
  intro u8 e8
  refine HL.nil ?_
  have g8 : u8 = .slice ag 0 cg := e8
  have X1621 : Ext h16 h21 := (((w17.ext.ext X18 (Nat.le_refl _)).ext X19 (Nat.le_refl _)).ext w20.ext (Nat.le_refl _)).ext X21 (Nat.le_refl _)
  have E21 : Ext h h21 := E16.ext X1621 (Nat.le_refl _)
  have JO := J16.ext X1621
  have JC := Jc16.ext X1621
  have JD := Jd16.ext X1621
  have JE := Je16.ext X1621
  have JF := Jf.ext X1621
  clear e8 e36 e37 e38 e39 e40 w17 X18 X19 w20 X21 X1621 J16 Jc16 Jd16 Je16 Jf J18 J19 E16
  -- region 11
  repeat refine HW.seq ?_
  refine HW.region ?_
  refine HL.still (Runs.move g4) ?_
  intro u41 e41
  refine HL.still (Runs.lenSl rfl Tryz.underlying26 e41) ?_
  intro u42 e42
  refine HL.still (Runs.neq e42 rfl (t := false) rfl) ?_
  intro u43 e43
  refine HL.still (Runs.move e43) ?_
  intro u44 e44
  refine HL.stillG rfl rfl e44 (Runs.move g5) ?_
  intro u45 e45
  refine HL.stillG rfl rfl e44 (Runs.lenSl rfl Tryz.underlying26 e45) ?_
  intro u46 e46
  refine HL.stillG rfl rfl e44 (Runs.neq e46 rfl (t := false) rfl) ?_
  intro u47 e47
  refine HL.still (Runs.pick e44 e47) ?_
  intro u48 e48
  refine HL.still (Runs.move e48) ?_
  intro u49 e49
  refine HL.stillG rfl rfl e49 (Runs.move g6) ?_
  intro u50 e50
  refine HL.stillG rfl rfl e49 (Runs.lenSl rfl Tryz.underlying26 e50) ?_
  intro u51 e51
  refine HL.stillG rfl rfl e49 (Runs.neq e51 rfl (t := false) rfl) ?_
  intro u52 e52
  refine HL.still (Runs.pick e49 e52) ?_
  intro u53 e53
  refine HL.still (Runs.move e53) ?_
  intro u54 e54
  refine HL.stillG rfl rfl e54 (Runs.move g7) ?_
  intro u55 e55
  refine HL.stillG rfl rfl e54 (Runs.lenSl rfl Tryz.underlying26 e55) ?_
  intro u56 e56
  refine HL.stillG rfl rfl e54 (Runs.neq e56 rfl (t := false) rfl) ?_
  intro u57 e57
  refine HL.still (Runs.pick e54 e57) ?_
  intro u58 e58
  refine HL.nil ?_
  refine HW.no e58 ?_
  refine HW.skip ?_
  have JOv := JO.jvs
  obtain ⟨bo, rfl, cO⟩ := JO.cells (by decide)
  obtain ⟨bc, rfl, cC⟩ := JC.cells (by decide)
  obtain ⟨bd, rfl, cD⟩ := JD.cells (by decide)
  obtain ⟨be, rfl, cE⟩ := JE.cells (by decide)
  obtain ⟨bf, rfl, cF⟩ := JF.cells (by decide)
  have q1 := get_ch h21 oL _ 5 c8 0 [120] rfl JOv (hg _ E21) (by decide) ok_o
  rw [get_x] at q1
  have q2 : ∀ u, Ext h21 u → CH Tryz.prog 15 #[.slice (some ⟨bo, 0, none⟩) 5 c8, I64 2, .string (strOf [])] u fun v h' => v = I64 (-1) ∧ Ext u h' := fun u X => by
    have := get_ch u oL _ 5 c8 2 [] rfl (JOv.ext X) (hg _ (E21.ext X (Nat.le_refl _))) (by decide) ok_o
    rwa [get_2] at this
  have q3 : ∀ u, Ext h21 u → CH Tryz.prog 16 #[.slice none 0 0, I64 0, I64 0] u fun v h' => v = I64 (-1) ∧ Ext u h' := fun u X => by
    have := item_ch u [] none 0 0 0 0 rfl (.inl rfl) (hg _ (E21.ext X (Nat.le_refl _))) (by decide) (fun x hx => by cases hx)
    rwa [item_n] at this
  -- region 13
  repeat refine HW.seq ?_
  refine HW.region ?_
  refine HL.still (Runs.move g1) ?_
  intro u59 e59
  refine HL.still (Runs.ixSl (o' := 0) Tryz.underlying26 sz41 e59 rfl (by omega) (by omega) (by omega)) ?_
  intro u60 e60
  refine HL.still (Runs.fld (o' := 3) Tryz.underlying41 rfl sz3 (by decide) e60 (by rfl)) ?_
  intro u61 e61
  refine HL.still (Runs.load Tryz.underlying3 rfl e61 (cO 0 (6, [], [], 2) rfl 3 (I64 2) rfl)) ?_
  intro u62 e62
  refine HL.still (Runs.eql e62 rfl (t := true) rfl) ?_
  intro u63 e63
  refine HL.still (Runs.move e63) ?_
  intro u64 e64
  refine HL.stillG rfl rfl e64 (Runs.move g1) ?_
  intro u65 e65
  refine HL.stillG rfl rfl e64 (Runs.ixSl (o' := 4) Tryz.underlying26 sz41 e65 rfl (by omega) (by omega) (by omega)) ?_
  intro u66 e66
  refine HL.stillG rfl rfl e64 (Runs.loadAgg Tryz.underlying41 rfl sz41 e66 (encJ_len (3, [97], [45, 53], 0)) (fun i v q => cO 1 _ rfl i v q)) ?_
  intro u67 e67
  refine HL.stillG rfl rfl e64 (v := .agg (encJ (3, [97], [45, 53], 0)).toArray) (Runs.build (fun w => by kernel_rfl)) ?_
  intro u68 e68
  refine HL.stillG rfl rfl e64 (Runs.eqStructSelf Tryz.underlying41 sih41 eg41 e67 e68 (by kernel_rfl)) ?_
  intro u69 e69
  refine HL.still (Runs.pick e64 e69) ?_
  intro u70 e70
  refine HL.still (Runs.move e70) ?_
  intro u71 e71
  refine HL.stillG rfl rfl e71 (Runs.move g2) ?_
  intro u72 e72
  refine HL.stillG rfl rfl e71 (Runs.eql e72 rfl (t := true) rfl) ?_
  intro u73 e73
  refine HL.still (Runs.pick e71 e73) ?_
  intro u74 e74
  refine HL.still (Runs.move e74) ?_
  intro u75 e75
  refine HL.stillG rfl rfl e75 (Runs.move g3) ?_
  intro u76 e76
  refine HL.stillG rfl rfl e75 (Runs.eql e76 rfl (t := true) rfl) ?_
  intro u77 e77
  refine HL.still (Runs.pick e75 e77) ?_
  intro u78 e78
  refine HL.still (Runs.move e78) ?_
  intro u79 e79
  refine HL.stillG rfl rfl e79 (Runs.move g4) ?_
  intro u80 e80
  refine HL.stillG rfl rfl e79 (Runs.ixSl (o' := 0) Tryz.underlying26 sz41 e80 rfl (by omega) (by omega) (by omega)) ?_
  intro u81 e81
  refine HL.stillG rfl rfl e79 (Runs.loadAgg Tryz.underlying41 rfl sz41 e81 (encJ_len (5, [], [], 2)) (fun i v q => cC 0 _ rfl i v q)) ?_
  intro u82 e82
  refine HL.stillG rfl rfl e79 (v := .agg (encJ (5, [], [], 2)).toArray) (Runs.build (fun w => by kernel_rfl)) ?_
  intro u83 e83
  refine HL.stillG rfl rfl e79 (Runs.eqStructSelf Tryz.underlying41 sih41 eg41 e82 e83 (by kernel_rfl)) ?_
  intro u84 e84
  refine HL.still (Runs.pick e79 e84) ?_
  intro u85 e85
  refine HL.still (Runs.move e85) ?_
  intro u86 e86
  refine HL.stillG rfl rfl e86 (Runs.move g5) ?_
  intro u87 e87
  refine HL.stillG rfl rfl e86 (Runs.ixSl (o' := 4) Tryz.underlying26 sz41 e87 rfl (by omega) (by omega) (by omega)) ?_
  intro u88 e88
  refine HL.stillG rfl rfl e86 (Runs.fld (o' := 6) Tryz.underlying41 rfl sz9 (by decide) e88 (by rfl)) ?_
  intro u89 e89
  refine HL.stillG rfl rfl e86 (Runs.load Tryz.underlying9 rfl e89 (cD 1 (4, [97], [121], 0) rfl 2 (.string (strOf [121])) rfl)) ?_
  intro u90 e90
  refine HL.stillG rfl rfl e86 (Runs.eqS e90 rfl (t := true) rfl) ?_
  intro u91 e91
  refine HL.still (Runs.pick e86 e91) ?_
  intro u92 e92
  refine HL.still (Runs.move e92) ?_
  intro u93 e93
  refine HL.stillG rfl rfl e93 (Runs.move g5) ?_
  intro u94 e94
  refine HL.stillG rfl rfl e93 (Runs.ixSl (o' := 4) Tryz.underlying26 sz41 e94 rfl (by omega) (by omega) (by omega)) ?_
  intro u95 e95
  refine HL.stillG rfl rfl e93 (Runs.fld (o' := 5) Tryz.underlying41 rfl sz9 (by decide) e95 (by rfl)) ?_
  intro u96 e96
  refine HL.stillG rfl rfl e93 (Runs.load Tryz.underlying9 rfl e96 (cD 1 (4, [97], [121], 0) rfl 1 (.string (strOf [97])) rfl)) ?_
  intro u97 e97
  refine HL.stillG rfl rfl e93 (Runs.eqS e97 rfl (t := true) rfl) ?_
  intro u98 e98
  refine HL.still (Runs.pick e93 e98) ?_
  intro u99 e99
  refine HL.still (Runs.move e99) ?_
  intro u100 e100
  refine HL.stillG rfl rfl e100 (Runs.move g6) ?_
  intro u101 e101
  refine HL.stillG rfl rfl e100 (Runs.ixSl (o' := 0) Tryz.underlying26 sz41 e101 rfl (by omega) (by omega) (by omega)) ?_
  intro u102 e102
  refine HL.stillG rfl rfl e100 (Runs.fld (o' := 3) Tryz.underlying41 rfl sz3 (by decide) e102 (by rfl)) ?_
  intro u103 e103
  refine HL.stillG rfl rfl e100 (Runs.load Tryz.underlying3 rfl e103 (cE 0 (6, [], [], 3) rfl 3 (I64 3) rfl)) ?_
  intro u104 e104
  refine HL.stillG rfl rfl e100 (Runs.eql e104 rfl (t := true) rfl) ?_
  intro u105 e105
  refine HL.still (Runs.pick e100 e105) ?_
  intro u106 e106
  refine HL.still (Runs.move e106) ?_
  intro u107 e107
  refine HL.stillG rfl rfl e107 (Runs.move g6) ?_
  intro u108 e108
  refine HL.stillG rfl rfl e107 (Runs.ixSl (o' := 20) Tryz.underlying26 sz41 e108 rfl (by omega) (by omega) (by omega)) ?_
  intro u109 e109
  refine HL.stillG rfl rfl e107 (Runs.fld (o' := 21) Tryz.underlying41 rfl sz9 (by decide) e109 (by rfl)) ?_
  intro u110 e110
  refine HL.stillG rfl rfl e107 (Runs.load Tryz.underlying9 rfl e110 (cE 5 (5, [99], [], 0) rfl 1 (.string (strOf [99])) rfl)) ?_
  intro u111 e111
  refine HL.stillG rfl rfl e107 (Runs.eqS e111 rfl (t := true) rfl) ?_
  intro u112 e112
  refine HL.still (Runs.pick e107 e112) ?_
  intro u113 e113
  refine HL.still (Runs.move e113) ?_
  intro u114 e114
  refine HL.stillG rfl rfl e114 (Runs.move g7) ?_
  intro u115 e115
  refine HL.stillG rfl rfl e114 (Runs.ixSl (o' := 0) Tryz.underlying26 sz41 e115 rfl (by omega) (by omega) (by omega)) ?_
  intro u116 e116
  refine HL.stillG rfl rfl e114 (Runs.fld (o' := 3) Tryz.underlying41 rfl sz3 (by decide) e116 (by rfl)) ?_
  intro u117 e117
  refine HL.stillG rfl rfl e114 (Runs.load Tryz.underlying3 rfl e117 (cF 0 (6, [], [], 1) rfl 3 (I64 1) rfl)) ?_
  intro u118 e118
  refine HL.stillG rfl rfl e114 (Runs.eql e118 rfl (t := true) rfl) ?_
  intro u119 e119
  refine HL.still (Runs.pick e114 e119) ?_
  intro u120 e120
  refine HL.still (Runs.move e120) ?_
  intro u121 e121
  refine HL.stillG rfl rfl e121 (Runs.move g8) ?_
  intro u122 e122
  refine HL.stillG rfl rfl e121 (Runs.lenSl rfl Tryz.underlying26 e122) ?_
  intro u123 e123
  refine HL.stillG rfl rfl e121 (Runs.eql e123 rfl (t := true) rfl) ?_
  intro u124 e124
  refine HL.still (Runs.pick e121 e124) ?_
  intro u125 e125
  refine HL.still (Runs.move e125) ?_
  intro u126 e126
  refine HL.stillG rfl rfl e126 (Runs.move g1) ?_
  intro u127 e127
  refine HL.oneG rfl rfl e126 (HO.call Tryz.func15 bd15 nm15 (args3 e127 rfl rfl) rfl ((q1).mono ?_))
  rintro _ h22 ⟨rfl, X22⟩
  intro u128 e128
  refine HL.stillG rfl rfl e126 (Runs.eql e128 rfl (t := true) rfl) ?_
  intro u129 e129
  refine HL.still (Runs.pick e126 e129) ?_
  intro u130 e130
  refine HL.still (Runs.move e130) ?_
  intro u131 e131
  refine HL.stillG rfl rfl e131 (Runs.move g1) ?_
  intro u132 e132
  refine HL.oneG rfl rfl e131 (HO.call Tryz.func15 bd15 nm15 (args3 e132 rfl rfl) rfl ((q2 h22 X22).mono ?_))
  rintro _ h23 ⟨rfl, X23⟩
  intro u133 e133
  refine HL.stillG rfl rfl e131 (Runs.eql e133 rfl (t := true) rfl) ?_
  intro u134 e134
  refine HL.still (Runs.pick e131 e134) ?_
  intro u135 e135
  refine HL.still (Runs.move e135) ?_
  intro u136 e136
  refine HL.oneG rfl rfl e136 (HO.call Tryz.func16 bd16 nm16 (args3 rfl rfl rfl) rfl ((q3 h23 (X22.ext X23 (Nat.le_refl _))).mono ?_))
  rintro _ h24 ⟨rfl, X24⟩
  intro u137 e137
  refine HL.stillG rfl rfl e136 (Runs.eql e137 rfl (t := true) rfl) ?_
  intro u138 e138
  refine HL.still (Runs.pick e136 e138) ?_
  intro u139 e139
  refine HL.still (Runs.assign e139) ?_
  intro u0 e0
  refine HL.nil ?_
  refine HW.ret ?_
  exact RT.one rfl e0 ⟨rfl, ((E21.ext X22 (Nat.le_refl _)).ext X23 (Nat.le_refl _)).ext X24 (Nat.le_refl _)⟩
end Go.Proofs.YtjopikfkgjbcgaaGreatDoor
