/- What is made: jobj.Int, Text, made, List, Object. -/
import Derived.Test.YtjopikfkgjbcgaaDoorOq
import Derived.Test.YtjopikfkgjbcgaaDoorShelfM
import Derived.Lib.AppendIntMem
import Derived.WalkKit
import Derived.WalkMore
namespace Go.Proofs.YtjopikfkgjbcgaaDoor
set_option linter.unnecessarySimpa false
set_option linter.unusedSimpArgs false
set_option linter.unusedVariables false
open Go.RowKit
theorem itoa_ch (h : Heap) (n : Int) (h0 : -9223372036854775808 ≤ n) (h1 : n ≤ 9223372036854775807) (hP : Plc h) : CH Tryd.prog 46 #[I64 n] h fun v h' => v = .string (strOf (Lib.itoa n)) ∧ Ext h h' :=
  CH.of_below (fun w hw => (Tryd.strconv_Itoa n h0 h1 w (hP w hw).2).mono fun _ w' ⟨a, k, os, b⟩ => ⟨a, by rw [b]; exact Lib.below_grow _ w (Nat.le_refl _) k os⟩) fun h' x => ⟨rfl, x⟩
set_option maxRecDepth 100000 in
theorem same_calls (x : Int) (w : World) : Calls Tryd.prog 48 #[.int .i32 x] w fun e w' => e = .returned (.int .i32 x) ∧ w' = w := by
  go_enter Tryd.func48, Tryd.ntmps48
  go_wp2
  go_ret
  exact ⟨rfl, rfl⟩
/-- A string, of which what is no right character is U+FFFD. -/
def mendO (s : List UInt8) : List UInt8 := Lib.mapD id s
theorem map_ch (h : Heap) (s : List UInt8) (hP : Plc h) (hs : s.length < 35184372088832) : CH Tryd.prog 47 #[.func (.func 48) #[] #[], .string (strOf s)] h fun v h' => v = .string (strOf (mendO s)) ∧ Ext h h' :=
  CH.of_below (fun w hw => (Tryd.strings_Map_runes 48 #[] (fun args w => enters_of Tryd.func48 rfl rfl args w) id (strOf s) w (by rw [strOf_size]; exact hs) (fun W x _ _ => (same_calls (x : Int) W).mono fun _ _ ⟨a, b⟩ => ⟨a, 0, b⟩) (fun x hx => ⟨by simp, by simp only [id]; omega⟩) (hP w hw).1).mono fun _ _ ⟨a, b⟩ => ⟨a, b⟩) fun h' x => ⟨rfl, x⟩
section
variable {ρ : Operand → Value} {h : Heap} {d : Option Tmp} {ty : TypeId} {pos : String} {af : Array Edge} {gd : Option (Nat × Bool)} {K : Value → Heap → Prop} {x y : Operand}
theorem run_bText (k : Int) (s : ByteArray) (w : World) : (Instr.build 37 #[(0, I64 k), (2, .string s)]).run Tryd.prog w = .ok (.agg #[I64 k, .string ⟨#[]⟩, .string s, I64 0]) w := by kernel_rfl
theorem run_bMany (k n : Int) (w : World) : (Instr.build 37 #[(0, I64 k), (3, I64 n)]).run Tryd.prog w = .ok (.agg #[I64 k, .string ⟨#[]⟩, .string ⟨#[]⟩, I64 n]) w := by kernel_rfl
theorem run_val1 (k : Int) (s t : ByteArray) (n : Int) (w : World) : (Instr.buildSlice 22 1 #[(0, .agg #[I64 k, .string s, .string t, I64 n])]).run Tryd.prog w = .ok (.slice (some ⟨w.heap.size, 0, none⟩) 1 1) (w.alloc (.cells #[I64 k, .string s, .string t, I64 n] 37)) := by kernel_rfl
set_option maxRecDepth 10000 in
theorem Runs.buildText {k : Int} {s : List UInt8} (hx : ρ x = I64 k) (hy : ρ y = .string (strOf s)) : Runs Tryd.prog ⟨d, .build 37 #[(0, x), (2, y)], ty, pos, af, gd⟩ ρ h (.agg (encJ (k, [], s, 0)).toArray) := by
  refine Runs.build fun w => ?_
  have e : (#[(0, x), (2, y)] : Array (Nat × Operand)).map (fun (i, x) => (i, ρ x)) = #[(0, I64 k), (2, .string (strOf s))] := by simp [hx, hy]
  rw [e]
  exact run_bText _ _ w
set_option maxRecDepth 10000 in
theorem Runs.buildMany {k n : Int} (hx : ρ x = I64 k) (hy : ρ y = I64 n) : Runs Tryd.prog ⟨d, .build 37 #[(0, x), (3, y)], ty, pos, af, gd⟩ ρ h (.agg (encJ (k, [], [], n)).toArray) := by
  refine Runs.build fun w => ?_
  have e : (#[(0, x), (3, y)] : Array (Nat × Operand)).map (fun (i, x) => (i, ρ x)) = #[(0, I64 k), (3, I64 n)] := by simp [hx, hy]
  rw [e]
  exact run_bMany _ _ w
set_option maxRecDepth 10000 in
theorem HO.val1 (v : JV) (hx : ρ x = .agg (encJ v).toArray) (k : ∀ h', Js h' h.size (some ⟨h.size, 0, none⟩) 1 [v] → Ext h h' → K (.slice (some ⟨h.size, 0, none⟩) 1 1) h') : HO Tryd.prog ⟨d, .buildSlice 22 1 #[(0, x)], ty, pos, af, gd⟩ ρ h K :=
  HO.buildSlice (cells := flJ [v]) (e := 37) (fun w => by
    have e : (#[(0, x)] : Array (Nat × Operand)).map (fun (i, x) => (i, ρ x)) = #[(0, .agg (encJ v).toArray)] := by simp [hx]
    rw [e]
    exact run_val1 _ _ _ _ w) fun h' w => k h' (Js.lit (l := [v]) w (Nat.le_refl _) (show 1 ≤ maxLen by decide)) w.ext
end
def intO (n : Int) : List JV := [(3, [], Lib.itoa n, 0)]
def textO (s : List UInt8) : List JV := [(4, [], mendO s, 0)]
set_option maxRecDepth 10000 in
theorem intJ_ch (h : Heap) (n : Int) (h0 : -9223372036854775808 ≤ n) (h1 : n ≤ 9223372036854775807) (hP : Plc h) : CH Tryd.prog 24 #[I64 n] h fun v h' => ∃ a c, v = .slice a (intO n).length c ∧ Js h' h.size a c (intO n) ∧ Ext h h' := by
  refine CH.of_body Tryd.func24 rfl rfl rfl ?_
  intro f hf
  have p0 : f 0 = I64 n := by rw [hf]; exact fr0_at rfl
  -- region 0
  repeat refine HW.seq ?_
  refine HW.region ?_
  refine HL.still (Runs.assign rfl) ?_
  intro u2 e2
  refine HL.nil ?_
  -- region 1
  repeat refine HW.seq ?_
  refine HW.region ?_
  refine HL.still (Runs.move p0) ?_
  intro u3 e3
  refine HL.one (HO.call Tryd.func46 bd46 nm46 (args1 e3) rfl ((itoa_ch h n h0 h1 hP).mono ?_))
  rintro _ h2 ⟨rfl, X2⟩
  intro u4 e4
  refine HL.still (Runs.buildText (k := 3) rfl e4) ?_
  intro u5 e5
  refine HL.one (HO.val1 (3, [], Lib.itoa n, 0) e5 ?_)
  intro h3 J3 X3
  intro u6 e6
  refine HL.still (Runs.assign e6) ?_
  intro u2 e2
  refine HL.nil ?_
  refine HW.ret ?_
  exact RT.one rfl e2 ⟨_, 1, rfl, J3.low X2.size, X2.ext X3 (Nat.le_refl _)⟩
set_option maxRecDepth 10000 in
theorem textJ_ch (h : Heap) (s : List UInt8) (hs : s.length < 35184372088832) (hP : Plc h) : CH Tryd.prog 25 #[.string (strOf s)] h fun v h' => ∃ a c, v = .slice a (textO s).length c ∧ Js h' h.size a c (textO s) ∧ Ext h h' := by
  refine CH.of_body Tryd.func25 rfl rfl rfl ?_
  intro f hf
  have p0 : f 0 = .string (strOf s) := by rw [hf]; exact fr0_at rfl
  -- region 0
  repeat refine HW.seq ?_
  refine HW.region ?_
  refine HL.still (Runs.assign rfl) ?_
  intro u2 e2
  refine HL.nil ?_
  -- region 1
  repeat refine HW.seq ?_
  refine HW.region ?_
  refine HL.still (Runs.move p0) ?_
  intro u3 e3
  refine HL.one (HO.call Tryd.func47 bd47 nm47 (args2 rfl e3) rfl ((map_ch h s hP hs).mono ?_))
  rintro _ h2 ⟨rfl, X2⟩
  intro u4 e4
  refine HL.still (Runs.assign e4) ?_
  intro u0 e0
  refine HL.nil ?_
  have g0 := e0
  -- region 2
  repeat refine HW.seq ?_
  refine HW.region ?_
  refine HL.still (Runs.move g0) ?_
  intro u5 e5
  refine HL.still (Runs.buildText (k := 4) rfl e5) ?_
  intro u6 e6
  refine HL.one (HO.val1 (4, [], mendO s, 0) e6 ?_)
  intro h3 J3 X3
  intro u7 e7
  refine HL.still (Runs.assign e7) ?_
  intro u2 e2
  refine HL.nil ?_
  refine HW.ret ?_
  exact RT.one rfl e2 ⟨_, 1, rfl, J3.low X2.size, X2.ext X3 (Nat.le_refl _)⟩
end Go.Proofs.YtjopikfkgjbcgaaDoor
