/- The program's tables: sizes, zero values, names. -/
import Derived.Test.YtfogkggkjmkdiaaDoorProg
import Derived.Test.YtfogkggkjmkdiaaDoorStrs
import Derived.Test.YtfogkggkjmkdiaaDoorMore
import Derived.Test.YtfogkggkjmkdiaaDoorLast
import Derived.KernelRfl
namespace Go.Proofs.YtfogkggkjmkdiaaDoor
set_option linter.unnecessarySimpa false
set_option linter.unusedSimpArgs false
set_option linter.unusedVariables false
open Go.RowKit
theorem mixed : Tryd.prog.follows .mixedOrders = true := by kernel_rfl
theorem sz3 : (Tryd.prog.info? 3).map (·.size) = some 1 := by kernel_rfl
theorem sz4 : (Tryd.prog.info? 4).map (·.size) = some 1 := by kernel_rfl
theorem sz5 : (Tryd.prog.info? 5).map (·.size) = some 1 := by kernel_rfl
theorem sz9 : (Tryd.prog.info? 9).map (·.size) = some 1 := by kernel_rfl
theorem sz21 : (Tryd.prog.info? 21).map (·.size) = some 1 := by kernel_rfl
theorem sz22 : (Tryd.prog.info? 22).map (·.size) = some 1 := by kernel_rfl
theorem sz36 : (Tryd.prog.info? 36).map (·.size) = some 10 := by kernel_rfl
theorem sz37 : (Tryd.prog.info? 37).map (·.size) = some 1 := by kernel_rfl
theorem sz48 : (Tryd.prog.info? 48).map (·.size) = some 1 := by kernel_rfl
theorem sz52 : (Tryd.prog.info? 52).map (·.size) = some 7 := by kernel_rfl
theorem sz54 : (Tryd.prog.info? 54).map (·.size) = some 2 := by kernel_rfl
theorem sz55 : (Tryd.prog.info? 55).map (·.size) = some 14 := by kernel_rfl
theorem sz66 : (Tryd.prog.info? 66).map (·.size) = some 256 := by kernel_rfl
theorem sz91 : (Tryd.prog.info? 91).map (·.size) = some 1 := by kernel_rfl
theorem in5 : (Tryd.prog.info? 5).map (fun i => (i.zero, i.size, i.bytes)) = some (some (.int .u8 0), 1, 1) := by kernel_rfl
theorem in3 : (Tryd.prog.info? 3).map (fun i => (i.zero, i.size, i.bytes)) = some (some (.int .i64 0), 1, 8) := by kernel_rfl
abbrev Vb (t : Bool) : Value := .bool t
theorem zr66 : (Tryd.prog.info? 66).map (·.zero) = some (some (.agg ((List.replicate 256 false).map Vb).toArray)) := by kernel_rfl
theorem nx62 : (Tryd.f62.name == "runtime.NumGoroutine") = false := by kernel_rfl
theorem bx62 : Tryd.f62.body.isNone = true := by kernel_rfl
theorem ex62 : Extern.findNext Tryd.f62 = none := by kernel_rfl
theorem fx62 : Extern.find Tryd.f62 = some Extern.BytealgIndexByte.indexByte := by kernel_rfl
theorem bd2 : Tryd.f2.body.isNone = false := by kernel_rfl
theorem nm2 : (Tryd.f2.name == "runtime.NumGoroutine") = false := by kernel_rfl
theorem bd3 : Tryd.f3.body.isNone = false := by kernel_rfl
theorem nm3 : (Tryd.f3.name == "runtime.NumGoroutine") = false := by kernel_rfl
theorem bd4 : Tryd.f4.body.isNone = false := by kernel_rfl
theorem nm4 : (Tryd.f4.name == "runtime.NumGoroutine") = false := by kernel_rfl
theorem bd5 : Tryd.f5.body.isNone = false := by kernel_rfl
theorem nm5 : (Tryd.f5.name == "runtime.NumGoroutine") = false := by kernel_rfl
theorem bd6 : Tryd.f6.body.isNone = false := by kernel_rfl
theorem nm6 : (Tryd.f6.name == "runtime.NumGoroutine") = false := by kernel_rfl
theorem bd7 : Tryd.f7.body.isNone = false := by kernel_rfl
theorem nm7 : (Tryd.f7.name == "runtime.NumGoroutine") = false := by kernel_rfl
theorem bd8 : Tryd.f8.body.isNone = false := by kernel_rfl
theorem nm8 : (Tryd.f8.name == "runtime.NumGoroutine") = false := by kernel_rfl
theorem bd9 : Tryd.f9.body.isNone = false := by kernel_rfl
theorem nm9 : (Tryd.f9.name == "runtime.NumGoroutine") = false := by kernel_rfl
theorem bd10 : Tryd.f10.body.isNone = false := by kernel_rfl
theorem nm10 : (Tryd.f10.name == "runtime.NumGoroutine") = false := by kernel_rfl
theorem bd11 : Tryd.f11.body.isNone = false := by kernel_rfl
theorem nm11 : (Tryd.f11.name == "runtime.NumGoroutine") = false := by kernel_rfl
theorem bd12 : Tryd.f12.body.isNone = false := by kernel_rfl
theorem nm12 : (Tryd.f12.name == "runtime.NumGoroutine") = false := by kernel_rfl
theorem bd13 : Tryd.f13.body.isNone = false := by kernel_rfl
theorem nm13 : (Tryd.f13.name == "runtime.NumGoroutine") = false := by kernel_rfl
theorem bd14 : Tryd.f14.body.isNone = false := by kernel_rfl
theorem nm14 : (Tryd.f14.name == "runtime.NumGoroutine") = false := by kernel_rfl
theorem bd15 : Tryd.f15.body.isNone = false := by kernel_rfl
theorem nm15 : (Tryd.f15.name == "runtime.NumGoroutine") = false := by kernel_rfl
theorem bd16 : Tryd.f16.body.isNone = false := by kernel_rfl
theorem nm16 : (Tryd.f16.name == "runtime.NumGoroutine") = false := by kernel_rfl
theorem bd17 : Tryd.f17.body.isNone = false := by kernel_rfl
theorem nm17 : (Tryd.f17.name == "runtime.NumGoroutine") = false := by kernel_rfl
theorem bd18 : Tryd.f18.body.isNone = false := by kernel_rfl
theorem nm18 : (Tryd.f18.name == "runtime.NumGoroutine") = false := by kernel_rfl
theorem bd19 : Tryd.f19.body.isNone = false := by kernel_rfl
theorem nm19 : (Tryd.f19.name == "runtime.NumGoroutine") = false := by kernel_rfl
theorem bd20 : Tryd.f20.body.isNone = false := by kernel_rfl
theorem nm20 : (Tryd.f20.name == "runtime.NumGoroutine") = false := by kernel_rfl
theorem bd21 : Tryd.f21.body.isNone = false := by kernel_rfl
theorem nm21 : (Tryd.f21.name == "runtime.NumGoroutine") = false := by kernel_rfl
theorem bd22 : Tryd.f22.body.isNone = false := by kernel_rfl
theorem nm22 : (Tryd.f22.name == "runtime.NumGoroutine") = false := by kernel_rfl
theorem bd23 : Tryd.f23.body.isNone = false := by kernel_rfl
theorem nm23 : (Tryd.f23.name == "runtime.NumGoroutine") = false := by kernel_rfl
theorem bd24 : Tryd.f24.body.isNone = false := by kernel_rfl
theorem nm24 : (Tryd.f24.name == "runtime.NumGoroutine") = false := by kernel_rfl
theorem bd25 : Tryd.f25.body.isNone = false := by kernel_rfl
theorem nm25 : (Tryd.f25.name == "runtime.NumGoroutine") = false := by kernel_rfl
theorem bd26 : Tryd.f26.body.isNone = false := by kernel_rfl
theorem nm26 : (Tryd.f26.name == "runtime.NumGoroutine") = false := by kernel_rfl
theorem bd27 : Tryd.f27.body.isNone = false := by kernel_rfl
theorem nm27 : (Tryd.f27.name == "runtime.NumGoroutine") = false := by kernel_rfl
theorem bd28 : Tryd.f28.body.isNone = false := by kernel_rfl
theorem nm28 : (Tryd.f28.name == "runtime.NumGoroutine") = false := by kernel_rfl
theorem bd29 : Tryd.f29.body.isNone = false := by kernel_rfl
theorem nm29 : (Tryd.f29.name == "runtime.NumGoroutine") = false := by kernel_rfl
theorem bd30 : Tryd.f30.body.isNone = false := by kernel_rfl
theorem nm30 : (Tryd.f30.name == "runtime.NumGoroutine") = false := by kernel_rfl
theorem bd31 : Tryd.f31.body.isNone = false := by kernel_rfl
theorem nm31 : (Tryd.f31.name == "runtime.NumGoroutine") = false := by kernel_rfl
theorem bd32 : Tryd.f32.body.isNone = false := by kernel_rfl
theorem nm32 : (Tryd.f32.name == "runtime.NumGoroutine") = false := by kernel_rfl
theorem bd33 : Tryd.f33.body.isNone = false := by kernel_rfl
theorem nm33 : (Tryd.f33.name == "runtime.NumGoroutine") = false := by kernel_rfl
theorem bd34 : Tryd.f34.body.isNone = false := by kernel_rfl
theorem nm34 : (Tryd.f34.name == "runtime.NumGoroutine") = false := by kernel_rfl
theorem bd35 : Tryd.f35.body.isNone = false := by kernel_rfl
theorem nm35 : (Tryd.f35.name == "runtime.NumGoroutine") = false := by kernel_rfl
theorem bd36 : Tryd.f36.body.isNone = false := by kernel_rfl
theorem nm36 : (Tryd.f36.name == "runtime.NumGoroutine") = false := by kernel_rfl
theorem bd37 : Tryd.f37.body.isNone = false := by kernel_rfl
theorem nm37 : (Tryd.f37.name == "runtime.NumGoroutine") = false := by kernel_rfl
theorem bd38 : Tryd.f38.body.isNone = false := by kernel_rfl
theorem nm38 : (Tryd.f38.name == "runtime.NumGoroutine") = false := by kernel_rfl
theorem bd39 : Tryd.f39.body.isNone = false := by kernel_rfl
theorem nm39 : (Tryd.f39.name == "runtime.NumGoroutine") = false := by kernel_rfl
theorem bd40 : Tryd.f40.body.isNone = false := by kernel_rfl
theorem nm40 : (Tryd.f40.name == "runtime.NumGoroutine") = false := by kernel_rfl
theorem bd41 : Tryd.f41.body.isNone = false := by kernel_rfl
theorem nm41 : (Tryd.f41.name == "runtime.NumGoroutine") = false := by kernel_rfl
theorem bd42 : Tryd.f42.body.isNone = false := by kernel_rfl
theorem nm42 : (Tryd.f42.name == "runtime.NumGoroutine") = false := by kernel_rfl
theorem bd43 : Tryd.f43.body.isNone = false := by kernel_rfl
theorem nm43 : (Tryd.f43.name == "runtime.NumGoroutine") = false := by kernel_rfl
theorem bd44 : Tryd.f44.body.isNone = false := by kernel_rfl
theorem nm44 : (Tryd.f44.name == "runtime.NumGoroutine") = false := by kernel_rfl
theorem bd45 : Tryd.f45.body.isNone = false := by kernel_rfl
theorem nm45 : (Tryd.f45.name == "runtime.NumGoroutine") = false := by kernel_rfl
theorem bd46 : Tryd.f46.body.isNone = false := by kernel_rfl
theorem nm46 : (Tryd.f46.name == "runtime.NumGoroutine") = false := by kernel_rfl
theorem bd47 : Tryd.f47.body.isNone = false := by kernel_rfl
theorem nm47 : (Tryd.f47.name == "runtime.NumGoroutine") = false := by kernel_rfl
theorem bd48 : Tryd.f48.body.isNone = false := by kernel_rfl
theorem nm48 : (Tryd.f48.name == "runtime.NumGoroutine") = false := by kernel_rfl
theorem bd49 : Tryd.f49.body.isNone = false := by kernel_rfl
theorem nm49 : (Tryd.f49.name == "runtime.NumGoroutine") = false := by kernel_rfl
theorem bd50 : Tryd.f50.body.isNone = false := by kernel_rfl
theorem nm50 : (Tryd.f50.name == "runtime.NumGoroutine") = false := by kernel_rfl
theorem bd51 : Tryd.f51.body.isNone = false := by kernel_rfl
theorem nm51 : (Tryd.f51.name == "runtime.NumGoroutine") = false := by kernel_rfl
theorem bd52 : Tryd.f52.body.isNone = false := by kernel_rfl
theorem nm52 : (Tryd.f52.name == "runtime.NumGoroutine") = false := by kernel_rfl
theorem bd53 : Tryd.f53.body.isNone = false := by kernel_rfl
theorem nm53 : (Tryd.f53.name == "runtime.NumGoroutine") = false := by kernel_rfl
theorem bd54 : Tryd.f54.body.isNone = false := by kernel_rfl
theorem nm54 : (Tryd.f54.name == "runtime.NumGoroutine") = false := by kernel_rfl
theorem bd55 : Tryd.f55.body.isNone = false := by kernel_rfl
theorem nm55 : (Tryd.f55.name == "runtime.NumGoroutine") = false := by kernel_rfl
theorem bd56 : Tryd.f56.body.isNone = false := by kernel_rfl
theorem nm56 : (Tryd.f56.name == "runtime.NumGoroutine") = false := by kernel_rfl
theorem bd57 : Tryd.f57.body.isNone = false := by kernel_rfl
theorem nm57 : (Tryd.f57.name == "runtime.NumGoroutine") = false := by kernel_rfl
theorem bd58 : Tryd.f58.body.isNone = false := by kernel_rfl
theorem nm58 : (Tryd.f58.name == "runtime.NumGoroutine") = false := by kernel_rfl
theorem bd59 : Tryd.f59.body.isNone = false := by kernel_rfl
theorem nm59 : (Tryd.f59.name == "runtime.NumGoroutine") = false := by kernel_rfl
theorem bd60 : Tryd.f60.body.isNone = false := by kernel_rfl
theorem nm60 : (Tryd.f60.name == "runtime.NumGoroutine") = false := by kernel_rfl
theorem bd61 : Tryd.f61.body.isNone = false := by kernel_rfl
theorem nm61 : (Tryd.f61.name == "runtime.NumGoroutine") = false := by kernel_rfl
theorem bd63 : Tryd.f63.body.isNone = false := by kernel_rfl
theorem nm63 : (Tryd.f63.name == "runtime.NumGoroutine") = false := by kernel_rfl
theorem bd64 : Tryd.f64.body.isNone = false := by kernel_rfl
theorem nm64 : (Tryd.f64.name == "runtime.NumGoroutine") = false := by kernel_rfl
theorem bd88 : Tryd.f88.body.isNone = false := by kernel_rfl
theorem nm88 : (Tryd.f88.name == "runtime.NumGoroutine") = false := by kernel_rfl
section
variable {ρ : Operand → Value} {h : Heap} {d : Option Tmp} {ty : TypeId} {pos : String} {af : Array Edge} {gd : Option (Nat × Bool)} {K : Value → Heap → Prop} {x y : Operand}
theorem run_bytes0 (w : World) : (Instr.buildSlice 22 0 #[]).run Tryd.prog w = .ok (.slice (some ⟨w.heap.size, 0, none⟩) 0 0) (w.alloc (.cells (([] : List UInt8).map B8).toArray 5)) := by kernel_rfl
theorem HO.bytes0 (k : ∀ h', Nw h h' (.cells (([] : List UInt8).map B8).toArray 5 (0, 0)) → K (.slice (some ⟨h.size, 0, none⟩) 0 0) h') : HO Tryd.prog ⟨d, .buildSlice 22 0 #[], ty, pos, af, gd⟩ ρ h K :=
  HO.buildSlice (fun w => by
    have e : (#[] : Array (Nat × Operand)).map (fun (i, x) => (i, ρ x)) = #[] := by simp
    rw [e]
    exact run_bytes0 w) k
theorem run_bytes1 (c : UInt8) (w : World) : (Instr.buildSlice 22 1 #[(0, B8 c)]).run Tryd.prog w = .ok (.slice (some ⟨w.heap.size, 0, none⟩) 1 1) (w.alloc (.cells ([c].map B8).toArray 5)) := by kernel_rfl
theorem HO.bytes1 (c : UInt8) (hx : ρ x = B8 c) (k : ∀ h', Nw h h' (.cells ([c].map B8).toArray 5 (0, 0)) → K (.slice (some ⟨h.size, 0, none⟩) 1 1) h') : HO Tryd.prog ⟨d, .buildSlice 22 1 #[(0, x)], ty, pos, af, gd⟩ ρ h K :=
  HO.buildSlice (fun w => by
    have e : (#[(0, x)] : Array (Nat × Operand)).map (fun (i, x) => (i, ρ x)) = #[(0, B8 c)] := by simp [hx]
    rw [e]
    exact run_bytes1 c w) k
theorem run_two (x y : UInt8) (w : World) : (Instr.buildSlice 22 2 #[(0, B8 x), (1, B8 y)]).run Tryd.prog w = .ok (.slice (some ⟨w.heap.size, 0, none⟩) 2 2) (w.alloc (.cells ([x, y].map B8).toArray 5)) := by kernel_rfl
theorem HO.bytes2 (a b : UInt8) (h0 : ρ x = B8 a) (h1 : ρ y = B8 b) (k : ∀ h', Nw h h' (.cells ([a, b].map B8).toArray 5 (0, 0)) → K (.slice (some ⟨h.size, 0, none⟩) 2 2) h') : HO Tryd.prog ⟨d, .buildSlice 22 2 #[(0, x), (1, y)], ty, pos, af, gd⟩ ρ h K :=
  HO.buildSlice (fun w => by
    have e : (#[(0, x), (1, y)] : Array (Nat × Operand)).map (fun (i, x) => (i, ρ x)) = #[(0, B8 a), (1, B8 b)] := by simp [h0, h1]
    rw [e]
    exact run_two a b w) k
end
theorem CH.same {P : Program} {fn : FuncId} {args : Array Value} {h : Heap} {v : Value} (c : CH P fn args h fun x h' => x = v ∧ h' = h) : CH P fn args h fun x h' => x = v ∧ Ext h h' :=
  c.mono fun _ _ q => ⟨q.1, by rw [q.2]; exact Bel.refl _ _⟩
theorem getD_set_self {α : Type} (l : List α) (k : Nat) (x z : α) (h : k < l.length) : (l.set k x).getD k z = x := by
  simp [h]
theorem getD_set_ne {α : Type} (l : List α) (k j : Nat) (x z : α) (h : k ≠ j) : (l.set k x).getD j z = l.getD j z := by
  simp [h]
end Go.Proofs.YtfogkggkjmkdiaaDoor
