/- The program's tables: sizes, zero values; the library's contracts, told of heaps. -/
import Derived.Test.YtfnippeemboljaaDoorProg
import Derived.Test.YtfnippeemboljaaDoorPp
import Derived.Test.YtfnippeemboljaaDoorMore
import Derived.Test.YtfnippeemboljaaDoorLast
import Derived.Test.YtfnippeemboljaaDoorShelf
import Derived.KernelRfl
namespace Go.Proofs.YtfnippeemboljaaDoor
set_option linter.unnecessarySimpa false
set_option linter.unusedSimpArgs false
set_option linter.unusedVariables false
open Go.RowKit
theorem mixed : Tryd.prog.follows .mixedOrders = true := by kernel_rfl
theorem sz3 : (Tryd.prog.info? 3).map (·.size) = some 1 := by kernel_rfl
theorem sz4 : (Tryd.prog.info? 4).map (·.size) = some 1 := by kernel_rfl
theorem sz5 : (Tryd.prog.info? 5).map (·.size) = some 1 := by kernel_rfl
theorem sz9 : (Tryd.prog.info? 9).map (·.size) = some 1 := by kernel_rfl
theorem sz33 : (Tryd.prog.info? 33).map (·.size) = some 1 := by kernel_rfl
theorem sz64 : (Tryd.prog.info? 64).map (·.size) = some 1 := by kernel_rfl
abbrev S8 (p : Str) : Value := .string (strOf p)
theorem in9 : (Tryd.prog.info? 9).map (fun i => (i.zero, i.size, i.bytes)) = some (some (S8 []), 1, 16) := by kernel_rfl
theorem in3 : (Tryd.prog.info? 3).map (fun i => (i.zero, i.size, i.bytes)) = some (some (.int .i64 0), 1, 8) := by kernel_rfl
theorem one9 : ∀ p : Str, (S8 p).oneCell' = true := fun _ => rfl
theorem zv9 (w : World) : (zeroValue 9).run Tryd.prog w = .ok (S8 []) w := by kernel_rfl
theorem bd2 : Tryd.f2.body.isNone = false := by kernel_rfl
theorem nm2 : (Tryd.f2.name == "runtime.NumGoroutine") = false := by kernel_rfl
theorem bd3 : Tryd.f3.body.isNone = false := by kernel_rfl
theorem nm3 : (Tryd.f3.name == "runtime.NumGoroutine") = false := by kernel_rfl
theorem bd4 : Tryd.f4.body.isNone = false := by kernel_rfl
theorem nm4 : (Tryd.f4.name == "runtime.NumGoroutine") = false := by kernel_rfl
theorem bd5 : Tryd.f5.body.isNone = false := by kernel_rfl
theorem nm5 : (Tryd.f5.name == "runtime.NumGoroutine") = false := by kernel_rfl
theorem bd6 : Tryd.f6.body.isNone = false := by kernel_rfl
theorem nm6 : (Tryd.f6.name == "runtime.NumGoroutine") = false := by kernel_rfl
theorem bd7 : Tryd.f7.body.isNone = false := by kernel_rfl
theorem nm7 : (Tryd.f7.name == "runtime.NumGoroutine") = false := by kernel_rfl
theorem bd8 : Tryd.f8.body.isNone = false := by kernel_rfl
theorem nm8 : (Tryd.f8.name == "runtime.NumGoroutine") = false := by kernel_rfl
theorem bd9 : Tryd.f9.body.isNone = false := by kernel_rfl
theorem nm9 : (Tryd.f9.name == "runtime.NumGoroutine") = false := by kernel_rfl
theorem bd10 : Tryd.f10.body.isNone = false := by kernel_rfl
theorem nm10 : (Tryd.f10.name == "runtime.NumGoroutine") = false := by kernel_rfl
theorem bd11 : Tryd.f11.body.isNone = false := by kernel_rfl
theorem nm11 : (Tryd.f11.name == "runtime.NumGoroutine") = false := by kernel_rfl
theorem bd12 : Tryd.f12.body.isNone = false := by kernel_rfl
theorem nm12 : (Tryd.f12.name == "runtime.NumGoroutine") = false := by kernel_rfl
theorem bd13 : Tryd.f13.body.isNone = false := by kernel_rfl
theorem nm13 : (Tryd.f13.name == "runtime.NumGoroutine") = false := by kernel_rfl
theorem bd14 : Tryd.f14.body.isNone = false := by kernel_rfl
theorem nm14 : (Tryd.f14.name == "runtime.NumGoroutine") = false := by kernel_rfl
theorem bd15 : Tryd.f15.body.isNone = false := by kernel_rfl
theorem nm15 : (Tryd.f15.name == "runtime.NumGoroutine") = false := by kernel_rfl
theorem bd16 : Tryd.f16.body.isNone = false := by kernel_rfl
theorem nm16 : (Tryd.f16.name == "runtime.NumGoroutine") = false := by kernel_rfl
theorem bd17 : Tryd.f17.body.isNone = false := by kernel_rfl
theorem nm17 : (Tryd.f17.name == "runtime.NumGoroutine") = false := by kernel_rfl
theorem bd18 : Tryd.f18.body.isNone = false := by kernel_rfl
theorem nm18 : (Tryd.f18.name == "runtime.NumGoroutine") = false := by kernel_rfl
theorem bd19 : Tryd.f19.body.isNone = false := by kernel_rfl
theorem nm19 : (Tryd.f19.name == "runtime.NumGoroutine") = false := by kernel_rfl
theorem bd20 : Tryd.f20.body.isNone = false := by kernel_rfl
theorem nm20 : (Tryd.f20.name == "runtime.NumGoroutine") = false := by kernel_rfl
theorem bd21 : Tryd.f21.body.isNone = false := by kernel_rfl
theorem nm21 : (Tryd.f21.name == "runtime.NumGoroutine") = false := by kernel_rfl
theorem bd22 : Tryd.f22.body.isNone = false := by kernel_rfl
theorem nm22 : (Tryd.f22.name == "runtime.NumGoroutine") = false := by kernel_rfl
theorem bd23 : Tryd.f23.body.isNone = false := by kernel_rfl
theorem nm23 : (Tryd.f23.name == "runtime.NumGoroutine") = false := by kernel_rfl
theorem bd24 : Tryd.f24.body.isNone = false := by kernel_rfl
theorem nm24 : (Tryd.f24.name == "runtime.NumGoroutine") = false := by kernel_rfl
theorem bd25 : Tryd.f25.body.isNone = false := by kernel_rfl
theorem nm25 : (Tryd.f25.name == "runtime.NumGoroutine") = false := by kernel_rfl
theorem bd26 : Tryd.f26.body.isNone = false := by kernel_rfl
theorem nm26 : (Tryd.f26.name == "runtime.NumGoroutine") = false := by kernel_rfl
theorem bd27 : Tryd.f27.body.isNone = false := by kernel_rfl
theorem nm27 : (Tryd.f27.name == "runtime.NumGoroutine") = false := by kernel_rfl
theorem bd28 : Tryd.f28.body.isNone = false := by kernel_rfl
theorem nm28 : (Tryd.f28.name == "runtime.NumGoroutine") = false := by kernel_rfl
theorem bd29 : Tryd.f29.body.isNone = false := by kernel_rfl
theorem nm29 : (Tryd.f29.name == "runtime.NumGoroutine") = false := by kernel_rfl
theorem bd30 : Tryd.f30.body.isNone = false := by kernel_rfl
theorem nm30 : (Tryd.f30.name == "runtime.NumGoroutine") = false := by kernel_rfl
theorem bd31 : Tryd.f31.body.isNone = false := by kernel_rfl
theorem nm31 : (Tryd.f31.name == "runtime.NumGoroutine") = false := by kernel_rfl
theorem bd32 : Tryd.f32.body.isNone = false := by kernel_rfl
theorem nm32 : (Tryd.f32.name == "runtime.NumGoroutine") = false := by kernel_rfl
theorem bd33 : Tryd.f33.body.isNone = false := by kernel_rfl
theorem nm33 : (Tryd.f33.name == "runtime.NumGoroutine") = false := by kernel_rfl
theorem bd34 : Tryd.f34.body.isNone = false := by kernel_rfl
theorem nm34 : (Tryd.f34.name == "runtime.NumGoroutine") = false := by kernel_rfl
theorem bd35 : Tryd.f35.body.isNone = false := by kernel_rfl
theorem nm35 : (Tryd.f35.name == "runtime.NumGoroutine") = false := by kernel_rfl
theorem bd36 : Tryd.f36.body.isNone = false := by kernel_rfl
theorem nm36 : (Tryd.f36.name == "runtime.NumGoroutine") = false := by kernel_rfl
theorem bd37 : Tryd.f37.body.isNone = false := by kernel_rfl
theorem nm37 : (Tryd.f37.name == "runtime.NumGoroutine") = false := by kernel_rfl
theorem bd38 : Tryd.f38.body.isNone = false := by kernel_rfl
theorem nm38 : (Tryd.f38.name == "runtime.NumGoroutine") = false := by kernel_rfl
theorem bd39 : Tryd.f39.body.isNone = false := by kernel_rfl
theorem nm39 : (Tryd.f39.name == "runtime.NumGoroutine") = false := by kernel_rfl
theorem bd40 : Tryd.f40.body.isNone = false := by kernel_rfl
theorem nm40 : (Tryd.f40.name == "runtime.NumGoroutine") = false := by kernel_rfl
theorem bd41 : Tryd.f41.body.isNone = false := by kernel_rfl
theorem nm41 : (Tryd.f41.name == "runtime.NumGoroutine") = false := by kernel_rfl
theorem bd42 : Tryd.f42.body.isNone = false := by kernel_rfl
theorem nm42 : (Tryd.f42.name == "runtime.NumGoroutine") = false := by kernel_rfl
theorem bd43 : Tryd.f43.body.isNone = false := by kernel_rfl
theorem nm43 : (Tryd.f43.name == "runtime.NumGoroutine") = false := by kernel_rfl
theorem bd44 : Tryd.f44.body.isNone = false := by kernel_rfl
theorem nm44 : (Tryd.f44.name == "runtime.NumGoroutine") = false := by kernel_rfl
theorem bd45 : Tryd.f45.body.isNone = false := by kernel_rfl
theorem nm45 : (Tryd.f45.name == "runtime.NumGoroutine") = false := by kernel_rfl
theorem bd46 : Tryd.f46.body.isNone = false := by kernel_rfl
theorem nm46 : (Tryd.f46.name == "runtime.NumGoroutine") = false := by kernel_rfl
theorem bd47 : Tryd.f47.body.isNone = false := by kernel_rfl
theorem nm47 : (Tryd.f47.name == "runtime.NumGoroutine") = false := by kernel_rfl
theorem bd48 : Tryd.f48.body.isNone = false := by kernel_rfl
theorem nm48 : (Tryd.f48.name == "runtime.NumGoroutine") = false := by kernel_rfl
theorem bd49 : Tryd.f49.body.isNone = false := by kernel_rfl
theorem nm49 : (Tryd.f49.name == "runtime.NumGoroutine") = false := by kernel_rfl
theorem bd50 : Tryd.f50.body.isNone = false := by kernel_rfl
theorem nm50 : (Tryd.f50.name == "runtime.NumGoroutine") = false := by kernel_rfl
theorem bd51 : Tryd.f51.body.isNone = false := by kernel_rfl
theorem nm51 : (Tryd.f51.name == "runtime.NumGoroutine") = false := by kernel_rfl
theorem bd52 : Tryd.f52.body.isNone = false := by kernel_rfl
theorem nm52 : (Tryd.f52.name == "runtime.NumGoroutine") = false := by kernel_rfl
theorem bd54 : Tryd.f54.body.isNone = false := by kernel_rfl
theorem nm54 : (Tryd.f54.name == "runtime.NumGoroutine") = false := by kernel_rfl
theorem bd55 : Tryd.f55.body.isNone = false := by kernel_rfl
theorem nm55 : (Tryd.f55.name == "runtime.NumGoroutine") = false := by kernel_rfl
theorem bd56 : Tryd.f56.body.isNone = false := by kernel_rfl
theorem nm56 : (Tryd.f56.name == "runtime.NumGoroutine") = false := by kernel_rfl
theorem bd57 : Tryd.f57.body.isNone = false := by kernel_rfl
theorem nm57 : (Tryd.f57.name == "runtime.NumGoroutine") = false := by kernel_rfl
theorem bd58 : Tryd.f58.body.isNone = false := by kernel_rfl
theorem nm58 : (Tryd.f58.name == "runtime.NumGoroutine") = false := by kernel_rfl
theorem bd59 : Tryd.f59.body.isNone = false := by kernel_rfl
theorem nm59 : (Tryd.f59.name == "runtime.NumGoroutine") = false := by kernel_rfl
theorem bd60 : Tryd.f60.body.isNone = false := by kernel_rfl
theorem nm60 : (Tryd.f60.name == "runtime.NumGoroutine") = false := by kernel_rfl
theorem bd61 : Tryd.f61.body.isNone = false := by kernel_rfl
theorem nm61 : (Tryd.f61.name == "runtime.NumGoroutine") = false := by kernel_rfl
theorem bd62 : Tryd.f62.body.isNone = false := by kernel_rfl
theorem nm62 : (Tryd.f62.name == "runtime.NumGoroutine") = false := by kernel_rfl
theorem bd64 : Tryd.f64.body.isNone = false := by kernel_rfl
theorem nm64 : (Tryd.f64.name == "runtime.NumGoroutine") = false := by kernel_rfl
theorem bd65 : Tryd.f65.body.isNone = false := by kernel_rfl
theorem nm65 : (Tryd.f65.name == "runtime.NumGoroutine") = false := by kernel_rfl
theorem bd66 : Tryd.f66.body.isNone = false := by kernel_rfl
theorem nm66 : (Tryd.f66.name == "runtime.NumGoroutine") = false := by kernel_rfl
theorem bd67 : Tryd.f67.body.isNone = false := by kernel_rfl
theorem nm67 : (Tryd.f67.name == "runtime.NumGoroutine") = false := by kernel_rfl
theorem bd71 : Tryd.f71.body.isNone = false := by kernel_rfl
theorem nm71 : (Tryd.f71.name == "runtime.NumGoroutine") = false := by kernel_rfl
theorem bd72 : Tryd.f72.body.isNone = false := by kernel_rfl
theorem nm72 : (Tryd.f72.name == "runtime.NumGoroutine") = false := by kernel_rfl
theorem bd73 : Tryd.f73.body.isNone = false := by kernel_rfl
theorem nm73 : (Tryd.f73.name == "runtime.NumGoroutine") = false := by kernel_rfl
theorem bd75 : Tryd.f75.body.isNone = false := by kernel_rfl
theorem nm75 : (Tryd.f75.name == "runtime.NumGoroutine") = false := by kernel_rfl
theorem bd76 : Tryd.f76.body.isNone = false := by kernel_rfl
theorem nm76 : (Tryd.f76.name == "runtime.NumGoroutine") = false := by kernel_rfl
theorem bd98 : Tryd.f98.body.isNone = false := by kernel_rfl
theorem nm98 : (Tryd.f98.name == "runtime.NumGoroutine") = false := by kernel_rfl
section
variable {ρ : Operand → Value} {h : Heap} {d : Option Tmp} {ty : TypeId} {pos : String} {af : Array Edge} {gd : Option (Nat × Bool)} {K : Value → Heap → Prop} {x y : Operand}
theorem run_str1 (p : Str) (w : World) : (Instr.buildSlice 33 1 #[(0, S8 p)]).run Tryd.prog w = .ok (.slice (some ⟨w.heap.size, 0, none⟩) 1 1) (w.alloc (.cells ([p].map S8).toArray 9)) := by kernel_rfl
theorem HO.str1 (p : Str) (hx : ρ x = S8 p) (k : ∀ h', Nw h h' (.cells ([p].map S8).toArray 9 (0, 0)) → K (.slice (some ⟨h.size, 0, none⟩) 1 1) h') : HO Tryd.prog ⟨d, .buildSlice 33 1 #[(0, x)], ty, pos, af, gd⟩ ρ h K :=
  HO.buildSlice (fun w => by
    have e : (#[(0, x)] : Array (Nat × Operand)).map (fun (i, x) => (i, ρ x)) = #[(0, S8 p)] := by simp [hx]
    rw [e]
    exact run_str1 p w) k
end
/-- A slice of strings. -/
abbrev Sts (h : Heap) (a : Option Addr) (l : List Str) : Prop := Row S8 ([] : Str) h a l
theorem CH.same {P : Program} {fn : FuncId} {args : Array Value} {h : Heap} {v : Value} (c : CH P fn args h fun x h' => x = v ∧ h' = h) : CH P fn args h fun x h' => x = v ∧ Ext h h' :=
  c.mono fun _ _ q => ⟨q.1, by rw [q.2]; exact Bel.refl _ _⟩
theorem CH.kit {P : Program} {fn : FuncId} {args : Array Value} {h : Heap} {v : Value} (c : ∀ w, Calls P fn args w fun e w' => e = .returned v ∧ w' = w) : CH P fn args h fun x h' => x = v ∧ h' = h :=
  CH.of_same (fun w _ => (c w).mono fun _ _ ⟨q, r⟩ => ⟨q, r.symm⟩) ⟨rfl, rfl⟩
theorem dataOf (s : Str) : (strOf s).data.toList = s := rfl
theorem index1_ch (h : Heap) (s : Str) (c : UInt8) : CH Tryd.prog 54 #[S8 s, S8 [c]] h fun v h' => v = I64 (Go.Lib.indexByte s c) ∧ h' = h := CH.kit fun w => Tryd.strings_Index_one (strOf s) c w
theorem index0_ch (h : Heap) (s : Str) (c : UInt8) : CH Tryd.prog 62 #[S8 s, S8 [c]] h fun v h' => v = I64 (Go.Lib.indexByte s c) ∧ h' = h := CH.kit fun w => Tryd.stringslite_Index_one (strOf s) c w
theorem count1_ch (h : Heap) (s : Str) (c : UInt8) : CH Tryd.prog 32 #[S8 s, S8 [c]] h fun v h' => v = I64 ((s.count c : Nat) : Int) ∧ h' = h := CH.kit fun w => Tryd.strings_Count_one (strOf s) c w
theorem cmpS_ch (h : Heap) (a b : Str) : CH Tryd.prog 30 #[S8 a, S8 b] h fun v h' => v = I64 (Go.Lib.compareBytes a b) ∧ h' = h := CH.kit fun w => Tryd.strings_Compare (strOf a) (strOf b) w
theorem cmpI_ch (h : Heap) (a b : Int) : CH Tryd.prog 31 #[I64 a, I64 b] h fun v h' => v = I64 (Go.Lib.compareInt a b) ∧ h' = h := CH.kit fun w => Tryd.cmp_Compare_int a b w
theorem idxB_ch (h : Heap) (s : Str) (c : UInt8) : CH Tryd.prog 58 #[S8 s, B8 c] h fun v h' => v = I64 (Go.Lib.indexByte s c) ∧ h' = h := CH.kit fun w => by
  have h1 := Tryd.strings_IndexByte (strOf s) (c.toNat : Int) w
  have e : ((c.toNat : Int)).toNat.toUInt8 = c := by simp
  rw [e] at h1
  exact h1
theorem hasPre_ch (h : Heap) (s p : Str) : CH Tryd.prog 35 #[S8 s, S8 p] h fun v h' => v = .bool (p.isPrefixOf s) ∧ h' = h := CH.kit fun w => Tryd.strings_HasPrefix (strOf s) (strOf p) w
theorem cutPre_ch (h : Heap) (s p : Str) : CH Tryd.prog 36 #[S8 s, S8 p] h fun v h' => v = .tuple #[S8 (if p.isPrefixOf s = true then s.drop p.length else s), .bool (p.isPrefixOf s)] ∧ h' = h := CH.kit fun w => Tryd.strings_CutPrefix (strOf s) (strOf p) w
theorem last1_ch (h : Heap) (s : Str) (hs : s.length < 4611686018427387904) : CH Tryd.prog 55 #[S8 s, S8 [47]] h fun v h' => v = I64 (Go.Lib.lastIndexByte (strOf s) 47) ∧ h' = h := CH.kit fun w => Tryd.strings_LastIndex_one (strOf s) (strOf [47]) rfl (by rw [strOf_size]; exact hs) w
theorem join_ch (h : Heap) (l : List Str) (n : Nat) (a : Option Addr) (cap : Nat) (hn : n = l.length) (hsrc : Sts h a l) (hcap : l.length ≤ cap) (hl : l.length ≤ 140737488355328) (hj : (joinS l).length ≤ 140737488355328) : CH Tryd.prog 24 #[.slice a n cap, S8 [47]] h fun v h' => v = S8 (joinS l) ∧ Ext h h' := by
  subst hn
  rcases hsrc with rfl | ⟨sb, so, rfl, hc⟩
  · exact (CH.kit fun w => Tryd.strings_Join_none a cap (strOf [47]) w).same
  · by_cases h0 : l = []
    · subst h0
      exact (CH.kit fun w => Tryd.strings_Join_none _ cap (strOf [47]) w).same
    · intro w hw
      subst hw
      have hpos := List.length_pos_iff.2 h0
      have hbk := lt_of_cellH (hc 0 hpos)
      have h1 := Tryd.strings_Join sb so cap (l.map strOf) (strOf [47]) w (fun j x hj => by
        rw [cell_cellH]
        rw [List.getElem?_map, Option.map_eq_some_iff] at hj
        obtain ⟨p, hp, rfl⟩ := hj
        have hlt := (List.getElem?_eq_some_iff.1 hp).1
        rw [hc j hlt, List.getD_eq_getElem?_getD, hp]
        rfl) hbk (by rw [List.length_map]; exact hl) (by rw [List.length_map]; exact hcap) (by
        rw [List.map_map]
        have : l.map ((fun x : ByteArray => x.data.toList) ∘ strOf) = l := by
          conv => rhs; rw [← List.map_id l]
          rfl
        rw [this]
        exact hj)
      rw [List.length_map] at h1
      refine h1.mono fun e w' ⟨q, r⟩ => ⟨_, q, (bel_of_below r).1, ?_, (bel_of_below r).2⟩
      rw [List.map_map]
      have : l.map ((fun x : ByteArray => x.data.toList) ∘ strOf) = l := by
        conv => rhs; rw [← List.map_id l]
        rfl
      rw [this]
      rfl
theorem getD_set_self {α : Type} (l : List α) (k : Nat) (x z : α) (h : k < l.length) : (l.set k x).getD k z = x := by
  simp [h]
theorem getD_set_ne {α : Type} (l : List α) (k j : Nat) (x z : α) (h : k ≠ j) : (l.set k x).getD j z = l.getD j z := by
  simp [h]
theorem get_of_lt {s : Str} {k : Nat} (h : k < s.length) : s[k]? = some (s.getD k 0) := by
  rw [List.getElem?_eq_getElem h]
  simp [h]
theorem u8_ne {x y : UInt8} (h : x ≠ y) : (x.toNat : Int) ≠ (y.toNat : Int) := fun e => h (UInt8.toNat_inj.1 (by omega))
theorem drop_at {xs : Str} {k : Nat} (hk : k < xs.length) : xs.drop k = xs.getD k 0 :: xs.drop (k + 1) := by
  rw [List.drop_eq_getElem_cons hk]
  simp [hk]
end Go.Proofs.YtfnippeemboljaaDoor
