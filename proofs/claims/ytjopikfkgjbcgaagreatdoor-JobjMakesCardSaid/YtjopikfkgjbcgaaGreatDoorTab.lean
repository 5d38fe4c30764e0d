/- The program's tables: sizes, zero values, names. -/
import Derived.Test.YtjopikfkgjbcgaaGreatDoorProg
import Derived.Test.YtjopikfkgjbcgaaGreatDoorOps
import Derived.Test.YtjopikfkgjbcgaaGreatDoorStrs
import Derived.Test.YtjopikfkgjbcgaaGreatDoorBase
import Derived.KernelRfl
import Derived.Test.YtjopikfkgjbcgaaGreatDoorRw
namespace Go.Proofs.YtjopikfkgjbcgaaGreatDoor
set_option linter.unnecessarySimpa false
set_option linter.unusedSimpArgs false
set_option linter.unusedVariables false
theorem mixed : Tryz.prog.follows .mixedOrders = true := by kernel_rfl
theorem sz3 : (Tryz.prog.info? 3).map (·.size) = some 1 := by kernel_rfl
theorem sz4 : (Tryz.prog.info? 4).map (·.size) = some 1 := by kernel_rfl
theorem sz5 : (Tryz.prog.info? 5).map (·.size) = some 1 := by kernel_rfl
theorem sz9 : (Tryz.prog.info? 9).map (·.size) = some 1 := by kernel_rfl
theorem sz26 : (Tryz.prog.info? 26).map (·.size) = some 1 := by kernel_rfl
theorem sz41 : (Tryz.prog.info? 41).map (·.size) = some 4 := by kernel_rfl
theorem bd2 : Tryz.f2.body.isNone = false := by kernel_rfl
theorem nm2 : (Tryz.f2.name == "runtime.NumGoroutine") = false := by kernel_rfl
theorem bd3 : Tryz.f3.body.isNone = false := by kernel_rfl
theorem nm3 : (Tryz.f3.name == "runtime.NumGoroutine") = false := by kernel_rfl
theorem bd4 : Tryz.f4.body.isNone = false := by kernel_rfl
theorem nm4 : (Tryz.f4.name == "runtime.NumGoroutine") = false := by kernel_rfl
theorem bd5 : Tryz.f5.body.isNone = false := by kernel_rfl
theorem nm5 : (Tryz.f5.name == "runtime.NumGoroutine") = false := by kernel_rfl
theorem bd6 : Tryz.f6.body.isNone = false := by kernel_rfl
theorem nm6 : (Tryz.f6.name == "runtime.NumGoroutine") = false := by kernel_rfl
theorem bd7 : Tryz.f7.body.isNone = false := by kernel_rfl
theorem nm7 : (Tryz.f7.name == "runtime.NumGoroutine") = false := by kernel_rfl
theorem bd8 : Tryz.f8.body.isNone = false := by kernel_rfl
theorem nm8 : (Tryz.f8.name == "runtime.NumGoroutine") = false := by kernel_rfl
theorem bd9 : Tryz.f9.body.isNone = false := by kernel_rfl
theorem nm9 : (Tryz.f9.name == "runtime.NumGoroutine") = false := by kernel_rfl
theorem bd10 : Tryz.f10.body.isNone = false := by kernel_rfl
theorem nm10 : (Tryz.f10.name == "runtime.NumGoroutine") = false := by kernel_rfl
theorem bd11 : Tryz.f11.body.isNone = false := by kernel_rfl
theorem nm11 : (Tryz.f11.name == "runtime.NumGoroutine") = false := by kernel_rfl
theorem bd12 : Tryz.f12.body.isNone = false := by kernel_rfl
theorem nm12 : (Tryz.f12.name == "runtime.NumGoroutine") = false := by kernel_rfl
theorem bd13 : Tryz.f13.body.isNone = false := by kernel_rfl
theorem nm13 : (Tryz.f13.name == "runtime.NumGoroutine") = false := by kernel_rfl
theorem bd14 : Tryz.f14.body.isNone = false := by kernel_rfl
theorem nm14 : (Tryz.f14.name == "runtime.NumGoroutine") = false := by kernel_rfl
theorem bd15 : Tryz.f15.body.isNone = false := by kernel_rfl
theorem nm15 : (Tryz.f15.name == "runtime.NumGoroutine") = false := by kernel_rfl
theorem bd16 : Tryz.f16.body.isNone = false := by kernel_rfl
theorem nm16 : (Tryz.f16.name == "runtime.NumGoroutine") = false := by kernel_rfl
theorem bd17 : Tryz.f17.body.isNone = false := by kernel_rfl
theorem nm17 : (Tryz.f17.name == "runtime.NumGoroutine") = false := by kernel_rfl
theorem bd18 : Tryz.f18.body.isNone = false := by kernel_rfl
theorem nm18 : (Tryz.f18.name == "runtime.NumGoroutine") = false := by kernel_rfl
theorem bd19 : Tryz.f19.body.isNone = false := by kernel_rfl
theorem nm19 : (Tryz.f19.name == "runtime.NumGoroutine") = false := by kernel_rfl
theorem bd20 : Tryz.f20.body.isNone = false := by kernel_rfl
theorem nm20 : (Tryz.f20.name == "runtime.NumGoroutine") = false := by kernel_rfl
theorem bd21 : Tryz.f21.body.isNone = false := by kernel_rfl
theorem nm21 : (Tryz.f21.name == "runtime.NumGoroutine") = false := by kernel_rfl
theorem bd22 : Tryz.f22.body.isNone = false := by kernel_rfl
theorem nm22 : (Tryz.f22.name == "runtime.NumGoroutine") = false := by kernel_rfl
theorem bd23 : Tryz.f23.body.isNone = false := by kernel_rfl
theorem nm23 : (Tryz.f23.name == "runtime.NumGoroutine") = false := by kernel_rfl
theorem bd24 : Tryz.f24.body.isNone = false := by kernel_rfl
theorem nm24 : (Tryz.f24.name == "runtime.NumGoroutine") = false := by kernel_rfl
theorem bd25 : Tryz.f25.body.isNone = false := by kernel_rfl
theorem nm25 : (Tryz.f25.name == "runtime.NumGoroutine") = false := by kernel_rfl
theorem bd26 : Tryz.f26.body.isNone = false := by kernel_rfl
theorem nm26 : (Tryz.f26.name == "runtime.NumGoroutine") = false := by kernel_rfl
theorem bd27 : Tryz.f27.body.isNone = false := by kernel_rfl
theorem nm27 : (Tryz.f27.name == "runtime.NumGoroutine") = false := by kernel_rfl
theorem bd28 : Tryz.f28.body.isNone = false := by kernel_rfl
theorem nm28 : (Tryz.f28.name == "runtime.NumGoroutine") = false := by kernel_rfl
theorem bd29 : Tryz.f29.body.isNone = false := by kernel_rfl
theorem nm29 : (Tryz.f29.name == "runtime.NumGoroutine") = false := by kernel_rfl
theorem bd30 : Tryz.f30.body.isNone = false := by kernel_rfl
theorem nm30 : (Tryz.f30.name == "runtime.NumGoroutine") = false := by kernel_rfl
theorem bd31 : Tryz.f31.body.isNone = false := by kernel_rfl
theorem nm31 : (Tryz.f31.name == "runtime.NumGoroutine") = false := by kernel_rfl
theorem bd32 : Tryz.f32.body.isNone = false := by kernel_rfl
theorem nm32 : (Tryz.f32.name == "runtime.NumGoroutine") = false := by kernel_rfl
theorem bd33 : Tryz.f33.body.isNone = false := by kernel_rfl
theorem nm33 : (Tryz.f33.name == "runtime.NumGoroutine") = false := by kernel_rfl
theorem bd34 : Tryz.f34.body.isNone = false := by kernel_rfl
theorem nm34 : (Tryz.f34.name == "runtime.NumGoroutine") = false := by kernel_rfl
theorem bd35 : Tryz.f35.body.isNone = false := by kernel_rfl
theorem nm35 : (Tryz.f35.name == "runtime.NumGoroutine") = false := by kernel_rfl
theorem bd36 : Tryz.f36.body.isNone = false := by kernel_rfl
theorem nm36 : (Tryz.f36.name == "runtime.NumGoroutine") = false := by kernel_rfl
theorem bd37 : Tryz.f37.body.isNone = false := by kernel_rfl
theorem nm37 : (Tryz.f37.name == "runtime.NumGoroutine") = false := by kernel_rfl
theorem bd38 : Tryz.f38.body.isNone = false := by kernel_rfl
theorem nm38 : (Tryz.f38.name == "runtime.NumGoroutine") = false := by kernel_rfl
theorem bd39 : Tryz.f39.body.isNone = false := by kernel_rfl
theorem nm39 : (Tryz.f39.name == "runtime.NumGoroutine") = false := by kernel_rfl
theorem bd40 : Tryz.f40.body.isNone = false := by kernel_rfl
theorem nm40 : (Tryz.f40.name == "runtime.NumGoroutine") = false := by kernel_rfl
theorem bd41 : Tryz.f41.body.isNone = false := by kernel_rfl
theorem nm41 : (Tryz.f41.name == "runtime.NumGoroutine") = false := by kernel_rfl
theorem bd42 : Tryz.f42.body.isNone = false := by kernel_rfl
theorem nm42 : (Tryz.f42.name == "runtime.NumGoroutine") = false := by kernel_rfl
theorem bd43 : Tryz.f43.body.isNone = false := by kernel_rfl
theorem nm43 : (Tryz.f43.name == "runtime.NumGoroutine") = false := by kernel_rfl
theorem bd44 : Tryz.f44.body.isNone = false := by kernel_rfl
theorem nm44 : (Tryz.f44.name == "runtime.NumGoroutine") = false := by kernel_rfl
theorem bd45 : Tryz.f45.body.isNone = false := by kernel_rfl
theorem nm45 : (Tryz.f45.name == "runtime.NumGoroutine") = false := by kernel_rfl
theorem bd46 : Tryz.f46.body.isNone = false := by kernel_rfl
theorem nm46 : (Tryz.f46.name == "runtime.NumGoroutine") = false := by kernel_rfl
theorem bd47 : Tryz.f47.body.isNone = false := by kernel_rfl
theorem nm47 : (Tryz.f47.name == "runtime.NumGoroutine") = false := by kernel_rfl
theorem bd48 : Tryz.f48.body.isNone = false := by kernel_rfl
theorem nm48 : (Tryz.f48.name == "runtime.NumGoroutine") = false := by kernel_rfl
theorem bd49 : Tryz.f49.body.isNone = false := by kernel_rfl
theorem nm49 : (Tryz.f49.name == "runtime.NumGoroutine") = false := by kernel_rfl
theorem bd50 : Tryz.f50.body.isNone = false := by kernel_rfl
theorem nm50 : (Tryz.f50.name == "runtime.NumGoroutine") = false := by kernel_rfl
theorem bd51 : Tryz.f51.body.isNone = false := by kernel_rfl
theorem nm51 : (Tryz.f51.name == "runtime.NumGoroutine") = false := by kernel_rfl
theorem bd52 : Tryz.f52.body.isNone = false := by kernel_rfl
theorem nm52 : (Tryz.f52.name == "runtime.NumGoroutine") = false := by kernel_rfl
theorem bd53 : Tryz.f53.body.isNone = false := by kernel_rfl
theorem nm53 : (Tryz.f53.name == "runtime.NumGoroutine") = false := by kernel_rfl
theorem bd54 : Tryz.f54.body.isNone = false := by kernel_rfl
theorem nm54 : (Tryz.f54.name == "runtime.NumGoroutine") = false := by kernel_rfl
theorem bd55 : Tryz.f55.body.isNone = false := by kernel_rfl
theorem nm55 : (Tryz.f55.name == "runtime.NumGoroutine") = false := by kernel_rfl
theorem bd56 : Tryz.f56.body.isNone = false := by kernel_rfl
theorem nm56 : (Tryz.f56.name == "runtime.NumGoroutine") = false := by kernel_rfl
theorem bd57 : Tryz.f57.body.isNone = false := by kernel_rfl
theorem nm57 : (Tryz.f57.name == "runtime.NumGoroutine") = false := by kernel_rfl
theorem bd58 : Tryz.f58.body.isNone = false := by kernel_rfl
theorem nm58 : (Tryz.f58.name == "runtime.NumGoroutine") = false := by kernel_rfl
theorem bd59 : Tryz.f59.body.isNone = false := by kernel_rfl
theorem nm59 : (Tryz.f59.name == "runtime.NumGoroutine") = false := by kernel_rfl
theorem bd60 : Tryz.f60.body.isNone = false := by kernel_rfl
theorem nm60 : (Tryz.f60.name == "runtime.NumGoroutine") = false := by kernel_rfl
theorem bd61 : Tryz.f61.body.isNone = false := by kernel_rfl
theorem nm61 : (Tryz.f61.name == "runtime.NumGoroutine") = false := by kernel_rfl
theorem bd62 : Tryz.f62.body.isNone = false := by kernel_rfl
theorem nm62 : (Tryz.f62.name == "runtime.NumGoroutine") = false := by kernel_rfl
theorem bd63 : Tryz.f63.body.isNone = false := by kernel_rfl
theorem nm63 : (Tryz.f63.name == "runtime.NumGoroutine") = false := by kernel_rfl
theorem bd64 : Tryz.f64.body.isNone = false := by kernel_rfl
theorem nm64 : (Tryz.f64.name == "runtime.NumGoroutine") = false := by kernel_rfl
theorem bd65 : Tryz.f65.body.isNone = false := by kernel_rfl
theorem nm65 : (Tryz.f65.name == "runtime.NumGoroutine") = false := by kernel_rfl
theorem bd66 : Tryz.f66.body.isNone = false := by kernel_rfl
theorem nm66 : (Tryz.f66.name == "runtime.NumGoroutine") = false := by kernel_rfl
theorem bd67 : Tryz.f67.body.isNone = false := by kernel_rfl
theorem nm67 : (Tryz.f67.name == "runtime.NumGoroutine") = false := by kernel_rfl
theorem bd68 : Tryz.f68.body.isNone = false := by kernel_rfl
theorem nm68 : (Tryz.f68.name == "runtime.NumGoroutine") = false := by kernel_rfl
theorem bd71 : Tryz.f71.body.isNone = false := by kernel_rfl
theorem nm71 : (Tryz.f71.name == "runtime.NumGoroutine") = false := by kernel_rfl
theorem bd72 : Tryz.f72.body.isNone = false := by kernel_rfl
theorem nm72 : (Tryz.f72.name == "runtime.NumGoroutine") = false := by kernel_rfl
theorem bd73 : Tryz.f73.body.isNone = false := by kernel_rfl
theorem nm73 : (Tryz.f73.name == "runtime.NumGoroutine") = false := by kernel_rfl
theorem bd74 : Tryz.f74.body.isNone = false := by kernel_rfl
theorem nm74 : (Tryz.f74.name == "runtime.NumGoroutine") = false := by kernel_rfl
theorem bd75 : Tryz.f75.body.isNone = false := by kernel_rfl
theorem nm75 : (Tryz.f75.name == "runtime.NumGoroutine") = false := by kernel_rfl
theorem bd76 : Tryz.f76.body.isNone = false := by kernel_rfl
theorem nm76 : (Tryz.f76.name == "runtime.NumGoroutine") = false := by kernel_rfl
theorem bd77 : Tryz.f77.body.isNone = false := by kernel_rfl
theorem nm77 : (Tryz.f77.name == "runtime.NumGoroutine") = false := by kernel_rfl
theorem bd78 : Tryz.f78.body.isNone = false := by kernel_rfl
theorem nm78 : (Tryz.f78.name == "runtime.NumGoroutine") = false := by kernel_rfl
theorem bd79 : Tryz.f79.body.isNone = false := by kernel_rfl
theorem nm79 : (Tryz.f79.name == "runtime.NumGoroutine") = false := by kernel_rfl
theorem bd80 : Tryz.f80.body.isNone = false := by kernel_rfl
theorem nm80 : (Tryz.f80.name == "runtime.NumGoroutine") = false := by kernel_rfl
theorem bd81 : Tryz.f81.body.isNone = false := by kernel_rfl
theorem nm81 : (Tryz.f81.name == "runtime.NumGoroutine") = false := by kernel_rfl
theorem bd82 : Tryz.f82.body.isNone = false := by kernel_rfl
theorem nm82 : (Tryz.f82.name == "runtime.NumGoroutine") = false := by kernel_rfl
theorem bd83 : Tryz.f83.body.isNone = false := by kernel_rfl
theorem nm83 : (Tryz.f83.name == "runtime.NumGoroutine") = false := by kernel_rfl
theorem bd84 : Tryz.f84.body.isNone = false := by kernel_rfl
theorem nm84 : (Tryz.f84.name == "runtime.NumGoroutine") = false := by kernel_rfl
theorem bd85 : Tryz.f85.body.isNone = false := by kernel_rfl
theorem nm85 : (Tryz.f85.name == "runtime.NumGoroutine") = false := by kernel_rfl
theorem bd86 : Tryz.f86.body.isNone = false := by kernel_rfl
theorem nm86 : (Tryz.f86.name == "runtime.NumGoroutine") = false := by kernel_rfl
theorem bd87 : Tryz.f87.body.isNone = false := by kernel_rfl
theorem nm87 : (Tryz.f87.name == "runtime.NumGoroutine") = false := by kernel_rfl
theorem bd88 : Tryz.f88.body.isNone = false := by kernel_rfl
theorem nm88 : (Tryz.f88.name == "runtime.NumGoroutine") = false := by kernel_rfl
theorem bd89 : Tryz.f89.body.isNone = false := by kernel_rfl
theorem nm89 : (Tryz.f89.name == "runtime.NumGoroutine") = false := by kernel_rfl
theorem bd90 : Tryz.f90.body.isNone = false := by kernel_rfl
theorem nm90 : (Tryz.f90.name == "runtime.NumGoroutine") = false := by kernel_rfl
theorem bd91 : Tryz.f91.body.isNone = false := by kernel_rfl
theorem nm91 : (Tryz.f91.name == "runtime.NumGoroutine") = false := by kernel_rfl
theorem bd92 : Tryz.f92.body.isNone = false := by kernel_rfl
theorem nm92 : (Tryz.f92.name == "runtime.NumGoroutine") = false := by kernel_rfl
theorem bd93 : Tryz.f93.body.isNone = false := by kernel_rfl
theorem nm93 : (Tryz.f93.name == "runtime.NumGoroutine") = false := by kernel_rfl
theorem bd94 : Tryz.f94.body.isNone = false := by kernel_rfl
theorem nm94 : (Tryz.f94.name == "runtime.NumGoroutine") = false := by kernel_rfl
theorem bd95 : Tryz.f95.body.isNone = false := by kernel_rfl
theorem nm95 : (Tryz.f95.name == "runtime.NumGoroutine") = false := by kernel_rfl
theorem bd96 : Tryz.f96.body.isNone = false := by kernel_rfl
theorem nm96 : (Tryz.f96.name == "runtime.NumGoroutine") = false := by kernel_rfl
theorem bd97 : Tryz.f97.body.isNone = false := by kernel_rfl
theorem nm97 : (Tryz.f97.name == "runtime.NumGoroutine") = false := by kernel_rfl
theorem bd98 : Tryz.f98.body.isNone = false := by kernel_rfl
theorem nm98 : (Tryz.f98.name == "runtime.NumGoroutine") = false := by kernel_rfl
theorem bd99 : Tryz.f99.body.isNone = false := by kernel_rfl
theorem nm99 : (Tryz.f99.name == "runtime.NumGoroutine") = false := by kernel_rfl
theorem bd100 : Tryz.f100.body.isNone = false := by kernel_rfl
theorem nm100 : (Tryz.f100.name == "runtime.NumGoroutine") = false := by kernel_rfl
theorem bd101 : Tryz.f101.body.isNone = false := by kernel_rfl
theorem nm101 : (Tryz.f101.name == "runtime.NumGoroutine") = false := by kernel_rfl
theorem bd102 : Tryz.f102.body.isNone = false := by kernel_rfl
theorem nm102 : (Tryz.f102.name == "runtime.NumGoroutine") = false := by kernel_rfl
theorem bd103 : Tryz.f103.body.isNone = false := by kernel_rfl
theorem nm103 : (Tryz.f103.name == "runtime.NumGoroutine") = false := by kernel_rfl
theorem bd104 : Tryz.f104.body.isNone = false := by kernel_rfl
theorem nm104 : (Tryz.f104.name == "runtime.NumGoroutine") = false := by kernel_rfl
theorem bd106 : Tryz.f106.body.isNone = false := by kernel_rfl
theorem nm106 : (Tryz.f106.name == "runtime.NumGoroutine") = false := by kernel_rfl
theorem bd132 : Tryz.f132.body.isNone = false := by kernel_rfl
theorem nm132 : (Tryz.f132.name == "runtime.NumGoroutine") = false := by kernel_rfl
end Go.Proofs.YtjopikfkgjbcgaaGreatDoor
/-! Rows of values (api.Value), told of heaps. -/
namespace Go.Proofs.YtjopikfkgjbcgaaGreatDoor
set_option linter.unnecessarySimpa false
set_option linter.unusedSimpArgs false
set_option linter.unusedVariables false
open Go.RowKit
/-- A value: its kind, its key, its text, its count. -/
abbrev JV := Int × List UInt8 × List UInt8 × Int
def zJ : JV := (0, [], [], 0)
def encJ (x : JV) : List Value := [I64 x.1, .string (strOf x.2.1), .string (strOf x.2.2.1), I64 x.2.2.2]
theorem encJ_len (x : JV) : (encJ x).length = 4 := rfl
theorem encJ_one (x : JV) : ∀ v ∈ encJ x, v.oneCell' = true := by
  intro v hv
  simp only [encJ, List.mem_cons, List.not_mem_nil, or_false] at hv
  rcases hv with rfl | rfl | rfl | rfl <;> rfl
theorem in41 : (Tryz.prog.info? 41).map (fun i => (i.zero, i.size, i.bytes)) = some (some (.agg (encJ zJ).toArray), 4, 48) := by kernel_rfl
/-- Where a slice lies, if it lies anywhere. -/
def Lie (F : Nat → Prop) (h : Heap) (a : Option Addr) : Prop := ∀ sb so, a = some ⟨sb, so, none⟩ → sb < h.size ∧ F sb
theorem Lie.none (F : Nat → Prop) (h : Heap) : Lie F h none := fun sb so e => by cases e
theorem Lie.mono {F F' : Nat → Prop} {h h' : Heap} {a : Option Addr} (x : Lie F h a) (hs : h.size ≤ h'.size) (k : ∀ j, j < h.size → F j → F' j) : Lie F' h' a := fun sb so e => ⟨Nat.lt_of_lt_of_le (x sb so e).1 hs, k sb (x sb so e).1 (x sb so e).2⟩
def flJ (l : List JV) : List Value := l.flatMap encJ
theorem flJ_cons (x : JV) (l : List JV) : flJ (x :: l) = encJ x ++ flJ l := by unfold flJ; rw [List.flatMap_cons]
theorem flJ_append (l m : List JV) : flJ (l ++ m) = flJ l ++ flJ m := by unfold flJ; rw [List.flatMap_append]
theorem flJ_len (l : List JV) : (flJ l).length = l.length * 4 := by
  induction l with
  | nil => rfl
  | cons x l ih => rw [flJ_cons, List.length_append, encJ_len, ih, List.length_cons]; omega
theorem flJ_get (l : List JV) (t : Nat) (h : t < l.length * 4) : (flJ l)[t]? = (encJ (l[t / 4]'(by omega)))[t % 4]? := by
  induction l generalizing t with
  | nil => simp at h
  | cons x l ih =>
    rw [flJ_cons]
    by_cases ht : t < 4
    · rw [List.getElem?_append_left (by rw [encJ_len]; exact ht)]
      have h1 : t / 4 = 0 := by omega
      have h2 : t % 4 = t := by omega
      simp only [h1, h2, List.getElem_cons_zero]
    · rw [List.getElem?_append_right (by rw [encJ_len]; omega), encJ_len, ih (t - 4) (by rw [List.length_cons] at h; omega)]
      have h1 : t / 4 = (t - 4) / 4 + 1 := by omega
      have h2 : (t - 4) % 4 = t % 4 := by omega
      simp only [h1, h2, List.getElem_cons_succ]
/-- A row of values at an address. -/
def Jvs (h : Heap) (a : Option Addr) (l : List JV) : Prop := l = [] ∨ ∃ sb so, a = some ⟨sb, so, none⟩ ∧ ∀ j, j < l.length → ∀ i v, (encJ (l.getD j zJ))[i]? = some v → cellH h sb (so + j * 4 + i) = some v
theorem Jvs.at {h : Heap} {a : Option Addr} {l : List JV} (x : Jvs h a l) {k : Nat} (hk : k < l.length) : ∃ sb so, a = some ⟨sb, so, none⟩ ∧ ∀ i v, (encJ (l.getD k zJ))[i]? = some v → cellH h sb (so + k * 4 + i) = some v := by
  rcases x with x | ⟨sb, so, h1, h2⟩
  · subst x; cases hk
  · exact ⟨sb, so, h1, h2 k hk⟩
/-- A slice of values that is owned: it lies in a block from 'base' on, at its begin. -/
def Js (h : Heap) (base : Nat) (a : Option Addr) (cap : Nat) (l : List JV) : Prop := Own h base 41 4 (.slice a l.length cap) l.length (flJ l) ∧ l.length ≤ cap
theorem Js.blk {h : Heap} {base : Nat} {a : Option Addr} {cap : Nat} {l : List JV} (x : Js h base a cap l) : a = none ∧ l = [] ∨ ∃ g, a = some ⟨g, 0, none⟩ ∧ base ≤ g ∧ g < h.size := by
  rcases x.1.cases with ⟨h1, h2, h3⟩ | ⟨g, c, h1, h2, h3, h4, h5⟩
  · exact .inl ⟨(slice_inj h1).1, List.length_eq_zero_iff.1 h2⟩
  · obtain ⟨rfl, _, rfl⟩ := slice_inj h1
    exact .inr ⟨g, rfl, h2, (x.1.lt g rfl).2⟩
theorem flJ_getD (l : List JV) (j i : Nat) (hj : j < l.length) {v : Value} (hv : (encJ (l.getD j zJ))[i]? = some v) : (flJ l)[j * 4 + i]? = some v := by
  have hi : i < 4 := by have := (List.getElem?_eq_some_iff.1 hv).1; rwa [encJ_len] at this
  rw [flJ_get l _ (by omega)]
  have h1 : (j * 4 + i) / 4 = j := by omega
  have h2 : (j * 4 + i) % 4 = i := by omega
  simp only [h1, h2]
  rw [← hv]
  simp [hj]
theorem flJ_cell {l : List JV} {t : Nat} {v : Value} (hv : (flJ l)[t]? = some v) : t / 4 < l.length ∧ (encJ (l.getD (t / 4) zJ))[t % 4]? = some v := by
  have hlt := (List.getElem?_eq_some_iff.1 hv).1
  rw [flJ_len] at hlt
  have hl : t / 4 < l.length := by omega
  refine ⟨hl, ?_⟩
  rw [flJ_get l t hlt] at hv
  rw [← hv]
  simp [hl]
theorem Js.jvs {h : Heap} {base : Nat} {a : Option Addr} {cap : Nat} {l : List JV} (x : Js h base a cap l) : Jvs h a l := by
  rcases x.1.cases with ⟨h1, h2, h3⟩ | ⟨g, c, h1, h2, h3, h4, h5⟩
  · exact .inl (List.length_eq_zero_iff.1 h2)
  · obtain ⟨rfl, _, rfl⟩ := slice_inj h1
    refine .inr ⟨g, 0, rfl, fun j hj i v hv => ?_⟩
    rw [Nat.zero_add]
    exact h5 _ _ (flJ_getD l j i hj hv)
theorem Js.ext {h h' : Heap} {base : Nat} {a : Option Addr} {cap : Nat} {l : List JV} (x : Js h base a cap l) (k : Ext h h') : Js h' base a cap l := ⟨x.1.bel k, x.2⟩
theorem Js.wr {h h' : Heap} {base : Nat} {a : Option Addr} {cap : Nat} {l : List JV} {b : Nat} {o : Obj} (x : Js h base a cap l) (k : Wr h h' b o) (hb : b < base) : Js h' base a cap l :=
  ⟨x.1.keep fun j hj => k.old j (by have := (x.1.lt j hj).1; omega), x.2⟩
theorem Js.lit {h h' : Heap} {base : Nat} {l : List JV} (k : Nw h h' (.cells (flJ l).toArray 41 (0, 0))) (hb : base ≤ h.size) (hl : l.length ≤ maxLen) : Js h' base (some ⟨h.size, 0, none⟩) l.length l :=
  ⟨⟨flJ_len l, .inr ⟨h.size, l.length, _, rfl, hb, k.new, Nat.le_refl _, hl, by simp [flJ_len], by rw [List.take_of_length_le]; simp [flJ_len]⟩⟩, Nat.le_refl _⟩
/-- The block, as it is. -/
theorem Js.blkAt {h : Heap} {base : Nat} {g : Nat} {cap : Nat} {l : List JV} (x : Js h base (some ⟨g, 0, none⟩) cap l) : ∃ cur : List Value, h[g]? = some (.cells cur.toArray 41 (0, 0)) ∧ cur.length = cap * 4 ∧ cur.take (l.length * 4) = flJ l := by
  rcases x.1.2 with ⟨h1, h2⟩ | ⟨g', cap', cur, h1, hb, hg, hn, hc, hs, ht⟩
  · cases (slice_inj h1).1
  · obtain ⟨e1, _, rfl⟩ := slice_inj h1
    cases e1
    exact ⟨cur.toList, hg, by simpa using hs, by simpa using ht⟩
theorem Js.capLe {h : Heap} {base : Nat} {a : Option Addr} {cap : Nat} {l : List JV} (x : Js h base a cap l) : cap ≤ maxLen := by
  rcases x.1.cases with ⟨h1, h2, h3⟩ | ⟨g, c, h1, h2, h3, h4, h5⟩
  · rw [(slice_inj h1).2.2]; exact Nat.zero_le _
  · rw [(slice_inj h1).2.2]; exact h4
theorem Js.of_blk {h : Heap} {base : Nat} {g : Nat} {cap : Nat} {l : List JV} {cur : List Value} (hb : h[g]? = some (.cells cur.toArray 41 (0, 0))) (hl : cur.length = cap * 4) (ht : cur.take (l.length * 4) = flJ l) (hg : base ≤ g) (hn : l.length ≤ cap) (hc : cap ≤ maxLen) : Js h base (some ⟨g, 0, none⟩) cap l :=
  ⟨⟨flJ_len l, .inr ⟨g, cap, cur.toArray, rfl, hg, hb, hn, hc, by simpa using hl, by simpa using ht⟩⟩, hn⟩
theorem Js.low {h : Heap} {base base' : Nat} {a : Option Addr} {cap : Nat} {l : List JV} (x : Js h base a cap l) (hb : base' ≤ base) : Js h base' a cap l := by
  rcases x.blk with ⟨rfl, rfl⟩ | ⟨g, rfl, hg, _⟩
  · refine ⟨?_, x.2⟩
    rcases x.1.cases with ⟨h1, h2, h3⟩ | ⟨g, c, h1, h2, _⟩
    · rw [h1]; exact Own.nil h base' 41 4
    · have := (slice_inj h1).1
      cases this
  · obtain ⟨cur, h1, h2, h3⟩ := x.blkAt
    exact Js.of_blk h1 h2 h3 (by omega) x.2 x.capLe
theorem GrA.belJ {N base : Nat} {h0 h h' : Heap} {a : Option Addr} {cap : Nat} {l : List JV} (k : GrA h h' a) (x : Bel N h0 h) (y : Js h base a cap l) (hb : N ≤ base) (hN : N ≤ h0.size) : Bel N h0 h' := by
  refine Bel.gr x k hN fun j hj => ?_
  have := (y.1.lt j (by cases a <;> exact hj)).1
  omega
theorem Jvs.take {h : Heap} {a : Option Addr} {l : List JV} (x : Jvs h a l) (n : Nat) : Jvs h a (l.take n) := by
  rcases x with rfl | ⟨sb, so, ha, hc⟩
  · exact .inl (by simp)
  · refine .inr ⟨sb, so, ha, fun j hj i v hv => ?_⟩
    have hj' : j < l.length ∧ j < n := by rw [List.length_take] at hj; omega
    refine hc j hj'.1 i v ?_
    rw [← hv, List.getD_eq_getElem?_getD, List.getD_eq_getElem?_getD, List.getElem?_take, if_pos hj'.2]
theorem Jvs.drop {h : Heap} {a a' : Option Addr} {l : List JV} {cap : Nat} (x : Jvs h a l) (k : Nat) (hc : l.length ≤ cap) (hk : k ≤ l.length) (ha : (if cap = k then a else a.map (·.add (k * 4))) = a') : Jvs h a' (l.drop k) := by
  subst ha
  by_cases hl : k = l.length
  · exact .inl (List.drop_of_length_le (by omega))
  · rcases x with rfl | ⟨sb, so, ha, hcell⟩
    · exact .inl (by simp)
    · rw [if_neg (by omega)]
      subst ha
      refine .inr ⟨sb, so + k * 4, by rw [Option.map_some, addr_add], fun j hj i v hv => ?_⟩
      rw [List.length_drop] at hj
      rw [show so + k * 4 + j * 4 + i = so + (k + j) * 4 + i by omega]
      refine hcell (k + j) (by omega) i v ?_
      rw [← hv, List.getD_eq_getElem?_getD, List.getD_eq_getElem?_getD, List.getElem?_drop]
theorem flJ_one (l : List JV) : ∀ v ∈ flJ l, v.oneCell' = true := fun v hv => by
  obtain ⟨x, _, hx⟩ := List.mem_flatMap.1 hv
  exact encJ_one x v hx
section
variable {ρ : Operand → Value} {h : Heap} {d : Option Tmp} {ty : TypeId} {pos : String} {af : Array Edge} {gd : Option (Nat × Bool)} {K : Value → Heap → Prop} {x y : Operand}
/-- Append values to a slice of these that is owned. -/
theorem HO.dapp {base : Nat} {a sa : Option Addr} {cap sc m n : Nat} {l ys : List JV} (hx : ρ x = .slice a n cap) (hy : ρ y = .slice sa m sc) (hn : n = l.length) (hm : m = ys.length) (hown : Js h base a cap l) (hsrc : Jvs h sa ys) (hlen : (l.length + ys.length) * 48 ≤ 140737488355328) (hbase : base ≤ h.size)
    (k : ∀ a' cap' h', Js h' base a' cap' (l ++ ys) → GrA h h' a → K (.slice a' (l ++ ys).length cap') h') : HO Tryz.prog ⟨d, .call { callee := .builtin .append, args := #[x, y], argTypes := #[26, 26] }, ty, pos, af, gd⟩ ρ h K := by
  subst hn
  subst hm
  have hml : l.length + ys.length ≤ maxLen := Nat.le_trans (by omega : l.length + ys.length ≤ 140737488355328) (by decide)
  rcases hsrc with hnil | ⟨sb, so, hsa, hc⟩
  · subst hnil
    intro w hw
    subst hw
    cases hq : Tryz.prog.info? 41 with
    | none => have := in41; rw [hq] at this; cases this
    | some i =>
      have hs : Go.Src Tryz.prog i.size 26 (.slice sa 0 sc) 0 [] w := ⟨.inl ⟨41, Tryz.underlying26⟩, fun w' => rfl, by cases sa <;> simp [Builtin.firstCells, loadCells] <;> rfl, by cases sa <;> simp [Builtin.firstCells, loadCells] <;> rfl, by simp, by simp⟩
      have h1 := run_append_nothing w 26 26 ty 41 i Tryz.underlying26 hq a l.length cap hown.2 (.slice sa 0 sc) hs
      have : (execOp ρ ⟨d, .call { callee := .builtin .append, args := #[x, y], argTypes := #[26, 26] }, ty, pos, af, gd⟩).run Tryz.prog w = .ok (.value (.slice a l.length cap)) w := by
        simp [BigFrame.execOp_builtin, BigFrame.builtin_append, hx, hy, Sem.run_bind] at h1 ⊢
        rw [h1]
        rfl
      rw [this]
      refine ⟨Rest.refl _, ?_⟩
      have := k a cap w.heap (by simpa using hown) ⟨Nat.le_refl _, fun _ _ _ => rfl⟩
      simpa using this
  · subst hsa
    have hown1 := hown.1
    refine HO.append (news := flJ ys) Tryz.underlying26 in41 rfl (by decide) hx hy hown1 (flJ_len ys) (fun j u hj => ?_) (flJ_one ys) hml (by simpa using hlen) hbase fun v' h' o g hat => ?_
    · obtain ⟨hj1, hj2⟩ := flJ_cell hj
      have := hc _ hj1 _ _ hj2
      rwa [show so + j / 4 * 4 + j % 4 = so + j by omega] at this
    · have hg : GrA h h' a := by cases a <;> exact g
      rw [← flJ_append] at o
      rcases o.cases with ⟨h1, h2, h3⟩ | ⟨g', c, h1, h2, h3, h4, h5⟩
      · have he : l ++ ys = [] := List.length_eq_zero_iff.1 (by rw [List.length_append]; exact h2)
        subst h1
        have := k none 0 h' ⟨by rw [he]; exact Own.nil _ _ _ _, by rw [he]; exact Nat.le_refl _⟩ hg
        rw [he] at this
        exact this
      · subst h1
        have := k (some ⟨g', 0, none⟩) c h' ⟨by rw [List.length_append]; exact o, by simpa using h3⟩ hg
        rw [List.length_append] at this
        exact this
end
end Go.Proofs.YtjopikfkgjbcgaaGreatDoor
/-! Few; End, both. -/
namespace Go.Proofs.YtjopikfkgjbcgaaGreatDoor
set_option linter.unnecessarySimpa false
set_option linter.unusedSimpArgs false
set_option linter.unusedVariables false
open Go.RowKit
theorem Jvs.ext {h h' : Heap} {a : Option Addr} {l : List JV} (x : Jvs h a l) (k : Ext h h') : Jvs h' a l := by
  rcases x with x | ⟨sb, so, h1, h2⟩
  · exact .inl x
  · exact .inr ⟨sb, so, h1, fun j hj i v hv => by rw [cellH_keep (k.old sb (lt_of_cellH (h2 j hj i v hv)))]; exact h2 j hj i v hv⟩
/-- How many bytes a row's keys and texts have. -/
def lensJ : List JV → Nat
  | [] => 0
  | x :: l => x.2.1.length + x.2.2.1.length + lensJ l
def fewJ (l : List JV) : Bool := decide (l.length ≤ 80) && decide (lensJ l ≤ 3000)
theorem fewJ_of {l : List JV} (h : fewJ l = true) : l.length ≤ 80 ∧ lensJ l ≤ 3000 := by
  unfold fewJ at h
  rw [Bool.and_eq_true, decide_eq_true_eq, decide_eq_true_eq] at h
  exact h
/-- The sum as Go adds it up: it may wrap round. -/
def wsumJ (l : List JV) : Int := l.foldl (fun s x => IntKind.i64.wrap (IntKind.i64.wrap (s + x.2.1.length) + x.2.2.1.length)) 0
theorem wsumJ_take (l : List JV) {k : Nat} (hk : k < l.length) : wsumJ (l.take (k + 1)) = IntKind.i64.wrap (IntKind.i64.wrap (wsumJ (l.take k) + (l.getD k zJ).2.1.length) + (l.getD k zJ).2.2.1.length) := by
  rw [List.take_succ_eq_append_getElem hk, wsumJ, List.foldl_append, List.getD_eq_getElem?_getD, List.getElem?_eq_getElem hk]
  rfl
def SmallJ (l : List JV) : Prop := ∀ x ∈ l, x.2.1.length ≤ 140737488355328 ∧ x.2.2.1.length ≤ 140737488355328
theorem wsumJ_small (l : List JV) (hz : SmallJ l) (hl : l.length ≤ 80) : wsumJ l = lensJ l := by
  have key : ∀ (m : List JV) (s : Nat), SmallJ m → s + m.length * 281474976710656 ≤ 9000000000000000000 → m.foldl (fun (s : Int) x => IntKind.i64.wrap (IntKind.i64.wrap (s + x.2.1.length) + x.2.2.1.length)) (s : Int) = ((s + lensJ m : Nat) : Int) := by
    intro m
    induction m with
    | nil => intro s _ _; simp [lensJ]
    | cons x m ih =>
      intro s hz hs
      obtain ⟨h1, h2⟩ := hz x (List.mem_cons_self ..)
      rw [List.length_cons] at hs
      have e1 : IntKind.i64.wrap ((s : Int) + (x.2.1.length : Nat)) = ((s + x.2.1.length : Nat) : Int) := by rw [i64w (by omega)]; omega
      have e2 : IntKind.i64.wrap (((s + x.2.1.length : Nat) : Int) + (x.2.2.1.length : Nat)) = ((s + x.2.1.length + x.2.2.1.length : Nat) : Int) := by rw [i64w (by omega)]; omega
      rw [List.foldl_cons, e1, e2, ih _ (fun y hy => hz y (List.mem_cons_of_mem _ hy)) (by omega), lensJ]
      congr 1
      omega
  have := key l 0 hz (by omega)
  rw [Nat.zero_add] at this
  exact this
set_option maxRecDepth 10000 in
theorem few_ch (h : Heap) (l : List JV) (a : Option Addr) (n cap : Nat) (hn : n = l.length) (hB : Jvs h a l) (hl : l.length ≤ maxLen) (hz : SmallJ l) : CH Tryz.prog 5 #[.slice a n cap] h fun v h' => v = .bool (fewJ l) ∧ h' = h := by
  subst hn
  have hml : maxLen = 9223372036854775807 := rfl
  rw [hml] at hl
  refine CH.of_body Tryz.func5 rfl rfl rfl ?_
  intro f hf
  have p0 : f 0 = .slice a l.length cap := by rw [hf]; exact fr0_at rfl
  -- region 0
  repeat refine HW.seq ?_
  refine HW.region ?_
  refine HL.still (Runs.assign rfl) ?_
  intro u2 e2
  refine HL.nil ?_
  -- region 1
  repeat refine HW.seq ?_
  refine HW.region ?_
  refine HL.still (Runs.assign rfl) ?_
  intro u3 e3
  refine HL.nil ?_
  -- region 2
  repeat refine HW.seq ?_
  refine HW.region ?_
  refine HL.still (Runs.assign rfl) ?_
  intro u4 e4
  refine HL.nil ?_
  repeat refine HW.seq ?_
  refine HW.block ?_
  refine HW.loop (fun m f u => ∃ k : Nat, k ≤ l.length ∧ m = l.length - k ∧ f 4 = I64 k ∧ f 0 = .slice a l.length cap ∧ f 3 = I64 (wsumJ (l.take k)) ∧ u = h) l.length
    ⟨0, Nat.zero_le _, rfl, e4, p0, e3, rfl⟩ ?_
  clear e2 e3 e4
  rintro m f u ⟨k, hk, hm, f4, f0, f3, rfl⟩
  by_cases hlt : k < l.length
  · obtain ⟨sb, so, rfl, hc⟩ := hB.at hlt
    have htt := wsumJ_take l hlt
    obtain ⟨x, hx⟩ : ∃ x, x = l.getD k zJ := ⟨_, rfl⟩
    rw [← hx] at hc htt
    -- region 3
    repeat refine HW.seq ?_
    refine HW.region ?_
    refine HL.still (Runs.move f4) ?_
    intro u5 e5
    refine HL.still (Runs.move f0) ?_
    intro u6 e6
    refine HL.still (Runs.lenSl rfl Tryz.underlying26 e6) ?_
    intro u7 e7
    refine HL.still (Runs.lss e5 e7 rfl) ?_
    intro u8 e8
    refine HL.nil ?_
    repeat refine HW.seq ?_
    refine HW.yes ?_ ?_
    exact e8.trans (congrArg Value.bool (decide_eq_true (by omega)))
    refine HW.skip ?_
    repeat refine HW.seq ?_
    refine HW.block ?_
    -- region 5
    repeat refine HW.seq ?_
    refine HW.draw mixed (by kernel_rfl) ?_
    refine HS.still (Runs.move f3) ?_
    intro u11 e11
    refine HS.still (Runs.move f0) ?_
    intro u12 e12
    refine HS.still (Runs.move f4) ?_
    intro u13 e13
    refine HS.still (Runs.ixSl (o' := so + k * 4) Tryz.underlying26 sz41 e12 e13 (by omega) (by omega) (by omega)) ?_
    intro u14 e14
    refine HS.still (Runs.fld (o' := so + k * 4 + 1) Tryz.underlying41 rfl sz9 (by decide) e14 (by first | rfl | omega)) ?_
    intro u15 e15
    refine HS.still (Runs.load Tryz.underlying9 rfl e15 (hc 1 _ rfl)) ?_
    intro u16 e16
    refine HS.still (Runs.lenS rfl Tryz.underlying9 e16) ?_
    intro u17 e17
    refine HS.still (Runs.add e11 e17 rfl) ?_
    intro u18 e18
    refine HS.still (Runs.move f0) ?_
    intro u19 e19
    refine HS.still (Runs.move f4) ?_
    intro u20 e20
    refine HS.still (Runs.ixSl (o' := so + k * 4) Tryz.underlying26 sz41 e19 e20 (by omega) (by omega) (by omega)) ?_
    intro u21 e21
    refine HS.still (Runs.fld (o' := so + k * 4 + 2) Tryz.underlying41 rfl sz9 (by decide) e21 (by first | rfl | omega)) ?_
    intro u22 e22
    refine HS.still (Runs.load Tryz.underlying9 rfl e22 (hc 2 _ rfl)) ?_
    intro u23 e23
    refine HS.still (Runs.lenS rfl Tryz.underlying9 e23) ?_
    intro u24 e24
    refine HS.still (Runs.add e18 e24 rfl) ?_
    intro u25 e25
    refine HS.still (Runs.assign e25) ?_
    intro u3 e3
    refine HS.nil ?_
    -- region 4
    repeat refine HW.seq ?_
    refine HW.region ?_
    refine HL.still (Runs.move f4) ?_
    intro u9 e9
    refine HL.still (Runs.add e9 rfl (i64w (by omega))) ?_
    intro u10 e10
    refine HL.still (Runs.assign e10) ?_
    intro u4 e4
    refine HL.nil ?_
    exact ⟨l.length - (k + 1), by omega, k + 1, by omega, rfl, e4, f0, e3.trans (congrArg (Value.int .i64) htt.symm), rfl⟩
  · have hkl : k = l.length := by omega
    subst hkl
    rw [List.take_of_length_le (Nat.le_refl _)] at f3
    -- region 3
    repeat refine HW.seq ?_
    refine HW.region ?_
    refine HL.still (Runs.move f4) ?_
    intro u5 e5
    refine HL.still (Runs.move f0) ?_
    intro u6 e6
    refine HL.still (Runs.lenSl rfl Tryz.underlying26 e6) ?_
    intro u7 e7
    refine HL.still (Runs.lss e5 e7 rfl) ?_
    intro u8 e8
    refine HL.nil ?_
    repeat refine HW.seq ?_
    refine HW.no ?_ ?_
    exact e8.trans (congrArg Value.bool (decide_eq_false (by omega)))
    refine HW.exitHere ?_
    -- region 6
    repeat refine HW.seq ?_
    refine HW.region ?_
    refine HL.still (Runs.move f0) ?_
    intro u26 e26
    refine HL.still (Runs.lenSl rfl Tryz.underlying26 e26) ?_
    intro u27 e27
    refine HL.still (Runs.leq e27 rfl (t := decide (l.length ≤ 80)) (decide_eq_decide.2 (by omega))) ?_
    intro u28 e28
    refine HL.still (Runs.move e28) ?_
    intro u29 e29
    refine HL.anyG rfl rfl e29 (fun hg => Runs.move f3) ?_
    intro u30 e30
    refine HL.anyG rfl rfl e29 (fun hg => Runs.leq (e30.trans (if_pos hg)) rfl (t := decide (wsumJ l ≤ 3000)) rfl) ?_
    intro u31 e31
    refine HL.still (Runs.pick e29 (and_pick e31)) ?_
    intro u32 e32
    refine HL.still (Runs.assign e32) ?_
    intro u2 e2
    refine HL.nil ?_
    refine HW.ret ?_
    refine RT.one rfl e2 ⟨?_, rfl⟩
    unfold fewJ
    by_cases h40 : l.length ≤ 80
    · rw [wsumJ_small l hz h40]
      congr 2
      exact decide_eq_decide.2 (by omega)
    · rw [decide_eq_false h40]
      rfl
end Go.Proofs.YtjopikfkgjbcgaaGreatDoor
