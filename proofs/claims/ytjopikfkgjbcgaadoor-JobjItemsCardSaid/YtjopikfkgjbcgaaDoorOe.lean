/- Maps of strings to numbers; rows of frames: json.Right's stack, as the heap has it. -/
import Derived.Test.YtjopikfkgjbcgaaDoorOd
import Derived.Maps.Keyed
import Derived.ChangeMaps
namespace Go.Proofs.YtjopikfkgjbcgaaDoor
set_option linter.unnecessarySimpa false
set_option linter.unusedSimpArgs false
set_option linter.unusedVariables false
open Go.RowKit
theorem sz46 : (Tryd.prog.info? 46).map (·.size) = some 1 := by kernel_rfl
theorem sz48 : (Tryd.prog.info? 48).map (·.size) = some 3 := by kernel_rfl
theorem law9 : WideMaps.KeyLaw Tryd.prog 9 := WideMaps.string_law Tryd.underlying9
theorem key9 (s : List UInt8) (hs : s.length ≤ maxLen) : ∃ l, keyOf Tryd.prog 9 (.string (strOf s)) = some l := by
  have hu : Tryd.prog.underlying 9 = some .string := Tryd.underlying9
  have hl : (strOf s).size ≤ maxLen := by rw [strOf_size]; exact hs
  unfold keyOf mapKey
  rw [hu]
  simp only
  rw [if_pos hl]
  exact ⟨_, rfl⟩
/-- Block b is a map that counts. -/
def MpS (h : Heap) (b : Nat) (c : List UInt8 → Int) : Prop := ∃ (es : Array MapEntry) (clock : Nat), h[b]? = some (.map es clock) ∧ (∀ e ∈ es.toList, ∃ s, s.length ≤ maxLen ∧ e.key = .string (strOf s) ∧ e.val = I64 (c s)) ∧ (es.toList.map (·.key)).Nodup ∧ ∀ s, (∀ e ∈ es.toList, e.key ≠ .string (strOf s)) → c s = 0
theorem MpS.made {h h' : Heap} (w : Nw h h' (.map #[] 0)) : MpS h' h.size (fun _ => 0) := ⟨#[], 0, w.new, (fun _ h => by cases h), List.nodup_nil, fun _ _ => rfl⟩
theorem MpS.keep {h h' : Heap} {b : Nat} {c : List UInt8 → Int} (m : MpS h b c) (k : h'[b]? = h[b]?) : MpS h' b c := by
  obtain ⟨es, cl, h1, h2⟩ := m
  exact ⟨es, cl, k.trans h1, h2⟩
theorem MpS.lt {h : Heap} {b : Nat} {c : List UInt8 → Int} (m : MpS h b c) : b < h.size := by
  obtain ⟨es, cl, h1, _⟩ := m
  exact lt_of_some h1
theorem MpS.ne {h : Heap} {b g : Nat} {c : List UInt8 → Int} {cs : Array Value} {t : TypeId} {fr : Nat × Nat} (m : MpS h b c) (hg : h[g]? = some (.cells cs t fr)) : b ≠ g := by
  rintro rfl
  obtain ⟨es, cl, h1, _⟩ := m
  rw [h1] at hg
  cases hg
theorem strV_inj {a b : List UInt8} (h : Value.string (strOf a) = .string (strOf b)) : a = b := strOf_inj (by injection h)
theorem findS {es : Array MapEntry} {c : List UInt8 → Int} (hk : ∀ e ∈ es.toList, ∃ s, s.length ≤ maxLen ∧ e.key = .string (strOf s) ∧ e.val = I64 (c s)) (q : List UInt8) (hq : q.length ≤ maxLen) (w : World) :
    ((Instr.findKey 9 (.string (strOf q)) es.toList).run Tryd.prog w = .ok none w ∧ ∀ e ∈ es.toList, e.key ≠ .string (strOf q)) ∨ ∃ j e, (Instr.findKey 9 (.string (strOf q)) es.toList).run Tryd.prog w = .ok (some (j, e.val)) w ∧ es.toList[j]? = some e ∧ e.key = .string (strOf q) ∧ e.val = I64 (c q) := by
  obtain ⟨l, hl⟩ := key9 q hq
  rcases law9.find w hl es.toList (fun e hm => by
    obtain ⟨s, h0, h1, _⟩ := hk e hm
    rw [h1]
    exact key9 s h0) with h | ⟨j, e, h1, h2, h3⟩
  · exact .inl h
  · obtain ⟨s, _, h4, h5⟩ := hk e (List.mem_iff_getElem?.2 ⟨j, h2⟩)
    have : s = q := strV_inj (h4.symm.trans h3)
    subst this
    exact .inr ⟨j, e, h1, h2, h3, h5⟩
theorem zero3 (w : World) : (zeroValue 3).run Tryd.prog w = .ok (I64 0) w := by kernel_rfl
section
variable {ρ : Operand → Value} {h : Heap} {d : Option Tmp} {ty : TypeId} {pos : String} {af : Array Edge} {gd : Option (Nat × Bool)} {K : Value → Heap → Prop} {x y m k : Operand}
set_option maxRecDepth 10000 in
theorem Runs.lookS {b : Nat} {c : List UInt8 → Int} {q : List UInt8} (hm : ρ m = .map (some b)) (hk : ρ k = .string (strOf q)) (hM : MpS h b c) (hq : q.length ≤ maxLen) :
    Runs Tryd.prog ⟨d, .lookup 46 m k false, ty, pos, af, gd⟩ ρ h (I64 (c q)) := fun w hw => by
  subst hw
  obtain ⟨es, cl, h1, h2, h3, h4⟩ := hM
  obtain ⟨l, hl⟩ := key9 q hq
  have hc := law9.check w es.isEmpty hl
  have hu : Tryd.prog.underlying 46 = some (.map 9 3) := Tryd.underlying46
  rcases findS h2 q hq w with ⟨e1, e2⟩ | ⟨j, e, e1, _, _, e2⟩
  · rw [h4 q e2]
    simp [execOp, hm, hk, Instr.lookup, Sem.run_bind, run_underlying hu, getObj, Sem.run, h1, hc, e1, zero3]
  · simp [execOp, hm, hk, Instr.lookup, Sem.run_bind, run_underlying hu, getObj, Sem.run, h1, hc, e1, e2]
theorem HO.makeMapS (k : ∀ h', Nw h h' (.map #[] 0) → K (.map (some h.size)) h') : HO Tryd.prog ⟨d, .makeMap 46 none, ty, pos, af, gd⟩ ρ h K := by
  intro w hw
  subst hw
  have : (execOp ρ ⟨d, .makeMap 46 none, ty, pos, af, gd⟩).run Tryd.prog w = .ok (.value (.map (some w.heap.size))) (w.alloc (.map #[] 0)) := by
    simp [execOp, Instr.makeMap, Sem.run_bind, newObj]
    rfl
  rw [this]
  refine ⟨⟨rfl, rfl, rfl⟩, ?_⟩
  rw [heap_alloc]
  exact k _ (Nw.push _ _)
theorem modify_keys {es : Array MapEntry} {j : Nat} {e : MapEntry} {v : Value} (hj : es.toList[j]? = some e) : (es.modify j fun e' => { e' with key := e.key, val := v }).toList.map (·.key) = es.toList.map (·.key) := by
  apply List.ext_getElem?
  intro i
  rw [List.getElem?_map, List.getElem?_map, Array.getElem?_toList, Array.getElem?_toList, Array.getElem?_modify]
  by_cases hi : j = i
  · subst hi
    rw [Array.getElem?_toList] at hj
    rw [if_pos rfl, hj]
    rfl
  · rw [if_neg hi]
set_option maxRecDepth 10000 in
theorem HO.putS {b : Nat} {c : List UInt8 → Int} {q : List UInt8} {v : Int} (hm : ρ m = .map (some b)) (hk : ρ k = .string (strOf q)) (hy : ρ y = I64 v) (hM : MpS h b c) (hq : q.length ≤ maxLen)
    (kk : ∀ h', h'.size = h.size → (∀ j, j ≠ b → h'[j]? = h[j]?) → MpS h' b (fun s => if s = q then v else c s) → K undef h') : HO Tryd.prog ⟨d, .mapUpdate 46 m k y, ty, pos, af, gd⟩ ρ h K := by
  intro w hw
  subst hw
  obtain ⟨es, cl, h1, h2, h3, h4⟩ := hM
  obtain ⟨l, hl⟩ := key9 q hq
  have hc := law9.check w false hl
  have hu : Tryd.prog.underlying 46 = some (.map 9 3) := Tryd.underlying46
  have hg : (getObj b).run Tryd.prog w = .ok (.map es cl) w := by simp [getObj, Sem.run, h1]
  have hlt := lt_of_some h1
  rcases findS h2 q hq w with ⟨e1, e2⟩ | ⟨j, e, e1, e2, e3, e4⟩
  · have hs : (setObj b (.map (es.push { key := .string (strOf q), val := I64 v, born := cl }) (cl + 1))).run Tryd.prog w = .ok () (Go.ChangeMaps.setBlock w b (.map (es.push { key := .string (strOf q), val := I64 v, born := cl }) (cl + 1))) := by
      simp [setObj, Sem.run, h1, Go.ChangeMaps.setBlock]
    have : (execOp ρ ⟨d, .mapUpdate 46 m k y, ty, pos, af, gd⟩).run Tryd.prog w = .ok .skip (Go.ChangeMaps.setBlock w b (.map (es.push { key := .string (strOf q), val := I64 v, born := cl }) (cl + 1))) := by
      simp [execOp, hm, hk, hy, Instr.mapUpdate, Sem.run_bind, run_underlying hu, hg, hc, e1, hs]
    rw [this]
    refine ⟨⟨rfl, rfl, rfl⟩, kk _ (by simp [Go.ChangeMaps.setBlock]) (fun j hj => by simp [Go.ChangeMaps.setBlock, Array.getElem?_setIfInBounds, Ne.symm hj]) ⟨es.push { key := .string (strOf q), val := I64 v, born := cl }, cl + 1, by simp [Go.ChangeMaps.setBlock, hlt], ?_, ?_, ?_⟩⟩
    · intro e he
      rw [Array.toList_push, List.mem_append] at he
      rcases he with he | he
      · obtain ⟨s, k0, k1, k2⟩ := h2 e he
        refine ⟨s, k0, k1, ?_⟩
        show e.val = I64 (if s = q then v else c s)
        rw [if_neg (fun r => e2 e he (by rw [k1, r]))]
        exact k2
      · have he : e = { key := .string (strOf q), val := I64 v, born := cl } := by simpa using he
        exact ⟨q, hq, by rw [he], by rw [he]; simp⟩
    · rw [Array.toList_push, List.map_append, List.nodup_append]
      refine ⟨h3, by simp, ?_⟩
      intro a ha a' ha' r
      obtain ⟨e, he, rfl⟩ := List.mem_map.1 ha
      have ha' : a' = .string (strOf q) := by simpa using ha'
      exact e2 e he (r.trans ha')
    · intro s hs'
      have hsq : s ≠ q := fun r => hs' { key := .string (strOf q), val := I64 v, born := cl } (by simp) (by rw [r])
      simp only [if_neg hsq]
      exact h4 s fun e he => hs' e (by rw [Array.toList_push]; exact List.mem_append.2 (.inl he))
  · have hj : j < es.toList.length := (List.getElem?_eq_some_iff.1 e2).1
    have hst : (Instr.keyThatStays (((es[j]?).map (·.key)).getD (.string (strOf q))) (.string (strOf q))).run Tryd.prog w = .ok (.string (strOf q)) w := by
      rw [← Array.getElem?_toList, e2]
      show (Instr.keyThatStays e.key (.string (strOf q))).run Tryd.prog w = _
      rw [e3]
      exact law9.stays w hl
    have hs : (setObj b (.map (es.modify j fun e' => { e' with key := .string (strOf q), val := I64 v }) cl)).run Tryd.prog w = .ok () (Go.ChangeMaps.setBlock w b (.map (es.modify j fun e' => { e' with key := .string (strOf q), val := I64 v }) cl)) := by
      simp [setObj, Sem.run, h1, Go.ChangeMaps.setBlock]
    have : (execOp ρ ⟨d, .mapUpdate 46 m k y, ty, pos, af, gd⟩).run Tryd.prog w = .ok .skip (Go.ChangeMaps.setBlock w b (.map (es.modify j fun e' => { e' with key := .string (strOf q), val := I64 v }) cl)) := by
      simp only [execOp, hm, hk, hy, Instr.mapUpdate, Sem.run_bind, run_underlying hu, hg, hc, e1, Result.andThen_ok, hst, hs]
      rfl
    rw [this]
    have hmk := modify_keys (v := I64 v) e2
    rw [e3] at hmk
    refine ⟨⟨rfl, rfl, rfl⟩, kk _ (by simp [Go.ChangeMaps.setBlock]) (fun j hj => by simp [Go.ChangeMaps.setBlock, Array.getElem?_setIfInBounds, Ne.symm hj]) ⟨es.modify j fun e' => { e' with key := .string (strOf q), val := I64 v }, cl, by simp [Go.ChangeMaps.setBlock, hlt], ?_, ?_, ?_⟩⟩
    · intro e' he'
      obtain ⟨i, hi⟩ := List.mem_iff_getElem?.1 he'
      rw [Array.getElem?_toList, Array.getElem?_modify] at hi
      by_cases hij : j = i
      · subst hij
        rw [if_pos rfl] at hi
        rw [Array.getElem?_toList] at e2
        rw [e2] at hi
        have hi : e' = { e with key := .string (strOf q), val := I64 v } := by simpa using hi.symm
        exact ⟨q, hq, by rw [hi], by rw [hi]; simp⟩
      · rw [if_neg hij] at hi
        have hm' : e' ∈ es.toList := List.mem_iff_getElem?.2 ⟨i, by rw [Array.getElem?_toList]; exact hi⟩
        obtain ⟨s, k0, k1, k2⟩ := h2 e' hm'
        refine ⟨s, k0, k1, ?_⟩
        show e'.val = I64 (if s = q then v else c s)
        have hsq : s ≠ q := by
          rintro rfl
          have hil : i < es.toList.length := by
            have := (Array.getElem?_eq_some_iff.1 hi).1
            simpa using this
          have q1 : (es.toList.map (·.key))[i]? = some (.string (strOf s)) := by rw [List.getElem?_map, Array.getElem?_toList, hi]; simp [k1]
          have q2 : (es.toList.map (·.key))[j]? = some (.string (strOf s)) := by rw [List.getElem?_map, e2]; simp [e3]
          have hii : i < (es.toList.map (·.key)).length := by rw [List.length_map]; exact hil
          have := (List.getElem?_inj hii h3).1 (q1.trans q2.symm)
          exact hij this.symm
        rw [if_neg hsq]
        exact k2
    · rw [hmk]; exact h3
    · intro s hs'
      have hsq : s ≠ q := by
        rintro rfl
        have : Value.string (strOf s) ∈ (es.modify j fun e' => { e' with key := .string (strOf s), val := I64 v }).toList.map (·.key) := by
          rw [hmk]
          exact List.mem_map.2 ⟨e, List.mem_iff_getElem?.2 ⟨j, e2⟩, e3⟩
        obtain ⟨e', he', k1⟩ := List.mem_map.1 this
        exact hs' e' he' k1
      simp only [if_neg hsq]
      refine h4 s fun e' he' r => ?_
      have : Value.string (strOf s) ∈ (es.modify j fun e' => { e' with key := .string (strOf q), val := I64 v }).toList.map (·.key) := by
        rw [hmk]
        exact List.mem_map.2 ⟨e', he', r⟩
      obtain ⟨e'', he'', k1⟩ := List.mem_map.1 this
      exact hs' e'' he'' k1
end
end Go.Proofs.YtjopikfkgjbcgaaDoor
