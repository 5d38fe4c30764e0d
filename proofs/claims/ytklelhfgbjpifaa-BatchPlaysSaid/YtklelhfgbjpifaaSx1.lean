/- slices.SortFunc at digests, told of heaps. -/
import Derived.Test.YtklelhfgbjpifaaDr
import Derived.Test.YtklelhfgbjpifaaShelf
import Derived.DeepKeys5
import Derived.Test.YtklelhfgbjpifaaSha2
import Derived.Test.YtklelhfgbjpifaaRw
import Derived.Test.YtklelhfgbjpifaaLast
namespace Go.Proofs.Ytklelhfgbjpifaa
set_option linter.unnecessarySimpa false
set_option linter.unusedSimpArgs false
set_option linter.unusedVariables false
open Go.RowKit Go.Sort
abbrev Dg := { l : List UInt8 // l.length = 32 }
instance : Inhabited Dg := ⟨⟨zero32, rfl⟩⟩
def encD (x : Dg) : List Value := x.1.map B8
def fl (l : List Dg) : List Value := l.flatMap encD
theorem encD_len (x : Dg) : (encD x).length = 32 := by rw [encD, List.length_map, x.2]
theorem fl_cons (x : Dg) (l : List Dg) : fl (x :: l) = encD x ++ fl l := by unfold fl; rw [List.flatMap_cons]
theorem fl_append (l m : List Dg) : fl (l ++ m) = fl l ++ fl m := by unfold fl; rw [List.flatMap_append]
theorem fl_len (l : List Dg) : (fl l).length = l.length * 32 := by
  induction l with
  | nil => rfl
  | cons x l ih => rw [fl_cons, List.length_append, encD_len, ih, List.length_cons]; omega
theorem fl_get (l : List Dg) (t : Nat) (h : t < l.length * 32) : (fl l)[t]? = (encD (l[t / 32]'(by omega)))[t % 32]? := by
  induction l generalizing t with
  | nil => simp at h
  | cons x l ih =>
    rw [fl_cons]
    by_cases ht : t < 32
    · rw [List.getElem?_append_left (by rw [encD_len]; exact ht)]
      have h1 : t / 32 = 0 := by omega
      have h2 : t % 32 = t := by omega
      simp only [h1, h2, List.getElem_cons_zero]
    · rw [List.getElem?_append_right (by rw [encD_len]; omega), encD_len, ih (t - 32) (by rw [List.length_cons] at h; omega)]
      have h1 : t / 32 = (t - 32) / 32 + 1 := by omega
      have h2 : (t - 32) % 32 = t % 32 := by omega
      simp only [h1, h2, List.getElem_cons_succ]
theorem flatK_fl (l : List Dg) : flatK encD 32 l.toArray = (fl l).toArray := by
  refine ext_get! (by rw [size_flatK, List.size_toArray, List.size_toArray, fl_len]) fun t ht => ?_
  rw [size_flatK, List.size_toArray] at ht
  rw [get_flatK _ _ _ _ (by rw [List.size_toArray]; exact ht)]
  have h1 := fl_get l t ht
  have h2 : t / 32 < l.length := by omega
  have h3 : t % 32 < (encD l[t / 32]).length := by rw [encD_len]; omega
  have h4 : t < (fl l).length := by rw [fl_len]; exact ht
  rw [List.getElem?_eq_getElem h4, List.getElem?_eq_getElem h3] at h1
  have h5 := Option.some.inj h1
  have e1 : l.toArray[t / 32]! = l[t / 32] := by simp [h2]
  rw [e1]
  have e2 : (encD l[t / 32])[t % 32]! = (encD l[t / 32])[t % 32] := by simp [h3]
  have e3 : (fl l).toArray[t]! = (fl l)[t] := by simp [h4]
  rw [e2, e3, h5]
theorem swoD : SWO (ltOf fun x y : Dg => cmpL x.1 y.1) where
  irrefl x := by unfold ltOf; rw [cmp_less]; exact less_irrefl _
  trans x y z h1 h2 := by
    unfold ltOf at *
    rw [cmp_less] at *
    exact less_trans _ _ _ h1 h2
  ntrans x y z h1 h2 := by
    unfold ltOf at *
    rw [cmp_less] at *
    cases h3 : lessL x.1 z.1 with
    | false => rfl
    | true =>
      have ht := less_total x.1 y.1 (by rw [x.2, y.2])
      rw [h1, Bool.false_or] at ht
      by_cases e : x.1 = y.1
      · rw [e, h2] at h3; cases h3
      · rw [beq_eq_false_iff_ne.2 e] at ht
        have := less_trans _ _ _ ht h3
        rw [h2] at this
        cases this
theorem grow_of {w w' : World} (r : Dr.Rest w w') (x : Dr.Ext w.heap w'.heap) : ∃ q os, w' = grow (w.drewN q) os := by
  refine ⟨w'.drawn - w.drawn, w'.heap.extract w.heap.size w'.heap.size, ?_⟩
  have hh : w'.heap = w.heap ++ w'.heap.extract w.heap.size w'.heap.size := by
    apply Array.ext_getElem?
    intro j
    have hs := x.size
    by_cases hj : j < w.heap.size
    · rw [Array.getElem?_append_left hj, x.old j hj]
    · rw [Array.getElem?_append_right (by omega), Array.getElem?_extract]
      by_cases hk : j < w'.heap.size
      · rw [if_pos (by omega)]
        congr 1
        omega
      · rw [if_neg (by omega), Array.getElem?_eq_none (by omega)]
  have h1 := r.os; have h2 := r.tape; have h3 := r.output; have h4 := r.drawn
  obtain ⟨hp, tp, dr, os, op⟩ := w
  obtain ⟨hp', tp', dr', os', op'⟩ := w'
  simp only at h1 h2 h3 h4 hh
  subst h1 h2 h3
  unfold grow World.drewN
  simp only
  rw [← hh, Nat.add_sub_cancel' h4]
theorem cmpLays (b : Nat) (w : World) (n : Nat) : CmpLays Try.prog 52 #[] encD 32 (fun x y : Dg => cmpL x.1 y.1) b 0 n w := by
  intro m os dk hs x y
  refine (Dr.keycmp_ch _ x.1 y.1 x.2 y.2 _ rfl).mono ?_
  rintro e w' ⟨v, he, hr, hv, hx⟩
  exact ⟨by rw [he, hv], grow_of hr hx⟩
theorem put_fl (F cur : List Value) (h : F.length ≤ cur.length) : putCells id 0 F.toArray cur.toArray = (F ++ cur.drop F.length).toArray := by
  apply Array.ext_getElem?
  intro j
  unfold putCells
  rw [Array.getElem?_mapIdx, List.getElem?_toArray, List.getElem?_toArray]
  by_cases hj : j < F.length
  · rw [List.getElem?_append_left hj, List.getElem?_eq_getElem hj, List.getElem?_eq_getElem (by omega)]
    simp [hj]
  · rw [List.getElem?_append_right (by omega), List.getElem?_drop, show F.length + (j - F.length) = j by omega]
    cases cur[j]? with
    | none => rfl
    | some v => simp [hj]
theorem sort_ch (h : Heap) (b cap n : Nat) (l : List Dg) (cur : List Value) (e : TypeId) (hn : n = l.length) (hb : h[b]? = some (.cells cur.toArray e (0, 0))) (ht : cur.take (l.length * 32) = fl l) (hsz : l.length < 4611686018427387904) :
    CH Try.prog 62 #[.slice (some ⟨b, 0, none⟩) n cap, .func (.func 52) #[] #[]] h fun v h' => v = .tuple #[] ∧ ∃ l' : List Dg, l'.Perm l ∧ l'.Pairwise (fun x y => lessL y.1 x.1 = false) ∧ h'[b]? = some (.cells (fl l' ++ cur.drop (l.length * 32)).toArray e (0, 0)) ∧ ExB b h h' := by
  subst hn
  intro w hw
  subst hw
  have hcl : l.length * 32 ≤ cur.length := by
    have := congrArg List.length ht
    rw [List.length_take, fl_len] at this
    omega
  have hH : HoldsK encD 32 w b 0 l.toArray := by
    unfold HoldsK Holds
    rw [flatK_fl]
    intro j hj
    rw [List.size_toArray] at hj
    have h1 : cur[j]? = (fl l)[j]? := by rw [← ht, List.getElem?_take, if_pos (by rw [fl_len] at hj; omega)]
    constructor
    · rw [World.cell?, hb]
      simp only [Nat.zero_add, List.getElem?_toArray]
      rw [h1]
      simp [hj]
    · simp [World.frozen?, hb]
  have hcon := AnyQ.slices_SortFunc Try.sortD 32 (fun w => by kernel_rfl) (fun w => by kernel_rfl) encD encD_len (fun x v hv => by
    unfold encD at hv
    obtain ⟨c, _, rfl⟩ := List.mem_map.1 hv
    rfl) (fun x y : Dg => cmpL x.1 y.1) swoD 52 #[] b 0 cap l.toArray w (enters_of Try.func52 (by kernel_rfl) rfl) (cmpLays b w _) hH (lt_of_some hb) (by rw [List.size_toArray]; exact hsz)
  rw [List.size_toArray] at hcon
  refine Calls.mono hcon ?_
  rintro e' w' ⟨he, d', n, os, hp, hs, rfl⟩
  have hd : d'.size = l.length := by have := hp.1; rw [List.size_toArray] at this; exact this
  have hd' : d' = d'.toList.toArray := rfl
  have hbl := lt_of_some hb
  refine ⟨_, he, ⟨rfl, rfl, rfl⟩, rfl, d'.toList, ?_, ?_, ?_, ?_⟩
  · have h1 := hp.2.2
    rw [Array.extract_eq_self_of_le (by omega), Array.extract_eq_self_of_le (by rw [List.size_toArray]; exact Nat.le_refl _)] at h1
    exact h1
  · rw [List.pairwise_iff_getElem]
    intro i j hi hj hij
    have h1 := hs i j (Nat.zero_le _) hij (by rw [← hd]; simpa using hj)
    rw [Array.length_toList] at hi hj
    rw [getElem!_pos d' j hj, getElem!_pos d' i hi] at h1
    unfold ltOf at h1
    rw [cmp_less] at h1
    simpa using h1
  · show ((w.heap.modify b (onCells (putCells id 0 (flatK encD 32 d')))) ++ os)[b]? = _
    rw [Array.getElem?_append_left (by rw [Array.size_modify]; exact hbl), Array.getElem?_modify, if_pos rfl, hb]
    show some (Obj.cells (putCells id 0 (flatK encD 32 d') cur.toArray) e (0, 0)) = _
    rw [hd', flatK_fl, put_fl _ _ (by rw [fl_len, Array.length_toList, hd]; exact hcl), fl_len, Array.length_toList, hd]
  · refine ⟨?_, fun j hj hne => ?_⟩
    · show w.heap.size ≤ ((w.heap.modify b (onCells (putCells id 0 (flatK encD 32 d')))) ++ os).size
      rw [Array.size_append, Array.size_modify]
      omega
    · show ((w.heap.modify b (onCells (putCells id 0 (flatK encD 32 d')))) ++ os)[j]? = _
      rw [Array.getElem?_append_left (by rw [Array.size_modify]; exact hj), Array.getElem?_modify, if_neg (fun q => hne q.symm)]
end Go.Proofs.Ytklelhfgbjpifaa
/-! Maps of digests: as the heap has them; look-ups and stores at keys that are arrays of bytes. -/
namespace Go.Proofs.Ytklelhfgbjpifaa
set_option linter.unnecessarySimpa false
set_option linter.unusedSimpArgs false
set_option linter.unusedVariables false
open Go.RowKit
theorem und31 : Try.prog.underlying 31 = some (.array 32 5) := Try.underlying31
theorem und5 : Try.prog.underlying 5 = some (.int .u8) := Try.underlying5
theorem laidOutD : laidOutB Try.prog = true := by kernel_rfl
theorem law31 : WideMaps.KeyLaw Try.prog 31 := deep_law_gate laidOutD (Nat.le_of_ble_eq_true (by kernel_rfl)) (Nat.le_of_ble_eq_true (by kernel_rfl)) (by kernel_rfl) (by rw [und31])
theorem mapM_all {α β : Type} {g : α → Option β} {f : α → β} : ∀ (l : List α), (∀ i ∈ l, g i = some (f i)) → l.mapM g = some (l.map f)
  | [], _ => rfl
  | a :: l, h => by
    rw [List.mapM_cons, h a (List.mem_cons_self ..), mapM_all l fun i hi => h i (List.mem_cons_of_mem _ hi)]
    rfl
theorem cells31 : Try.prog.cellsOf 31 = 32 := by kernel_rfl
theorem cells5 : Try.prog.cellsOf 5 = 1 := by kernel_rfl
def keyV (x : Dg) : Value := .agg (encD x).toArray
theorem wf8 (c : UInt8) : (Lit.int .u8 (c.toNat : Int)).wf = true := by
  have := c.toNat_lt
  simp [Lit.wf, IntKind.min, IntKind.max, IntKind.bits, IntKind.signed]
  omega
set_option maxRecDepth 10000 in
theorem key31 (x : Dg) : ∃ l, keyOf Try.prog 31 (keyV x) = some l := by
  have h1 : Try.prog.keyType 31 = true := by kernel_rfl
  have h2 : (keyV x).formed Try.prog 31 = true := by
    show (match Try.prog.underlying 31 with | some (.struct _) | some (.array _ _) => (encD x).toArray.size == Try.prog.cellsOf 31 | _ => false) = true
    rw [und31, cells31, List.size_toArray, encD_len]
    rfl
  have h3 : Try.prog.types.size + 1 = (Try.prog.types.size - 1) + 1 + 1 := by
    have : 0 < Try.prog.types.size := by
      refine Nat.pos_of_ne_zero fun e => ?_
      have : decide (Try.prog.types.size = 0) = false := by kernel_rfl
      rw [e] at this
      simp at this
    omega
  have h4 : ∃ ls, Try.prog.keyLits (Try.prog.types.size + 1) 31 (encD x) = some ls := by
    have hm : (List.range 32).mapM (fun i => Try.prog.keyLits (Try.prog.types.size - 1 + 1) 5 (List.take (Try.prog.cellsOf 5) (List.drop (i * Try.prog.cellsOf 5) (encD x)))) = some ((List.range 32).map fun i => [.int .u8 ((x.1.getD i 0).toNat : Int)]) := by
      refine mapM_all (List.range 32) fun i hi => ?_
      have hlt : i < x.1.length := by rw [x.2]; exact List.mem_range.1 hi
      rw [cells5, Nat.mul_one]
      have hd : (encD x).drop i = B8 (x.1.getD i 0) :: (encD x).drop (i + 1) := by
        rw [List.drop_eq_getElem_cons (by rw [encD_len]; exact List.mem_range.1 hi)]
        congr 1
        unfold encD
        rw [List.getElem_map]
        simp [hlt]
      rw [hd]
      show Try.prog.keyLits (Try.prog.types.size - 1 + 1) 5 [B8 (x.1.getD i 0)] = _
      unfold Program.keyLits
      simp only [und5]
      rw [if_pos ⟨trivial, wf8 _⟩]
    rw [h3]
    unfold Program.keyLits
    simp only [und31]
    rw [if_pos (by rw [encD_len, cells31]), hm]
    exact ⟨_, rfl⟩
  obtain ⟨ls, hls⟩ := h4
  refine ⟨.string (keyBytes ls), ?_⟩
  unfold keyOf
  rw [und31]
  simp only
  rw [h1, h2]
  simp only [Bool.and_self, if_true]
  show Option.map _ (Try.prog.keyLits (Try.prog.types.size + 1) 31 (encD x)) = _
  rw [hls]
  rfl
def unB : Value → UInt8
  | .int _ n => UInt8.ofNat n.toNat
  | _ => 0
theorem unB_B8 (c : UInt8) : unB (B8 c) = c := by
  show UInt8.ofNat ((c.toNat : Int)).toNat = c
  simp
theorem keyV_inj {x y : Dg} (h : keyV x = keyV y) : x = y := by
  unfold keyV at h
  injection h with h
  have h1 : encD x = encD y := by simpa using h
  unfold encD at h1
  have h2 := congrArg (List.map unB) h1
  rw [List.map_map, List.map_map, show unB ∘ B8 = id from funext unB_B8, List.map_id, List.map_id] at h2
  exact Subtype.ext h2
/-! ### The heap's map -/
/-- Block b is a map of these keys, in the order in which they came, and of these values. -/
def Mp (h : Heap) (b : Nat) (L : List (Dg × Value)) : Prop := ∃ es clock, h[b]? = some (.map es clock) ∧ es.toList.map (fun e => (e.key, e.val)) = L.map (fun p => (keyV p.1, p.2)) ∧ (L.map (·.1)).Nodup ∧ (es.toList.map (·.born)).Nodup ∧ ∀ e ∈ es.toList, e.born < clock
theorem Mp.made {h h' : Heap} (w : Nw h h' (.map #[] 0)) : Mp h' h.size [] := ⟨#[], 0, w.new, rfl, List.nodup_nil, List.nodup_nil, fun _ h => by cases h⟩
theorem Mp.keep {h h' : Heap} {b : Nat} {L : List (Dg × Value)} (m : Mp h b L) (k : h'[b]? = h[b]?) : Mp h' b L := by
  obtain ⟨es, cl, h1, h2⟩ := m
  exact ⟨es, cl, k.trans h1, h2⟩
theorem Mp.lt {h : Heap} {b : Nat} {L : List (Dg × Value)} (m : Mp h b L) : b < h.size := by
  obtain ⟨es, cl, h1, _⟩ := m
  exact lt_of_some h1
/-- What a look-up gives. -/
def look (L : List (Dg × Value)) (x : Dg) : Option Value := (L.find? fun p => p.1 == x).map (·.2)
theorem zero29 (w : World) : (zeroValue 29).run Try.prog w = .ok (.slice none 0 0) w := by kernel_rfl
theorem find_run {es : Array MapEntry} {L : List (Dg × Value)} (he : es.toList.map (fun e => (e.key, e.val)) = L.map (fun p => (keyV p.1, p.2))) (hn : (L.map (·.1)).Nodup) (x : Dg) (w : World) :
    (look L x = none ∧ (Instr.findKey 31 (keyV x) es.toList).run Try.prog w = .ok none w) ∨ ∃ v j, look L x = some v ∧ (Instr.findKey 31 (keyV x) es.toList).run Try.prog w = .ok (some (j, v)) w := by
  obtain ⟨l, hl⟩ := key31 x
  have hk : ∀ e ∈ es.toList, ∃ p ∈ L, e.key = keyV p.1 ∧ e.val = p.2 := by
    intro e hm
    have : (e.key, e.val) ∈ L.map (fun p => (keyV p.1, p.2)) := by
      rw [← he]
      exact List.mem_map.2 ⟨e, hm, rfl⟩
    obtain ⟨p, hp, e1⟩ := List.mem_map.1 this
    injection e1 with e1 e2
    exact ⟨p, hp, e1.symm, e2.symm⟩
  rcases law31.find w hl es.toList (fun e hm => by
    obtain ⟨p, _, h1, _⟩ := hk e hm
    rw [h1]
    exact key31 p.1) with ⟨h1, h2⟩ | ⟨j, e, h1, h2, h3⟩
  · left
    refine ⟨?_, h1⟩
    unfold look
    rw [Option.map_eq_none_iff, List.find?_eq_none]
    intro p hp q
    rw [beq_iff_eq] at q
    have : (keyV p.1, p.2) ∈ es.toList.map (fun e => (e.key, e.val)) := by rw [he]; exact List.mem_map.2 ⟨p, hp, rfl⟩
    obtain ⟨e, hm, e1⟩ := List.mem_map.1 this
    injection e1 with e1 e2
    exact h2 e hm (by rw [e1, q])
  · right
    refine ⟨e.val, j, ?_, h1⟩
    have hm : e ∈ es.toList := List.mem_iff_getElem?.2 ⟨j, h2⟩
    obtain ⟨p, hp, e1, e2⟩ := hk e hm
    have hpx : p.1 = x := keyV_inj (e1.symm.trans h3)
    unfold look
    have : L.find? (fun q => q.1 == x) = some p := by
      clear he hk h1 h2 hm
      induction L with
      | nil => cases hp
      | cons q L ih =>
        rw [List.map_cons, List.nodup_cons] at hn
        rcases List.mem_cons.1 hp with r | r
        · rw [List.find?_cons, ← r, hpx]; simp
        · have hq : q.1 ≠ x := fun s => hn.1 (by rw [s, ← hpx]; exact List.mem_map.2 ⟨p, r, rfl⟩)
          rw [List.find?_cons, beq_eq_false_iff_ne.2 hq]
          exact ih hn.2 r
    rw [this, e2]
    rfl
section
variable {ρ : Operand → Value} {h : Heap} {d : Option Tmp} {ty : TypeId} {pos : String} {af : Array Edge} {gd : Option (Nat × Bool)} {K : Value → Heap → Prop} {x y m k : Operand}
set_option maxRecDepth 10000 in
theorem Runs.lookD {b : Nat} {L : List (Dg × Value)} {q : Dg} (hm : ρ m = .map (some b)) (hk : ρ k = keyV q) (hM : Mp h b L) :
    Runs Try.prog ⟨d, .lookup 63 m k true, ty, pos, af, gd⟩ ρ h (.tuple #[(look L q).getD (.slice none 0 0), .bool (look L q).isSome]) := fun w hw => by
  subst hw
  obtain ⟨es, cl, h1, h2, h3, _⟩ := hM
  obtain ⟨l, hl⟩ := key31 q
  have hc := law31.check w es.isEmpty hl
  have hu : Try.prog.underlying 63 = some (.map 31 29) := Try.underlying63
  rcases find_run h2 h3 q w with ⟨e1, e2⟩ | ⟨v, j, e1, e2⟩
  · rw [e1]
    simp [execOp, hm, hk, Instr.lookup, Sem.run_bind, run_underlying hu, getObj, Sem.run, h1, hc, e2, zero29]
  · rw [e1]
    simp [execOp, hm, hk, Instr.lookup, Sem.run_bind, run_underlying hu, getObj, Sem.run, h1, hc, e2]
theorem HO.makeMapD (k : ∀ h', Nw h h' (.map #[] 0) → K (.map (some h.size)) h') : HO Try.prog ⟨d, .makeMap 63 none, ty, pos, af, gd⟩ ρ h K := by
  intro w hw
  subst hw
  have : (execOp ρ ⟨d, .makeMap 63 none, ty, pos, af, gd⟩).run Try.prog w = .ok (.value (.map (some w.heap.size))) (w.alloc (.map #[] 0)) := by
    simp [execOp, Instr.makeMap, Sem.run_bind, newObj]
    rfl
  rw [this]
  refine ⟨⟨rfl, rfl, rfl⟩, ?_⟩
  rw [heap_alloc]
  exact k _ (Nw.push _ _)
set_option maxRecDepth 10000 in
theorem HO.putD {b : Nat} {L : List (Dg × Value)} {q : Dg} {v : Value} (hm : ρ m = .map (some b)) (hk : ρ k = keyV q) (hy : ρ y = v) (hM : Mp h b L) (hno : look L q = none)
    (c : ∀ h', h'.size = h.size → (∀ j, j ≠ b → h'[j]? = h[j]?) → Mp h' b (L ++ [(q, v)]) → K undef h') : HO Try.prog ⟨d, .mapUpdate 63 m k y, ty, pos, af, gd⟩ ρ h K := by
  intro w hw
  subst hw
  have hM' := hM
  obtain ⟨es, cl, h1, h2, h3, h4, h5⟩ := hM
  obtain ⟨l, hl⟩ := key31 q
  have hc := law31.check w false hl
  have hu : Try.prog.underlying 63 = some (.map 31 29) := Try.underlying63
  rcases find_run h2 h3 q w with ⟨e1, e2⟩ | ⟨v', j, e1, e2⟩
  · have hs : (setObj b (.map (es.push { key := keyV q, val := v, born := cl }) (cl + 1))).run Try.prog w = .ok () (Go.ChangeMaps.setBlock w b (.map (es.push { key := keyV q, val := v, born := cl }) (cl + 1))) := by
      simp [setObj, Sem.run, h1, Go.ChangeMaps.setBlock]
    have : (execOp ρ ⟨d, .mapUpdate 63 m k y, ty, pos, af, gd⟩).run Try.prog w = .ok .skip (Go.ChangeMaps.setBlock w b (.map (es.push { key := keyV q, val := v, born := cl }) (cl + 1))) := by
      have hg : (getObj b).run Try.prog w = .ok (.map es cl) w := by simp [getObj, Sem.run, h1]
      simp [execOp, hm, hk, hy, Instr.mapUpdate, Sem.run_bind, run_underlying hu, hg, hc, e2, hs]
    rw [this]
    have hlt := lt_of_some h1
    have hnew : (Go.ChangeMaps.setBlock w b (.map (es.push { key := keyV q, val := v, born := cl }) (cl + 1))).heap[b]? = some (.map (es.push { key := keyV q, val := v, born := cl }) (cl + 1)) := by
      simp [Go.ChangeMaps.setBlock, hlt]
    refine ⟨⟨rfl, rfl, rfl⟩, c _ (by simp [Go.ChangeMaps.setBlock]) (fun j hj => by simp [Go.ChangeMaps.setBlock, Array.getElem?_setIfInBounds, Ne.symm hj]) ⟨_, _, hnew, ?_, ?_, ?_, ?_⟩⟩
    · rw [Array.toList_push, List.map_append, List.map_append, h2]
      rfl
    · rw [List.map_append, List.nodup_append]
      refine ⟨h3, by simp, ?_⟩
      intro a ha c hc e
      have hcq : c = q := by simpa using hc
      obtain ⟨p, hp, rfl⟩ := List.mem_map.1 ha
      unfold look at hno
      rw [Option.map_eq_none_iff, List.find?_eq_none] at hno
      exact hno p hp (by rw [beq_iff_eq, e, hcq])
    · rw [Array.toList_push, List.map_append, List.nodup_append]
      refine ⟨h4, by simp, ?_⟩
      intro a ha c hc e
      have hcq : c = cl := by simpa using hc
      obtain ⟨x, hx, rfl⟩ := List.mem_map.1 ha
      have := h5 x hx
      omega
    · intro x hx
      rw [Array.toList_push, List.mem_append] at hx
      rcases hx with hx | hx
      · have := h5 x hx; omega
      · have : x = { key := keyV q, val := v, born := cl } := by simpa using hx
        rw [this]
        exact Nat.lt_succ_self _
  · rw [hno] at e1; cases e1
end
end Go.Proofs.Ytklelhfgbjpifaa
/-! The store: what it is on the heap; Used, Room, Has, Size, New. -/
namespace Go.Proofs.Ytklelhfgbjpifaa
set_option linter.unnecessarySimpa false
set_option linter.unusedSimpArgs false
set_option linter.unusedVariables false
open Go.RowKit
theorem sz63 : (Try.prog.info? 63).map (·.size) = some 1 := by kernel_rfl
theorem sz65 : (Try.prog.info? 65).map (·.size) = some 3 := by kernel_rfl
/-- A store lies in block s: its map in block b, its room, how much is used. -/
def St3 (h : Heap) (s b : Nat) (room used : Int) : Prop := h[s]? = some (.cells [.map (some b), I64 room, I64 used].toArray 65 (0, 0))
theorem keyV_at (x : Dg) {h : Heap} {t : TypeId} {c : Nat} (hb : h[c]? = some (.cells (encD x).toArray t (0, 0))) : ∀ j v, (encD x)[j]? = some v → cellH h c (0 + j) = some v := load_blk hb
theorem used_ch (h : Heap) (s b : Nat) (room used : Int) (hs : St3 h s b room used) : CH Try.prog 26 #[.pointer (some ⟨s, 0, none⟩)] h fun v h' => v = I64 used ∧ h' = h := by
  refine CH.of_body Try.func26 rfl rfl rfl ?_
  intro f hf
  have p0 : f 0 = .pointer (some ⟨s, 0, none⟩) := by rw [hf]; exact fr0_at rfl
  -- region 0
  repeat refine HW.seq ?_
  refine HW.region ?_
  refine HL.still (Runs.assign rfl) ?_
  intro u2 e2
  refine HL.nil ?_
  -- region 1
  repeat refine HW.seq ?_
  refine HW.region ?_
  refine HL.still (Runs.move p0) ?_
  intro u3 e3
  refine HL.still (Runs.nilc e3) ?_
  intro u4 e4
  refine HL.still (Runs.fld (o' := 2) Try.underlying65 rfl sz3 (by decide) e4 (by rfl)) ?_
  intro u5 e5
  refine HL.still (Runs.load Try.underlying3 rfl e5 (by rw [cellH_of hs]; rfl)) ?_
  intro u6 e6
  refine HL.still (Runs.assign e6) ?_
  intro u2 e2
  refine HL.nil ?_
  refine HW.ret ?_
  exact RT.one rfl e2 ⟨rfl, rfl⟩
theorem room_ch (h : Heap) (s b : Nat) (room used : Int) (hs : St3 h s b room used) : CH Try.prog 28 #[.pointer (some ⟨s, 0, none⟩)] h fun v h' => v = I64 room ∧ h' = h := by
  refine CH.of_body Try.func28 rfl rfl rfl ?_
  intro f hf
  have p0 : f 0 = .pointer (some ⟨s, 0, none⟩) := by rw [hf]; exact fr0_at rfl
  -- region 0
  repeat refine HW.seq ?_
  refine HW.region ?_
  refine HL.still (Runs.assign rfl) ?_
  intro u2 e2
  refine HL.nil ?_
  -- region 1
  repeat refine HW.seq ?_
  refine HW.region ?_
  refine HL.still (Runs.move p0) ?_
  intro u3 e3
  refine HL.still (Runs.nilc e3) ?_
  intro u4 e4
  refine HL.still (Runs.fld (o' := 1) Try.underlying65 rfl sz3 (by decide) e4 (by rfl)) ?_
  intro u5 e5
  refine HL.still (Runs.load Try.underlying3 rfl e5 (by rw [cellH_of hs]; rfl)) ?_
  intro u6 e6
  refine HL.still (Runs.assign e6) ?_
  intro u2 e2
  refine HL.nil ?_
  refine HW.ret ?_
  exact RT.one rfl e2 ⟨rfl, rfl⟩
set_option maxRecDepth 10000 in
theorem has_ch (h : Heap) (s b : Nat) (room used : Int) (L : List (Dg × Value)) (x : Dg) (hs : St3 h s b room used) (hM : Mp h b L) : CH Try.prog 23 #[.pointer (some ⟨s, 0, none⟩), keyV x] h fun v h' => v = .bool (look L x).isSome ∧ Ext h h' := by
  refine CH.of_body Try.func23 rfl rfl rfl ?_
  intro f hf
  have p0 : f 0 = .pointer (some ⟨s, 0, none⟩) := by rw [hf]; exact fr0_at rfl
  have p1 : f 1 = keyV x := by rw [hf]; exact fr0_at rfl
  -- region 0
  repeat refine HW.seq ?_
  refine HW.region ?_
  refine HL.one (HO.box p1 ?_)
  intro h1 w1
  intro u3 e3
  refine HL.still (Runs.assign rfl) ?_
  intro u4 e4
  refine HL.nil ?_
  have hs1 : St3 h1 s b room used := w1.keep hs
  have hM1 : Mp h1 b L := hM.keep (w1.old b hM.lt)
  have hk1 : h1[h.size]? = some (.cells (encD x).toArray 31 (0, 0)) := w1.new
  -- region 1
  repeat refine HW.seq ?_
  refine HW.draw mixed (by kernel_rfl) ?_
  refine HS.still (Runs.move p0) ?_
  intro u8 e8
  refine HS.still (Runs.nilc e8) ?_
  intro u9 e9
  refine HS.still (Runs.fld (o' := 0) Try.underlying65 rfl sz63 (by decide) e9 (by rfl)) ?_
  intro u10 e10
  refine HS.still (Runs.load Try.underlying63 rfl e10 (by rw [cellH_of hs1]; rfl)) ?_
  intro u11 e11
  refine HS.still (Runs.loadAgg Try.underlying31 rfl sz31 e3 (encD_len x) (load_blk hk1)) ?_
  intro u12 e12
  refine HS.still (Runs.lookD e11 e12 hM1) ?_
  intro u13 e13
  refine HS.still (Runs.move e13) ?_
  intro u7 e7
  refine HS.still (Runs.extr e7 rfl) ?_
  intro u14 e14
  refine HS.still (Runs.extr e7 rfl) ?_
  intro u15 e15
  refine HS.still (Runs.assign e14) ?_
  intro u5 e5
  refine HS.still (Runs.assign e15) ?_
  intro u6 e6
  refine HS.nil ?_
  -- region 2
  repeat refine HW.seq ?_
  refine HW.region ?_
  refine HL.still (Runs.move e6) ?_
  intro u16 e16
  refine HL.still (Runs.assign e16) ?_
  intro u4 e4
  refine HL.nil ?_
  refine HW.ret ?_
  exact RT.one rfl e4 ⟨rfl, w1.ext⟩
set_option maxRecDepth 10000 in
theorem size_ch (h : Heap) (s b : Nat) (room used : Int) (L : List (Dg × Value)) (x : Dg) (hs : St3 h s b room used) (hM : Mp h b L) (n : Int) (hn : ∀ v, look L x = some v → ∃ a c, v = .slice a n.toNat c ∧ 0 ≤ n) (hno : look L x = none → n = -1) :
    CH Try.prog 24 #[.pointer (some ⟨s, 0, none⟩), keyV x] h fun v h' => v = I64 n ∧ Ext h h' := by
  refine CH.of_body Try.func24 rfl rfl rfl ?_
  intro f hf
  have p0 : f 0 = .pointer (some ⟨s, 0, none⟩) := by rw [hf]; exact fr0_at rfl
  have p1 : f 1 = keyV x := by rw [hf]; exact fr0_at rfl
  -- region 0
  repeat refine HW.seq ?_
  refine HW.region ?_
  refine HL.one (HO.box p1 ?_)
  intro h1 w1
  intro u3 e3
  refine HL.still (Runs.assign rfl) ?_
  intro u4 e4
  refine HL.nil ?_
  have hs1 : St3 h1 s b room used := w1.keep hs
  have hM1 : Mp h1 b L := hM.keep (w1.old b hM.lt)
  have hk1 : h1[h.size]? = some (.cells (encD x).toArray 31 (0, 0)) := w1.new
  -- region 1
  repeat refine HW.seq ?_
  refine HW.draw mixed (by kernel_rfl) ?_
  refine HS.still (Runs.move p0) ?_
  intro u8 e8
  refine HS.still (Runs.nilc e8) ?_
  intro u9 e9
  refine HS.still (Runs.fld (o' := 0) Try.underlying65 rfl sz63 (by decide) e9 (by rfl)) ?_
  intro u10 e10
  refine HS.still (Runs.load Try.underlying63 rfl e10 (by rw [cellH_of hs1]; rfl)) ?_
  intro u11 e11
  refine HS.still (Runs.loadAgg Try.underlying31 rfl sz31 e3 (encD_len x) (load_blk hk1)) ?_
  intro u12 e12
  refine HS.still (Runs.lookD e11 e12 hM1) ?_
  intro u13 e13
  refine HS.still (Runs.move e13) ?_
  intro u7 e7
  refine HS.still (Runs.extr e7 rfl) ?_
  intro u14 e14
  refine HS.still (Runs.extr e7 rfl) ?_
  intro u15 e15
  refine HS.still (Runs.assign e14) ?_
  intro u5 e5
  refine HS.still (Runs.assign e15) ?_
  intro u6 e6
  refine HS.nil ?_
  cases hq : look L x with
  | none =>
    have g6 : u6 = .bool false := by have := e6; rw [hq] at this; exact this
    -- region 2
    repeat refine HW.seq ?_
    refine HW.region ?_
    refine HL.still (Runs.move g6) ?_
    intro u16 e16
    refine HL.still (Runs.notb e16 (t := false) (u := true) rfl) ?_
    intro u17 e17
    refine HL.nil ?_
    repeat refine HW.seq ?_
    refine HW.yes ?_ ?_
    exact e17
    -- region 3
    repeat refine HW.seq ?_
    refine HW.region ?_
    refine HL.still (Runs.assign rfl) ?_
    intro u4 e4
    refine HL.nil ?_
    refine HW.ret ?_
    exact RT.one rfl e4 ⟨by rw [hno hq], w1.ext⟩
  | some v =>
    obtain ⟨a, c, rfl, h0⟩ := hn v hq
    have g6 : u6 = .bool true := by have := e6; rw [hq] at this; exact this
    have g5 : u5 = .slice a n.toNat c := by have := e5; rw [hq] at this; exact this
    -- region 2
    repeat refine HW.seq ?_
    refine HW.region ?_
    refine HL.still (Runs.move g6) ?_
    intro u16 e16
    refine HL.still (Runs.notb e16 (t := true) (u := false) rfl) ?_
    intro u17 e17
    refine HL.nil ?_
    repeat refine HW.seq ?_
    refine HW.no ?_ ?_
    exact e17
    refine HW.skip ?_
    -- region 4
    repeat refine HW.seq ?_
    refine HW.region ?_
    refine HL.still (Runs.move g5) ?_
    intro u18 e18
    refine HL.still (Runs.lenSl rfl Try.underlying29 e18) ?_
    intro u19 e19
    refine HL.still (Runs.assign e19) ?_
    intro u4 e4
    refine HL.nil ?_
    refine HW.ret ?_
    exact RT.one rfl e4 ⟨by rw [Int.toNat_of_nonneg h0], w1.ext⟩
end Go.Proofs.Ytklelhfgbjpifaa
/-! store.New; slices.Clone of bytes; Get. -/
namespace Go.Proofs.Ytklelhfgbjpifaa
set_option linter.unnecessarySimpa false
set_option linter.unusedSimpArgs false
set_option linter.unusedVariables false
open Go.RowKit
section
variable {ρ : Operand → Value} {h : Heap} {d : Option Tmp} {ty : TypeId} {pos : String} {af : Array Edge} {gd : Option (Nat × Bool)} {K : Value → Heap → Prop} {x y o0 o1 : Operand}
theorem run_buildSt (b : Nat) (r : Int) (w : World) : (Instr.build 65 #[(0, .map (some b)), (1, I64 r)]).run Try.prog w = .ok (.agg [.map (some b), I64 r, I64 0].toArray) w := by kernel_rfl
theorem Runs.buildSt (b : Nat) (r : Int) (e0 : ρ o0 = .map (some b)) (e1 : ρ o1 = I64 r) : Runs Try.prog ⟨d, .build 65 #[(0, o0), (1, o1)], ty, pos, af, gd⟩ ρ h (.agg [.map (some b), I64 r, I64 0].toArray) :=
  Runs.build (fun w => by
    have q : (#[(0, o0), (1, o1)] : Array (Nat × Operand)).map (fun (i, x) => (i, ρ x)) = #[(0, .map (some b)), (1, I64 r)] := by simp [e0, e1]
    rw [q]
    exact run_buildSt b r w)
theorem run_nilSl (n c : Nat) (w : World) : (binOp .eql 29 (.slice none n c) (.slice none 0 0)).run Try.prog w = .ok (.bool true) w := by kernel_rfl
theorem run_nonSl (a : Addr) (n c : Nat) (w : World) : (binOp .eql 29 (.slice (some a) n c) (.slice none 0 0)).run Try.prog w = .ok (.bool false) w := by kernel_rfl
end
def roomO (r : Int) : Int := if (if 1073741824 < r then 1073741824 else r) > 0 then (if 1073741824 < r then 1073741824 else r) else 0
set_option maxRecDepth 10000 in
theorem new_st_ch (h : Heap) (r : Int) : CH Try.prog 16 #[I64 r] h fun v h' => v = .pointer (some ⟨h.size + 1, 0, none⟩) ∧ St3 h' (h.size + 1) h.size (roomO r) 0 ∧ Mp h' h.size [] ∧ Ext h h' := by
  refine CH.of_body Try.func16 rfl rfl rfl ?_
  intro f hf
  have p0 : f 0 = I64 r := by rw [hf]; exact fr0_at rfl
  -- region 0
  repeat refine HW.seq ?_
  refine HW.region ?_
  refine HL.still (Runs.assign rfl) ?_
  intro u2 e2
  refine HL.nil ?_
  -- region 1
  repeat refine HW.seq ?_
  refine HW.region ?_
  refine HL.one (HO.makeMapD ?_)
  intro h1 w1
  intro u3 e3
  refine HL.still (Runs.move p0) ?_
  intro u4 e4
  refine HL.still (Runs.minI e4 rfl rfl) ?_
  intro u5 e5
  refine HL.still (Runs.maxI (a := 0) rfl e5 rfl) ?_
  intro u6 e6
  refine HL.still (Runs.buildSt h.size (roomO r) e3 e6) ?_
  intro u7 e7
  refine HL.one (HO.box e7 ?_)
  intro h2 w2
  intro u8 e8
  refine HL.still (Runs.assign e8) ?_
  intro u2 e2
  refine HL.nil ?_
  have z1 := w1.size
  refine HW.ret ?_
  refine RT.one rfl e2 ⟨by rw [z1], ?_, ?_, ?_⟩
  · have := w2.new
    rw [z1] at this
    exact this
  · exact (Mp.made w1).keep (w2.old _ (by omega))
  · exact w1.ext.trans (w2.ext.mono (by omega))
section
variable {ρ : Operand → Value} {h : Heap} {d : Option Tmp} {ty : TypeId} {pos : String} {af : Array Edge} {gd : Option (Nat × Bool)} {x y : Operand}
theorem Runs.eqNilSl {a : Option Addr} {n c : Nat} (hx : ρ x = .slice a n c) (hy : ρ y = .slice none 0 0) : Runs Try.prog ⟨d, .binOp .eql 29 x y 29, ty, pos, af, gd⟩ ρ h (.bool a.isNone) := fun w _ => by
  have h1 : (eqGuard .eql 29 x y (.slice a n c) (.slice none 0 0)).run Try.prog w = .ok () w := by
    unfold eqGuard
    simp
  have h2 : (binOp .eql 29 (.slice a n c) (.slice none 0 0)).run Try.prog w = .ok (.bool a.isNone) w := by
    cases a with
    | none => exact run_nilSl n c w
    | some a => exact run_nonSl a n c w
  simp only [execOp, hx, hy, Sem.run_bind, h1, Result.andThen_ok, h2]
  rfl
end
set_option maxRecDepth 10000 in
theorem clone_ch (h : Heap) (xs : List UInt8) (a : Option Addr) (n cap : Nat) (hn : n = xs.length) (hsrc : Byt h a xs) (hcap : xs.length ≤ cap) (hlen : xs.length ≤ 140737488355328) :
    CH Try.prog 46 #[.slice a n cap] h fun v h' => ∃ a' c', v = .slice a' xs.length c' ∧ Bs h' h.size 5 a' c' xs ∧ Ext h h' := by
  subst hn
  refine CH.of_body Try.func46 rfl rfl rfl ?_
  intro f hf
  have p0 : f 0 = .slice a xs.length cap := by rw [hf]; exact fr0_at rfl
  -- region 0
  repeat refine HW.seq ?_
  refine HW.region ?_
  refine HL.still (Runs.assign rfl) ?_
  intro u2 e2
  refine HL.nil ?_
  -- region 1
  repeat refine HW.seq ?_
  refine HW.region ?_
  refine HL.still (Runs.move p0) ?_
  intro u3 e3
  refine HL.still (Runs.eqNilSl e3 rfl) ?_
  intro u4 e4
  refine HL.nil ?_
  cases a with
  | none =>
    have hxs : xs = [] := by
      rcases hsrc with q | ⟨sb, so, q, _⟩
      · exact q
      · cases q
    subst hxs
    refine HW.yes e4 ?_
    -- region 2
    repeat refine HW.seq ?_
    refine HW.region ?_
    refine HL.still (Runs.assign rfl) ?_
    intro u2 e2
    refine HL.nil ?_
    refine HW.ret ?_
    exact RT.one rfl e2 ⟨none, 0, rfl, Bs.start h h.size 5, Bel.refl _ _⟩
  | some a =>
    refine HW.no e4 ?_
    refine HW.skip ?_
    -- region 3
    repeat refine HW.seq ?_
    refine HW.region ?_
    refine HL.one (HO.bytes0 ?_)
    intro h1 w1
    intro u5 e5
    refine HL.still (Runs.move p0) ?_
    intro u6 e6
    refine HL.one (HO.app Try.underlying29 in5 rfl e5 e6 rfl rfl (Bs.lit (xs := []) w1 (Nat.le_refl _) (Nat.zero_le _)) (hsrc.ext w1.ext) (by simp; omega) (by rw [w1.size]; omega) ?_)
    intro a5 c5 h5 B5 G5
    intro u7 e7
    refine HL.still (Runs.assign e7) ?_
    intro u2 e2
    refine HL.nil ?_
    refine HW.ret ?_
    exact RT.one rfl e2 ⟨a5, c5, rfl, B5, G5.bel w1.ext (Bs.lit (xs := []) w1 (Nat.le_refl _) (Nat.zero_le _)) (Nat.le_refl _) (Nat.le_refl _)⟩
end Go.Proofs.Ytklelhfgbjpifaa
/-! The store whole: blobs by digests; Get, Has, Size, Used, Room, told of it. -/
namespace Go.Proofs.Ytklelhfgbjpifaa
set_option linter.unnecessarySimpa false
set_option linter.unusedSimpArgs false
set_option linter.unusedVariables false
open Go.RowKit
/-- A value of the map reads as these bytes; it lies in neither of the two blocks, in a block of F's. -/
def Bl (F : Nat → Prop) (h : Heap) (s b : Nat) (v : Value) (xs : List UInt8) : Prop := ∃ a c, v = .slice a xs.length c ∧ Byt h a xs ∧ xs.length ≤ c ∧ ∀ sb so, a = some ⟨sb, so, none⟩ → sb ≠ s ∧ sb ≠ b ∧ sb < h.size ∧ F sb
abbrev Ent := Dg × Value × List UInt8
def valOf (e : Ent) : Dg × Value := (e.1, e.2.1)
def blobOf (e : Ent) : Dg × List UInt8 := (e.1, e.2.2)
def tot : List (Dg × List UInt8) → Nat
  | [] => 0
  | p :: l => p.2.length + tot l
theorem tot_append (l m : List (Dg × List UInt8)) : tot (l ++ m) = tot l + tot m := by
  induction l with
  | nil => simp [tot]
  | cons p l ih => rw [List.cons_append, tot, tot, ih]; omega
/-- A store that lies in block s: its room; its blobs, in the order in which they came; all in blocks of F's. -/
def Sto (F : Nat → Prop) (h : Heap) (s b : Nat) (room : Int) (M : List (Dg × List UInt8)) : Prop :=
  ∃ E : List Ent, M = E.map blobOf ∧ St3 h s b room (tot M : Int) ∧ Mp h b (E.map valOf) ∧ (s ≠ b ∧ F s ∧ F b) ∧ ∀ e ∈ E, Bl F h s b e.2.1 e.2.2
theorem Byt.keep {h h' : Heap} {a : Option Addr} {xs : List UInt8} (x : Byt h a xs) (k : ∀ sb so, a = some ⟨sb, so, none⟩ → h'[sb]? = h[sb]?) : Byt h' a xs := by
  rcases x with x | ⟨sb, so, h1, h2⟩
  · exact .inl x
  · exact .inr ⟨sb, so, h1, fun j hj => by rw [cellH_keep (k sb so h1)]; exact h2 j hj⟩
theorem Bl.keep {F : Nat → Prop} {h h' : Heap} {s b : Nat} {v : Value} {xs : List UInt8} (x : Bl F h s b v xs) (hs : h.size ≤ h'.size) (k : ∀ j, j < h.size → j ≠ s → j ≠ b → F j → h'[j]? = h[j]?) : Bl F h' s b v xs := by
  obtain ⟨a, c, h1, h2, h3, h4⟩ := x
  refine ⟨a, c, h1, h2.keep fun sb so q => ?_, h3, fun sb so q => ⟨(h4 sb so q).1, (h4 sb so q).2.1, Nat.lt_of_lt_of_le (h4 sb so q).2.2.1 hs, (h4 sb so q).2.2.2⟩⟩
  obtain ⟨n1, n2, n3, n4⟩ := h4 sb so q
  exact k sb n3 n1 n2 n4
theorem Bl.weaken {F F' : Nat → Prop} {h : Heap} {s b : Nat} {v : Value} {xs : List UInt8} (x : Bl F h s b v xs) (k : ∀ j, j < h.size → F j → F' j) : Bl F' h s b v xs := by
  obtain ⟨a, c, h1, h2, h3, h4⟩ := x
  refine ⟨a, c, h1, h2, h3, fun sb so q => ⟨(h4 sb so q).1, (h4 sb so q).2.1, (h4 sb so q).2.2.1, k _ (h4 sb so q).2.2.1 (h4 sb so q).2.2.2⟩⟩
theorem Sto.keep {F : Nat → Prop} {h h' : Heap} {s b : Nat} {room : Int} {M : List (Dg × List UInt8)} (x : Sto F h s b room M) (hs : h.size ≤ h'.size) (k : ∀ j, j < h.size → F j → h'[j]? = h[j]?) : Sto F h' s b room M := by
  obtain ⟨E, h1, h2, h3, ⟨h4, h6, h7⟩, h5⟩ := x
  exact ⟨E, h1, (k s (lt_of_some h2) h6).trans h2, h3.keep (k b h3.lt h7), ⟨h4, h6, h7⟩, fun e he => (h5 e he).keep hs fun j hj _ _ hF => k j hj hF⟩
theorem Sto.ext {F : Nat → Prop} {h h' : Heap} {s b : Nat} {room : Int} {M : List (Dg × List UInt8)} (x : Sto F h s b room M) (k : Ext h h') : Sto F h' s b room M := x.keep k.size fun j hj _ => k.old j hj
theorem Sto.lt {F : Nat → Prop} {h : Heap} {s b : Nat} {room : Int} {M : List (Dg × List UInt8)} (x : Sto F h s b room M) : s < h.size := by
  obtain ⟨E, _, h2, _⟩ := x
  exact lt_of_some h2
theorem Sto.weaken {F F' : Nat → Prop} {h : Heap} {s b : Nat} {room : Int} {M : List (Dg × List UInt8)} (x : Sto F h s b room M) (k : ∀ j, j < h.size → F j → F' j) : Sto F' h s b room M := by
  obtain ⟨E, h1, h2, h3, ⟨h4, h6, h7⟩, h5⟩ := x
  exact ⟨E, h1, h2, h3, ⟨h4, k s (lt_of_some h2) h6, k b h3.lt h7⟩, fun e he => (h5 e he).weaken k⟩
theorem Sto.foot {F : Nat → Prop} {h : Heap} {s b : Nat} {room : Int} {M : List (Dg × List UInt8)} (x : Sto F h s b room M) : F s ∧ F b := by
  obtain ⟨E, h1, h2, h3, ⟨h4, h6, h7⟩, h5⟩ := x
  exact ⟨h6, h7⟩
def lookM (M : List (Dg × List UInt8)) (x : Dg) : Option (List UInt8) := (M.find? fun p => p.1 == x).map (·.2)
theorem look_blob (E : List Ent) (x : Dg) : (look (E.map valOf) x = none ∧ lookM (E.map blobOf) x = none) ∨ ∃ e ∈ E, e.1 = x ∧ look (E.map valOf) x = some e.2.1 ∧ lookM (E.map blobOf) x = some e.2.2 := by
  unfold look lookM
  induction E with
  | nil => exact .inl ⟨rfl, rfl⟩
  | cons e E ih =>
    rw [List.map_cons, List.map_cons, List.find?_cons, List.find?_cons]
    by_cases hx : e.1 = x
    · right
      refine ⟨e, List.mem_cons_self .., hx, ?_, ?_⟩
      · rw [show ((valOf e).1 == x) = true from beq_iff_eq.2 hx]; rfl
      · rw [show ((blobOf e).1 == x) = true from beq_iff_eq.2 hx]; rfl
    · rw [show ((valOf e).1 == x) = false from beq_eq_false_iff_ne.2 hx, show ((blobOf e).1 == x) = false from beq_eq_false_iff_ne.2 hx]
      rcases ih with q | ⟨g, hg, q⟩
      · exact .inl q
      · exact .inr ⟨g, List.mem_cons_of_mem _ hg, q⟩
theorem hasS_ch {F : Nat → Prop} (h : Heap) (s b : Nat) (room : Int) (M : List (Dg × List UInt8)) (x : Dg) (hS : Sto F h s b room M) : CH Try.prog 23 #[.pointer (some ⟨s, 0, none⟩), keyV x] h fun v h' => v = .bool (lookM M x).isSome ∧ Ext h h' := by
  obtain ⟨E, rfl, h2, h3, h4, h5⟩ := hS
  refine (has_ch h s b room _ (E.map valOf) x h2 h3).mono fun v h' q => ⟨?_, q.2⟩
  rw [q.1]
  rcases look_blob E x with ⟨e1, e2⟩ | ⟨e, _, _, e1, e2⟩ <;> rw [e1, e2] <;> rfl
def sizeO (M : List (Dg × List UInt8)) (x : Dg) : Int := match lookM M x with | none => -1 | some xs => (xs.length : Int)
theorem sizeS_ch {F : Nat → Prop} (h : Heap) (s b : Nat) (room : Int) (M : List (Dg × List UInt8)) (x : Dg) (hS : Sto F h s b room M) : CH Try.prog 24 #[.pointer (some ⟨s, 0, none⟩), keyV x] h fun v h' => v = I64 (sizeO M x) ∧ Ext h h' := by
  obtain ⟨E, rfl, h2, h3, h4, h5⟩ := hS
  refine size_ch h s b room _ (E.map valOf) x h2 h3 _ (fun v hv => ?_) fun hv => ?_
  · rcases look_blob E x with ⟨e1, _⟩ | ⟨e, he, _, e1, e2⟩
    · rw [e1] at hv; cases hv
    · rw [e1] at hv
      cases hv
      obtain ⟨a, c, q1, _⟩ := h5 e he
      unfold sizeO
      rw [e2]
      exact ⟨a, c, q1, Int.natCast_nonneg _⟩
  · rcases look_blob E x with ⟨_, e2⟩ | ⟨e, he, _, e1, e2⟩
    · unfold sizeO; rw [e2]
    · rw [e1] at hv; cases hv
theorem usedS_ch {F : Nat → Prop} (h : Heap) (s b : Nat) (room : Int) (M : List (Dg × List UInt8)) (hS : Sto F h s b room M) : CH Try.prog 26 #[.pointer (some ⟨s, 0, none⟩)] h fun v h' => v = I64 (tot M) ∧ h' = h := by
  obtain ⟨E, _, h2, _⟩ := hS
  exact used_ch h s b room _ h2
theorem roomS_ch {F : Nat → Prop} (h : Heap) (s b : Nat) (room : Int) (M : List (Dg × List UInt8)) (hS : Sto F h s b room M) : CH Try.prog 28 #[.pointer (some ⟨s, 0, none⟩)] h fun v h' => v = I64 room ∧ h' = h := by
  obtain ⟨E, _, h2, _⟩ := hS
  exact room_ch h s b room _ h2
set_option maxRecDepth 10000 in
/-- Get: the bytes, in a block of their own. -/
theorem getS_ch {F : Nat → Prop} (h : Heap) (s b : Nat) (room : Int) (M : List (Dg × List UInt8)) (x : Dg) (hS : Sto F h s b room M) (hlen : ∀ p ∈ M, p.2.length ≤ 140737488355328) : CH Try.prog 21 #[.pointer (some ⟨s, 0, none⟩), keyV x] h fun v h' => ∃ a c, v = .tuple #[.slice a ((lookM M x).getD []).length c, .bool (lookM M x).isSome] ∧ Bs h' h.size 5 a c ((lookM M x).getD []) ∧ Ext h h' := by
  obtain ⟨E, rfl, h2, h3, h4, h5⟩ := hS
  refine CH.of_body Try.func21 rfl rfl rfl ?_
  intro f hf
  have p0 : f 0 = .pointer (some ⟨s, 0, none⟩) := by rw [hf]; exact fr0_at rfl
  have p1 : f 1 = keyV x := by rw [hf]; exact fr0_at rfl
  -- region 0
  repeat refine HW.seq ?_
  refine HW.region ?_
  refine HL.one (HO.box p1 ?_)
  intro h1 w1
  intro u3 e3
  refine HL.still (Runs.assign rfl) ?_
  intro u4 e4
  refine HL.still (Runs.assign rfl) ?_
  intro u5 e5
  refine HL.nil ?_
  have hs1 : St3 h1 s b room _ := w1.keep h2
  have hM1 : Mp h1 b (E.map valOf) := h3.keep (w1.old b h3.lt)
  have hk1 : h1[h.size]? = some (.cells (encD x).toArray 31 (0, 0)) := w1.new
  -- region 1
  repeat refine HW.seq ?_
  refine HW.draw mixed (by kernel_rfl) ?_
  refine HS.still (Runs.move p0) ?_
  intro u9 e9
  refine HS.still (Runs.nilc e9) ?_
  intro u10 e10
  refine HS.still (Runs.fld (o' := 0) Try.underlying65 rfl sz63 (by decide) e10 (by rfl)) ?_
  intro u11 e11
  refine HS.still (Runs.load Try.underlying63 rfl e11 (by rw [cellH_of hs1]; rfl)) ?_
  intro u12 e12
  refine HS.still (Runs.loadAgg Try.underlying31 rfl sz31 e3 (encD_len x) (load_blk hk1)) ?_
  intro u13 e13
  refine HS.still (Runs.lookD e12 e13 hM1) ?_
  intro u14 e14
  refine HS.still (Runs.move e14) ?_
  intro u8 e8
  refine HS.still (Runs.extr e8 rfl) ?_
  intro u15 e15
  refine HS.still (Runs.extr e8 rfl) ?_
  intro u16 e16
  refine HS.still (Runs.assign e15) ?_
  intro u6 e6
  refine HS.still (Runs.assign e16) ?_
  intro u7 e7
  refine HS.nil ?_
  obtain ⟨a0, c0, hv, hB, hcap, hl⟩ : ∃ a0 c0, (look (E.map valOf) x).getD (.slice none 0 0) = .slice a0 ((lookM (E.map blobOf) x).getD []).length c0 ∧ Byt h1 a0 ((lookM (E.map blobOf) x).getD []) ∧ ((lookM (E.map blobOf) x).getD []).length ≤ c0 ∧ ((lookM (E.map blobOf) x).getD []).length ≤ 140737488355328 := by
    rcases look_blob E x with ⟨e1, e2⟩ | ⟨e, he, _, e1, e2⟩
    · rw [e1, e2]
      exact ⟨none, 0, rfl, .inl rfl, Nat.le_refl _, Nat.zero_le _⟩
    · rw [e1, e2]
      obtain ⟨a, c, q1, q2, q3, _⟩ := h5 e he
      exact ⟨a, c, q1, q2.ext w1.ext, q3, hlen (blobOf e) (List.mem_map.2 ⟨e, he, rfl⟩)⟩
  have hiS : (look (E.map valOf) x).isSome = (lookM (E.map blobOf) x).isSome := by
    rcases look_blob E x with ⟨e1, e2⟩ | ⟨e, he, _, e1, e2⟩ <;> rw [e1, e2] <;> rfl
  have g6 : u6 = .slice a0 ((lookM (E.map blobOf) x).getD []).length c0 := e6.trans hv
  have g7 : u7 = .bool (lookM (E.map blobOf) x).isSome := e7.trans (congrArg Value.bool hiS)
  -- region 2
  repeat refine HW.seq ?_
  refine HW.region ?_
  refine HL.still (Runs.move g6) ?_
  intro u17 e17
  refine HL.one (HO.call Try.func46 bd46 nm46 (args1 e17) rfl ((clone_ch h1 ((lookM (E.map blobOf) x).getD []) a0 _ c0 rfl hB hcap hl).mono ?_))
  rintro _ h2' ⟨a5, c5, rfl, B5, X5⟩
  intro u18 e18
  refine HL.still (Runs.move g7) ?_
  intro u19 e19
  refine HL.still (Runs.assign e18) ?_
  intro u4 e4
  refine HL.still (Runs.assign e19) ?_
  intro u5 e5
  refine HL.nil ?_
  refine HW.ret ?_
  exact RT.two rfl e4 e5 ⟨a5, c5, rfl, Rs.low (gv := B8) B5 (by rw [w1.size]; omega), w1.ext.ext X5 (Nat.le_refl _)⟩
end Go.Proofs.Ytklelhfgbjpifaa
/-! Put. -/
namespace Go.Proofs.Ytklelhfgbjpifaa
set_option linter.unnecessarySimpa false
set_option linter.unusedSimpArgs false
set_option linter.unusedVariables false
open Go.RowKit
theorem Bs.exb {h h' : Heap} {base : Nat} {e : TypeId} {a : Option Addr} {cap : Nat} {xs : List UInt8} {b : Nat} (x : Bs h base e a cap xs) (k : ExB b h h') (hb : b < base) : Bs h' base e a cap xs :=
  ⟨x.1.keep fun j hj => k.old j (x.1.lt j hj).2 (by have := (x.1.lt j hj).1; omega), x.2⟩
def shaD (xs : List UInt8) : Dg := ⟨SHA xs, SHA_len xs⟩
/-- All but two blocks is as it was. -/
structure Ex2 (s b : Nat) (h h' : Heap) : Prop where
  size : h.size ≤ h'.size
  old : ∀ j, j < h.size → j ≠ s → j ≠ b → h'[j]? = h[j]?
theorem Ex2.of_ext {s b : Nat} {h h' : Heap} (x : Ext h h') : Ex2 s b h h' := ⟨x.size, fun j hj _ _ => x.old j hj⟩
theorem Ex2.trans {s b : Nat} {h1 h2 h3 : Heap} (x : Ex2 s b h1 h2) (y : Ex2 s b h2 h3) : Ex2 s b h1 h3 := ⟨Nat.le_trans x.size y.size, fun j hj n1 n2 => (y.old j (Nat.lt_of_lt_of_le hj x.size) n1 n2).trans (x.old j hj n1 n2)⟩
/-- What a Put leaves, and answers. -/
def putO (room : Int) (M : List (Dg × List UInt8)) (xs : List UInt8) : List (Dg × List UInt8) × Dg × Int :=
  if (lookM M (shaD xs)).isSome = true then (M, shaD xs, 0) else if (xs.length : Int) > room - tot M then (M, ⟨zero32, rfl⟩, 2) else (M ++ [(shaD xs, xs)], shaD xs, 0)
theorem run_buildZ31 (w : World) : (Instr.build 31 #[]).run Try.prog w = .ok (.agg (zero32.map B8).toArray) w := by kernel_rfl
theorem Runs.buildZ31 {ρ : Operand → Value} {h : Heap} {d : Option Tmp} {ty : TypeId} {pos : String} {af : Array Edge} {gd : Option (Nat × Bool)} : Runs Try.prog ⟨d, .build 31 #[], ty, pos, af, gd⟩ ρ h (.agg (zero32.map B8).toArray) :=
  Runs.build (fun w => by
    have e : (#[] : Array (Nat × Operand)).map (fun (i, x) => (i, ρ x)) = #[] := by simp
    rw [e]
    exact run_buildZ31 w)
set_option maxRecDepth 10000 in
theorem putS_ch {F : Nat → Prop} (h : Heap) (s b : Nat) (room : Int) (M : List (Dg × List UInt8)) (xs : List UInt8) (a : Option Addr) (cap : Nat) (hS : Sto F h s b room M) (hsrc : Byt h a xs) (hcap : xs.length ≤ cap) (hlen : xs.length ≤ 100000) (hr : room ≤ 1073741824) (hr0 : 0 ≤ room) (ht : (tot M : Int) ≤ room) :
    CH Try.prog 18 #[.pointer (some ⟨s, 0, none⟩), .slice a xs.length cap] h fun v h' => v = .tuple #[keyV (putO room M xs).2.1, I64 (putO room M xs).2.2] ∧ Sto (fun j => F j ∨ h.size ≤ j) h' s b room (putO room M xs).1 ∧ Ex2 s b h h' := by
  refine CH.of_body Try.func18 rfl rfl rfl ?_
  intro f hf
  have p0 : f 0 = .pointer (some ⟨s, 0, none⟩) := by rw [hf]; exact fr0_at rfl
  have p1 : f 1 = .slice a xs.length cap := by rw [hf]; exact fr0_at rfl
  -- region 0
  repeat refine HW.seq ?_
  refine HW.region ?_
  refine HL.one (HO.alloc zr31 ?_)
  intro h4 w4
  intro u4 e4
  refine HL.still (Runs.assign rfl) ?_
  intro u5 e5
  refine HL.nil ?_
  have z4 := w4.size
  -- region 1
  repeat refine HW.seq ?_
  refine HW.region ?_
  refine HL.still (Runs.move p1) ?_
  intro u7 e7
  refine HL.one (HO.call Try.func31 bd31 nm31 (args1 e7) rfl ((of_ch _ xs a cap (hsrc.ext w4.ext) hcap (by omega)).mono ?_))
  rintro _ h2 ⟨rfl, X2⟩
  intro u8 e8
  refine HL.one (HO.alloc zr31 ?_)
  intro h3 w3
  intro u6 e6
  refine HL.zero (HO.storeAll sz31 e6 e8 (one_map B8 (fun _ => rfl) _) w3.new (by rw [List.length_map, SHA_len]) rfl ?_)
  intro h5 w5
  refine HL.nil ?_
  have z2 := X2.size
  have z3 := w3.size
  have z5 := w5.size
  have XA : Ext h h5 := ((w4.ext.ext X2 (Nat.le_refl _)).ext w3.ext (Nat.le_refl _)).wr w5 (by omega)
  have hS5 := hS.ext XA
  have hk5 : h5[h2.size]? = some (.cells (encD (shaD xs)).toArray 31 (0, 0)) := w5.new
  have hr5 : h5[h.size]? = some (.cells ((List.replicate 32 (0 : UInt8)).map B8).toArray 31 (0, 0)) := (w5.old _ (by omega)).trans ((w3.keep (X2.keepE w4.new)))
  repeat refine HW.seq ?_
  refine HW.block ?_
  -- region 2
  repeat refine HW.seq ?_
  refine HW.region ?_
  refine HL.still (Runs.move p0) ?_
  intro u10 e10
  refine HL.still (Runs.loadAgg Try.underlying31 rfl sz31 e6 (encD_len (shaD xs)) (load_blk hk5)) ?_
  intro u11 e11
  refine HL.one (HO.call Try.func23 bd23 nm23 (args2 e10 e11) rfl ((hasS_ch h5 s b room M (shaD xs) hS5).mono ?_))
  rintro _ h6 ⟨rfl, X6⟩
  intro u12 e12
  refine HL.still (Runs.assign e12) ?_
  intro u9 e9
  refine HL.nil ?_
  have z6 := X6.size
  have hS6 := hS5.ext X6
  have hk6 := X6.keepE hk5
  have hr6 := X6.keepE hr5
  cases hq : (lookM M (shaD xs)).isSome with
  | true =>
    have hp : putO room M xs = (M, shaD xs, 0) := by unfold putO; rw [if_pos hq]
    refine HW.yes (e9.trans (congrArg Value.bool hq)) ?_
    -- region 3
    repeat refine HW.seq ?_
    refine HW.region ?_
    refine HL.still (Runs.loadAgg Try.underlying31 rfl sz31 e6 (encD_len (shaD xs)) (load_blk hk6)) ?_
    intro u13 e13
    refine HL.zero (HO.storeAll sz31 e4 e13 (one_map B8 (fun _ => rfl) _) hr6 (encD_len _) (by simp) ?_)
    intro h7 w7
    refine HL.still (Runs.assign rfl) ?_
    intro u5 e5
    refine HL.nil ?_
    refine HW.ret ?_
    exact RT.cellTmp rfl e4 e5 w7.new Try.underlying31 rfl sz31 (encD_len _) ⟨by rw [hp]; rfl, by rw [hp]; exact (hS.ext ((XA.ext X6 (Nat.le_refl _)).wr w7 (Nat.le_refl _))).weaken fun _ _ q => .inl q, .of_ext ((XA.ext X6 (Nat.le_refl _)).wr w7 (Nat.le_refl _))⟩
  | false =>
    refine HW.no (e9.trans (congrArg Value.bool hq)) ?_
    have hq' : ¬ (lookM M (shaD xs)).isSome = true := by rw [hq]; decide
    obtain ⟨E, hME, hs0, hM0, ⟨hsb, hFs, hFb⟩, hB0⟩ := id hS
    have XB : Ext h h6 := XA.ext X6 (Nat.le_refl _)
    have hs6 : St3 h6 s b room (tot M) := XB.keepE hs0
    have hM6 : Mp h6 b (E.map valOf) := hM0.keep (XB.old b hM0.lt)
    have hbl := hM0.lt
    have hsl := hS.lt
    have hXs := XB.size
    by_cases hfull : (xs.length : Int) > room - tot M
    · have hp : putO room M xs = (M, ⟨zero32, rfl⟩, 2) := by unfold putO; rw [if_neg hq', if_pos hfull]
      -- region 4
      repeat refine HW.seq ?_
      refine HW.draw mixed (by kernel_rfl) ?_
      refine HS.still (Runs.move p1) ?_
      intro u15 e15
      refine HS.still (Runs.lenSl rfl Try.underlying29 e15) ?_
      intro u16 e16
      refine HS.still (Runs.move p0) ?_
      intro u17 e17
      refine HS.still (Runs.nilc e17) ?_
      intro u18 e18
      refine HS.still (Runs.fld (o' := 1) Try.underlying65 rfl sz3 (by decide) e18 (by rfl)) ?_
      intro u19 e19
      refine HS.still (Runs.load Try.underlying3 rfl e19 (by rw [cellH_of hs6]; rfl)) ?_
      intro u20 e20
      refine HS.still (Runs.move p0) ?_
      intro u21 e21
      refine HS.still (Runs.nilc e21) ?_
      intro u22 e22
      refine HS.still (Runs.fld (o' := 2) Try.underlying65 rfl sz3 (by decide) e22 (by rfl)) ?_
      intro u23 e23
      refine HS.still (Runs.load Try.underlying3 rfl e23 (by rw [cellH_of hs6]; rfl)) ?_
      intro u24 e24
      refine HS.still (Runs.sub e20 e24 (i64w (by omega))) ?_
      intro u25 e25
      refine HS.still (Runs.gtr e16 e25 (t := true) (decide_eq_true hfull)) ?_
      intro u26 e26
      refine HS.still (Runs.assign e26) ?_
      intro u14 e14
      refine HS.nil ?_
      refine HW.yes e14 ?_
      -- region 5
      repeat refine HW.seq ?_
      refine HW.region ?_
      refine HL.still (Runs.buildZ31) ?_
      intro u27 e27
      refine HL.zero (HO.storeAll sz31 e4 e27 (one_map B8 (fun _ => rfl) _) hr6 rfl (by simp) ?_)
      intro h7 w7
      refine HL.still (Runs.assign rfl) ?_
      intro u5 e5
      refine HL.nil ?_
      refine HW.ret ?_
      exact RT.cellTmp rfl e4 e5 w7.new Try.underlying31 rfl sz31 rfl ⟨by rw [hp]; rfl, by rw [hp]; exact (hS.ext ((XA.ext X6 (Nat.le_refl _)).wr w7 (Nat.le_refl _))).weaken fun _ _ q => .inl q, .of_ext ((XA.ext X6 (Nat.le_refl _)).wr w7 (Nat.le_refl _))⟩
    · have hp : putO room M xs = (M ++ [(shaD xs, xs)], shaD xs, 0) := by unfold putO; rw [if_neg hq', if_neg hfull]
      -- region 4
      repeat refine HW.seq ?_
      refine HW.draw mixed (by kernel_rfl) ?_
      refine HS.still (Runs.move p1) ?_
      intro u15 e15
      refine HS.still (Runs.lenSl rfl Try.underlying29 e15) ?_
      intro u16 e16
      refine HS.still (Runs.move p0) ?_
      intro u17 e17
      refine HS.still (Runs.nilc e17) ?_
      intro u18 e18
      refine HS.still (Runs.fld (o' := 1) Try.underlying65 rfl sz3 (by decide) e18 (by rfl)) ?_
      intro u19 e19
      refine HS.still (Runs.load Try.underlying3 rfl e19 (by rw [cellH_of hs6]; rfl)) ?_
      intro u20 e20
      refine HS.still (Runs.move p0) ?_
      intro u21 e21
      refine HS.still (Runs.nilc e21) ?_
      intro u22 e22
      refine HS.still (Runs.fld (o' := 2) Try.underlying65 rfl sz3 (by decide) e22 (by rfl)) ?_
      intro u23 e23
      refine HS.still (Runs.load Try.underlying3 rfl e23 (by rw [cellH_of hs6]; rfl)) ?_
      intro u24 e24
      refine HS.still (Runs.sub e20 e24 (i64w (by omega))) ?_
      intro u25 e25
      refine HS.still (Runs.gtr e16 e25 (t := false) (decide_eq_false hfull)) ?_
      intro u26 e26
      refine HS.still (Runs.assign e26) ?_
      intro u14 e14
      refine HS.nil ?_
      refine HW.no e14 ?_
      refine HW.skip ?_
      have hno : look (E.map valOf) (shaD xs) = none := by
        rcases look_blob E (shaD xs) with ⟨q1, _⟩ | ⟨e, _, _, _, q2⟩
        · exact q1
        · rw [← hME] at q2; rw [q2] at hq; cases hq
      have hsrc6 : Byt h6 a xs := hsrc.ext XB
      have hrf : (∀ a, Ext a a) ∧ ∀ a, ExB b a a := ⟨fun _ => Bel.refl _ _, fun _ => ⟨Nat.le_refl _, fun _ _ _ => rfl⟩⟩
      repeat refine HW.seq ?_
      refine HW.lastQ #[0, 1, 3, 7, 0, 0, 32, 127] (fun a b => Ext a b) (ExB b) 7 (by decide) mixed (by kernel_rfl) (fun _ => Bel.refl _ _) (fun _ _ _ x y => Bel.ext x y (Nat.le_refl _)) (fun _ => ⟨Nat.le_refl _, fun _ _ _ => rfl⟩) ?_
      refine HM2.still hrf (fun f h K => Runs.move ((K.keep (by kernel_rfl)).trans p0)) ?_
      refine HM2.still hrf (fun f h K => Runs.nilc (K.at 0 28 rfl rfl)) ?_
      refine HM2.still hrf (fun f h K => Runs.fld (o' := 0) Try.underlying65 rfl sz63 (by decide) (K.at 1 29 rfl rfl) (by rfl)) ?_
      refine HM2.still hrf (fun f h K => Runs.load Try.underlying63 rfl (K.at 2 30 rfl rfl) (by have := (K.grown (.inr rfl)).keepE hs6; rw [cellH_of this]; rfl)) ?_
      refine HM2.still hrf (fun f h K => Runs.loadAgg Try.underlying31 rfl sz31 ((K.keep (by kernel_rfl)).trans e6) (encD_len (shaD xs)) (load_blk ((K.grown (.inr rfl)).keepE hk6))) ?_
      refine HM2.still hrf (fun f h K => Runs.move ((K.keep (by kernel_rfl)).trans p1)) ?_
      refine HM2.one (fun v h' => ∃ a7 c7, v = .slice a7 xs.length c7 ∧ Bs h' h6.size 5 a7 c7 xs) (fun _ _ => ⟨fun v u u' x ⟨a7, c7, q1, q2⟩ => ⟨a7, c7, q1, q2.ext x⟩, fun v u u' x ⟨a7, c7, q1, q2⟩ => ⟨a7, c7, q1, q2.exb x (by omega)⟩⟩)
        (fun f h K => HO.call Try.func46 bd46 nm46 (args1 (K.at 5 33 rfl rfl)) rfl ((clone_ch h xs a _ cap rfl (hsrc6.ext (K.grown (.inr rfl))) hcap (by omega)).mono fun _ _ ⟨a7, c7, q1, q2, q3⟩ => ⟨Rk.grow rfl q3, a7, c7, q1, Rs.low (gv := B8) q2 (K.grown (.inr rfl)).size⟩)) ?_
      refine HM2.oneN (fun _ h' => ∃ a7 c7, Mp h' b (E.map valOf ++ [(shaD xs, .slice a7 xs.length c7)]) ∧ Bs h' h6.size 5 a7 c7 xs ∧ ExB b h6 h') (fun hne _ => absurd rfl hne) (fun f h K => by
        obtain ⟨a7, c7, q1, q2⟩ := K.at 6 34 rfl rfl
        have hX := K.grown (.inl rfl)
        refine HO.putD (K.at 3 31 rfl rfl) (K.at 4 32 rfl rfl) q1 (hM6.keep (hX.old b hM6.lt)) hno fun h' z o M => ?_
        have hx : ExB b h h' := ⟨by rw [z]; exact Nat.le_refl _, fun j _ hj => o j hj⟩
        exact ⟨Rk.turn hx, a7, c7, M, q2.exb hx (by omega), (ExB.of_ext hX).trans hx⟩) ?_
      rintro f' h7 V O ⟨_, a7, c7, M7, B7, X7⟩
      have f0 := (last_keep O (s := 0) (by kernel_rfl)).trans p0
      have f1 := (last_keep O (s := 1) (by kernel_rfl)).trans p1
      have f4 := (last_keep O (s := 4) (by kernel_rfl)).trans e4
      have f6 := (last_keep O (s := 6) (by kernel_rfl)).trans e6
      have z7 := X7.size
      have hs7 : St3 h7 s b room (tot M) := X7.keep hs6 hsb
      have hk7 := X7.keep hk6 (by omega)
      have hr7 := X7.keep hr6 (by omega)
      -- region 7
      repeat refine HW.seq ?_
      refine HW.region ?_
      refine HL.still (Runs.move f0) ?_
      intro u35 e35
      refine HL.still (Runs.nilc e35) ?_
      intro u36 e36
      refine HL.still (Runs.fld (o' := 2) Try.underlying65 rfl sz3 (by decide) e36 (by rfl)) ?_
      intro u37 e37
      refine HL.still (Runs.load Try.underlying3 rfl e37 (by rw [cellH_of hs7]; rfl)) ?_
      intro u38 e38
      refine HL.still (Runs.move f1) ?_
      intro u39 e39
      refine HL.still (Runs.lenSl rfl Try.underlying29 e39) ?_
      intro u40 e40
      refine HL.still (Runs.add e38 e40 (i64w (by omega))) ?_
      intro u41 e41
      refine HL.still (Runs.nilc e35) ?_
      intro u42 e42
      refine HL.still (Runs.fld (o' := 2) Try.underlying65 rfl sz3 (by decide) e42 (by rfl)) ?_
      intro u43 e43
      refine HL.zero (HO.store (s := 1) sz3 e43 e41 rfl hs7 (by simp) rfl ?_)
      intro h8 w8
      refine HL.nil ?_
      have hk8 := w8.keep hk7 (by omega)
      have hr8 := w8.keep hr7 (by omega)
      -- region 8
      repeat refine HW.seq ?_
      refine HW.region ?_
      refine HL.still (Runs.loadAgg Try.underlying31 rfl sz31 f6 (encD_len (shaD xs)) (load_blk hk8)) ?_
      intro u44 e44
      refine HL.zero (HO.storeAll sz31 f4 e44 (one_map B8 (fun _ => rfl) _) hr8 (encD_len _) (by simp) ?_)
      intro h9 w9
      refine HL.still (Runs.assign rfl) ?_
      intro u5 e5
      refine HL.nil ?_
      have old9 : ∀ j, j < h.size → j ≠ s → j ≠ b → h9[j]? = h[j]? := fun j hj n1 n2 =>
        (w9.old j (by omega)).trans ((w8.old j n1).trans ((X7.old j (by omega) n2).trans (XB.old j hj)))
      have sz9 : h.size ≤ h9.size := by rw [w9.size, w8.size]; omega
      refine HW.ret ?_
      refine RT.cellTmp rfl f4 e5 w9.new Try.underlying31 rfl sz31 (encD_len _) ⟨by rw [hp]; rfl, ?_, ⟨sz9, old9⟩⟩
      rw [hp]
      have htM : ((tot (M ++ [(shaD xs, xs)]) : Nat) : Int) = (tot M : Int) + xs.length := by
        rw [tot_append]
        simp [tot]
      refine ⟨E ++ [(shaD xs, .slice a7 xs.length c7, xs)], by rw [hME, List.map_append]; rfl, ?_, ?_, ⟨hsb, .inl hFs, .inl hFb⟩, ?_⟩
      · have := w9.keep w8.new (by omega)
        rw [htM]
        exact this
      · rw [List.map_append]
        exact M7.keep ((w9.old b (by omega)).trans (w8.old b (Ne.symm hsb)))
      · intro e he
        rcases List.mem_append.1 he with he | he
        · exact ((hB0 e he).keep sz9 fun j hj n1 n2 _ => old9 j hj n1 n2).weaken fun _ _ q => .inl q
        · have hee : e = (shaD xs, .slice a7 xs.length c7, xs) := by simpa using he
          rw [hee]
          have hB9 : Bs h9 h6.size 5 a7 c7 xs := (B7.wr w8 (by omega)).wr w9 (by omega)
          refine ⟨a7, c7, rfl, hB9.byt, hB9.2, fun sb so q => ?_⟩
          rcases hB9.blk with r | ⟨g, r, r1, r2⟩
          · rw [r] at q; cases q
          · rw [r] at q; cases q
            exact ⟨by omega, by omega, r2, .inr (by omega)⟩
end Go.Proofs.Ytklelhfgbjpifaa
