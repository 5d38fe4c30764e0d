/- Batches: what they are on the heap; an entry laid into a map before its value is; New, Discard, Staged. -/
import Derived.Test.YtklelhfgbjpifaaPc
import Derived.Test.YtklelhfgbjpifaaChainG
namespace Go.Proofs.Ytklelhfgbjpifaa
set_option linter.unnecessarySimpa false
set_option linter.unusedSimpArgs false
set_option linter.unusedVariables false
open Go.RowKit
section
variable {ρ : Operand → Value} {h : Heap} {d : Option Tmp} {ty : TypeId} {pos : String} {af : Array Edge} {gd : Option (Nat × Bool)} {K : Value → Heap → Prop} {x y m k : Operand}
set_option maxRecDepth 10000 in
theorem Runs.lookD1 {b : Nat} {L : List (Dg × Value)} {q : Dg} (hm : ρ m = .map (some b)) (hk : ρ k = keyV q) (hM : Mp h b L) :
    Runs Try.prog ⟨d, .lookup 63 m k false, ty, pos, af, gd⟩ ρ h ((look L q).getD (.slice none 0 0)) := fun w hw => by
  subst hw
  obtain ⟨es, cl, h1, h2, h3, _⟩ := hM
  obtain ⟨l, hl⟩ := key31 q
  have hc := law31.check w es.isEmpty hl
  have hu : Try.prog.underlying 63 = some (.map 31 29) := Try.underlying63
  rcases find_run h2 h3 q w with ⟨e1, e2⟩ | ⟨v, j, e1, e2⟩
  · rw [e1]
    simp [execOp, hm, hk, Instr.lookup, Sem.run_bind, run_underlying hu, getObj, Sem.run, h1, hc, e2, zero29]
  · rw [e1]
    simp [execOp, hm, hk, Instr.lookup, Sem.run_bind, run_underlying hu, getObj, Sem.run, h1, hc, e2]
set_option maxRecDepth 10000 in
theorem Runs.lookNil {q : Dg} (hm : ρ m = .map none) (hk : ρ k = keyV q) : Runs Try.prog ⟨d, .lookup 63 m k true, ty, pos, af, gd⟩ ρ h (.tuple #[.slice none 0 0, .bool false]) := fun w hw => by
  subst hw
  obtain ⟨l, hl⟩ := key31 q
  have hc := law31.check w true hl
  have hu : Try.prog.underlying 63 = some (.map 31 29) := Try.underlying63
  rcases find_run (es := #[]) (L := []) rfl List.nodup_nil q w with ⟨_, e2⟩ | ⟨v, j, e1, _⟩
  · have e3 : (Instr.findKey 31 (keyV q) []).run Try.prog w = .ok none w := e2
    simp [execOp, hm, hk, Instr.lookup, Sem.run_bind, run_underlying hu, hc, zero29, e3]
  · cases e1
/-- A map into which an entry of no value yet has been laid. -/
def MpE (h : Heap) (b : Nat) (L : List (Dg × Value)) (q : Dg) (cl : Nat) : Prop := ∃ es : Array MapEntry, h[b]? = some (.map (es.push { key := keyV q, val := .slice none 0 0, born := cl }) (cl + 1)) ∧ es.toList.map (fun e => (e.key, e.val)) = L.map (fun p => (keyV p.1, p.2)) ∧ (L.map (·.1)).Nodup ∧ (es.toList.map (·.born)).Nodup ∧ (∀ e ∈ es.toList, e.born < cl) ∧ look L q = none
theorem MpE.keep {h h' : Heap} {b : Nat} {L : List (Dg × Value)} {q : Dg} {cl : Nat} (x : MpE h b L q cl) (k : h'[b]? = h[b]?) : MpE h' b L q cl := by
  obtain ⟨es, h1, h2⟩ := x
  exact ⟨es, k.trans h1, h2⟩
set_option maxRecDepth 10000 in
theorem HO.mapEntryD {b : Nat} {L : List (Dg × Value)} {q : Dg} (hm : ρ m = .map (some b)) (hk : ρ k = keyV q) (hM : Mp h b L) (hno : look L q = none)
    (c : ∀ h' cl, h'.size = h.size → (∀ j, j ≠ b → h'[j]? = h[j]?) → MpE h' b L q cl → K (.tuple #[.slice none 0 0, goInt cl]) h') : HO Try.prog ⟨d, .mapEntry 63 m k, ty, pos, af, gd⟩ ρ h K := by
  intro w hw
  subst hw
  obtain ⟨es, cl, h1, h2, h3, h4, h5⟩ := hM
  obtain ⟨l, hl⟩ := key31 q
  have hc := law31.check w false hl
  have hu : Try.prog.underlying 63 = some (.map 31 29) := Try.underlying63
  rcases find_run h2 h3 q w with ⟨e1, e2⟩ | ⟨v', j, e1, e2⟩
  · have hs : (setObj b (.map (es.push { key := keyV q, val := .slice none 0 0, born := cl }) (cl + 1))).run Try.prog w = .ok () (Go.ChangeMaps.setBlock w b (.map (es.push { key := keyV q, val := .slice none 0 0, born := cl }) (cl + 1))) := by
      simp [setObj, Sem.run, h1, Go.ChangeMaps.setBlock]
    have : (execOp ρ ⟨d, .mapEntry 63 m k, ty, pos, af, gd⟩).run Try.prog w = .ok (.value (.tuple #[.slice none 0 0, goInt cl])) (Go.ChangeMaps.setBlock w b (.map (es.push { key := keyV q, val := .slice none 0 0, born := cl }) (cl + 1))) := by
      have hg : (getObj b).run Try.prog w = .ok (.map es cl) w := by simp [getObj, Sem.run, h1]
      simp [execOp, hm, hk, Instr.mapEntry, Sem.run_bind, run_underlying hu, hg, hc, e2, hs, zero29]
    rw [this]
    have hlt := lt_of_some h1
    refine ⟨⟨rfl, rfl, rfl⟩, c _ cl (by simp [Go.ChangeMaps.setBlock]) (fun j hj => by simp [Go.ChangeMaps.setBlock, Array.getElem?_setIfInBounds, Ne.symm hj]) ⟨es, by simp [Go.ChangeMaps.setBlock, hlt], h2, h3, h4, h5, hno⟩⟩
  · rw [hno] at e1; cases e1
theorem findIdx_push {es : Array MapEntry} {e : MapEntry} {cl : Nat} (h5 : ∀ x ∈ es.toList, x.born < cl) (he : e.born = cl) : (es.push e).findIdx? (fun e => (e.born : Int) == (cl : Int)) = some es.size := by
  rw [Array.findIdx?_push]
  have h1 : es.findIdx? (fun e => (e.born : Int) == (cl : Int)) = none := by
    rw [Array.findIdx?_eq_none_iff]
    intro x hx
    have := h5 x (by simpa using hx)
    simp
    omega
  rw [h1]
  simp [he]
theorem modify_push {es : Array MapEntry} {e : MapEntry} (f : MapEntry → MapEntry) : (es.push e).modify es.size f = es.push (f e) := by
  apply Array.ext_getElem?
  intro i
  rw [Array.getElem?_modify, Array.getElem?_push, Array.getElem?_push]
  by_cases hi : i = es.size
  · subst hi; simp
  · rw [if_neg (Ne.symm hi), if_neg hi, if_neg hi]
theorem HO.entryStoreD {b cl : Nat} {L : List (Dg × Value)} {q : Dg} {v : Value} (hm : ρ m = .map (some b)) (hk : ρ k = goInt cl) (hy : ρ y = v) (hM : MpE h b L q cl)
    (c : ∀ h', h'.size = h.size → (∀ j, j ≠ b → h'[j]? = h[j]?) → Mp h' b (L ++ [(q, v)]) → K undef h') : HO Try.prog ⟨d, .entryStore 63 m k y, ty, pos, af, gd⟩ ρ h K := by
  intro w hw
  subst hw
  obtain ⟨es, h1, h2, h3, h4, h5, hno⟩ := hM
  have hi := findIdx_push (e := { key := keyV q, val := .slice none 0 0, born := cl }) h5 rfl
  have hmo := modify_push (es := es) (e := { key := keyV q, val := .slice none 0 0, born := cl }) (fun e => { e with val := v })
  have hg : (getObj b).run Try.prog w = .ok (.map (es.push { key := keyV q, val := .slice none 0 0, born := cl }) (cl + 1)) w := by simp [getObj, Sem.run, h1]
  have hs : (setObj b (.map (es.push { key := keyV q, val := v, born := cl }) (cl + 1))).run Try.prog w = .ok () (Go.ChangeMaps.setBlock w b (.map (es.push { key := keyV q, val := v, born := cl }) (cl + 1))) := by
    simp [setObj, Sem.run, h1, Go.ChangeMaps.setBlock]
  have : (execOp ρ ⟨d, .entryStore 63 m k y, ty, pos, af, gd⟩).run Try.prog w = .ok .skip (Go.ChangeMaps.setBlock w b (.map (es.push { key := keyV q, val := v, born := cl }) (cl + 1))) := by
    have hi' : (es.push { key := keyV q, val := .slice none 0 0, born := cl }).findIdx? (fun e => (e.born : Int) == (cl : Int)) = some es.size := hi
    simp only [execOp, hm, hk, hy, Instr.entryStore, Sem.run_bind, hg, Result.andThen_ok, goInt, asInt, asIntOf, Sem.run_pure, hi', hmo, hs]
  rw [this]
  have hlt := lt_of_some h1
  have hnew : (Go.ChangeMaps.setBlock w b (.map (es.push { key := keyV q, val := v, born := cl }) (cl + 1))).heap[b]? = some (.map (es.push { key := keyV q, val := v, born := cl }) (cl + 1)) := by
    simp [Go.ChangeMaps.setBlock, hlt]
  refine ⟨⟨rfl, rfl, rfl⟩, c _ (by simp [Go.ChangeMaps.setBlock]) (fun j hj => by simp [Go.ChangeMaps.setBlock, Array.getElem?_setIfInBounds, Ne.symm hj]) ⟨_, _, hnew, ?_, ?_, ?_, ?_⟩⟩
  · rw [Array.toList_push, List.map_append, List.map_append, h2]
    rfl
  · rw [List.map_append, List.nodup_append]
    refine ⟨h3, by simp, ?_⟩
    intro a ha c hc e
    have hcq : c = q := by simpa using hc
    obtain ⟨p, hp, rfl⟩ := List.mem_map.1 ha
    unfold look at hno
    rw [Option.map_eq_none_iff, List.find?_eq_none] at hno
    exact hno p hp (by rw [beq_iff_eq, e, hcq])
  · rw [Array.toList_push, List.map_append, List.nodup_append]
    refine ⟨h4, by simp, ?_⟩
    intro a ha c hc e
    have hcq : c = cl := by simpa using hc
    obtain ⟨x, hx, rfl⟩ := List.mem_map.1 ha
    have := h5 x hx
    omega
  · intro x hx
    rw [Array.toList_push, List.mem_append] at hx
    rcases hx with hx | hx
    · have := h5 x hx; omega
    · have : x = { key := keyV q, val := v, born := cl } := by simpa using hx
      rw [this]
      exact Nat.lt_succ_self _
end
/-- What a batch's struct holds. -/
def btC (mv : Option Nat) (oa : Option Addr) (n oc : Nat) (x : Int) (s : Nat) (o : Bool) : List Value := [.map mv, .slice oa n oc, I64 x, .pointer (some ⟨s, 0, none⟩), .bool o]
/-- The block in which an order lies. -/
def obk (oa : Option Addr) : Option Nat := oa.map (·.block)
/-- A batch that is under way lies in block t: its map in block bm; what is staged, in order; the store s for which it is. -/
def Bat (F : Nat → Prop) (h : Heap) (t bm : Nat) (oa : Option Addr) (s : Nat) (W : Blobs) : Prop :=
  ∃ (E : List Ent) (oc : Nat), W = E.map blobOf ∧ h[t]? = some (.cells (btC (some bm) oa W.length oc (tot W) s false).toArray 84 (0, 0)) ∧ Mp h bm (E.map valOf) ∧ Ds h 0 oa oc (W.map (·.1)) ∧ (t ≠ bm ∧ F t ∧ F bm ∧ Lie F h oa) ∧ ∀ e ∈ E, Bl (fun j => F j ∧ some j ≠ obk oa) h t bm e.2.1 e.2.2
/-- A batch that is over. -/
def BatO (F : Nat → Prop) (h : Heap) (t s : Nat) : Prop := h[t]? = some (.cells (btC none none 0 0 0 s true).toArray 84 (0, 0)) ∧ F t
/-- All but the blocks of F's is as it was. -/
structure ExF (F : Nat → Prop) (h h' : Heap) : Prop where
  size : h.size ≤ h'.size
  old : ∀ j, j < h.size → ¬ F j → h'[j]? = h[j]?
theorem ExF.of_ext {F : Nat → Prop} {h h' : Heap} (x : Ext h h') : ExF F h h' := ⟨x.size, fun j hj _ => x.old j hj⟩
theorem ExF.of_ex2 {F : Nat → Prop} {s b : Nat} {h h' : Heap} (x : Ex2 s b h h') (hs : F s) (hb : F b) : ExF F h h' := ⟨x.size, fun j hj n => x.old j hj (fun e => n (e ▸ hs)) fun e => n (e ▸ hb)⟩
theorem ExF.of_exb {F : Nat → Prop} {s : Nat} {h h' : Heap} (x : ExB s h h') (hs : F s) : ExF F h h' := ⟨x.size, fun j hj n => x.old j hj fun e => n (e ▸ hs)⟩
theorem ExF.trans {F : Nat → Prop} {h1 h2 h3 : Heap} (x : ExF F h1 h2) (y : ExF F h2 h3) : ExF F h1 h3 := ⟨Nat.le_trans x.size y.size, fun j hj n => (y.old j (Nat.lt_of_lt_of_le hj x.size) n).trans (x.old j hj n)⟩
theorem ExF.mono {F F' : Nat → Prop} {h h' : Heap} (x : ExF F h h') (k : ∀ j, j < h.size → F j → F' j) : ExF F' h h' := ⟨x.size, fun j hj n => x.old j hj fun q => n (k j hj q)⟩
theorem Ds.keep' {h h' : Heap} {base : Nat} {a : Option Addr} {cap : Nat} {l : List Dg} (x : Ds h base a cap l) (k : ∀ g, a = some ⟨g, 0, none⟩ → h'[g]? = h[g]?) : Ds h' base a cap l := x.keep fun g hg => by
  rcases x.blk with ⟨q, _⟩ | ⟨g', q, _⟩
  · rw [q] at hg; cases hg
  · rw [q] at hg
    have : g' = g := by cases hg; rfl
    subst this
    exact k g' q
theorem Bat.keep {F : Nat → Prop} {h h' : Heap} {t bm s : Nat} {oa : Option Addr} {W : Blobs} (x : Bat F h t bm oa s W) (hz : h.size ≤ h'.size) (k : ∀ j, j < h.size → F j → h'[j]? = h[j]?) : Bat F h' t bm oa s W := by
  obtain ⟨E, oc, h1, h2, h3, h4, ⟨h5, h6, h7, h8⟩, h9⟩ := x
  exact ⟨E, oc, h1, (k t (lt_of_some h2) h6).trans h2, h3.keep (k bm h3.lt h7), h4.keep' fun g e => k g (h8 g 0 e).1 (h8 g 0 e).2, ⟨h5, h6, h7, h8.mono hz fun _ _ q => q⟩, fun e he => (h9 e he).keep hz fun j hj _ _ q => k j hj q.1⟩
theorem Bat.ext {F : Nat → Prop} {h h' : Heap} {t bm s : Nat} {oa : Option Addr} {W : Blobs} (x : Bat F h t bm oa s W) (k : Ext h h') : Bat F h' t bm oa s W := x.keep k.size fun j hj _ => k.old j hj
theorem Bat.weaken {F F' : Nat → Prop} {h : Heap} {t bm s : Nat} {oa : Option Addr} {W : Blobs} (x : Bat F h t bm oa s W) (k : ∀ j, j < h.size → F j → F' j) : Bat F' h t bm oa s W := by
  obtain ⟨E, oc, h1, h2, h3, h4, ⟨h5, h6, h7, h8⟩, h9⟩ := x
  exact ⟨E, oc, h1, h2, h3, h4, ⟨h5, k t (lt_of_some h2) h6, k bm h3.lt h7, h8.mono (Nat.le_refl _) k⟩, fun e he => (h9 e he).weaken fun j hj q => ⟨k j hj q.1, q.2⟩⟩
theorem BatO.keep {F : Nat → Prop} {h h' : Heap} {t s : Nat} (x : BatO F h t s) (k : ∀ j, j < h.size → F j → h'[j]? = h[j]?) : BatO F h' t s := ⟨(k t (lt_of_some x.1) x.2).trans x.1, x.2⟩
theorem BatO.ext {F : Nat → Prop} {h h' : Heap} {t s : Nat} (x : BatO F h t s) (k : Ext h h') : BatO F h' t s := x.keep fun j hj _ => k.old j hj
theorem BatO.weaken {F F' : Nat → Prop} {h : Heap} {t s : Nat} (x : BatO F h t s) (k : ∀ j, j < h.size → F j → F' j) : BatO F' h t s := ⟨x.1, k t (lt_of_some x.1) x.2⟩
theorem sz25 : (Try.prog.info? 25).map (·.size) = some 1 := by kernel_rfl
theorem sz82 : (Try.prog.info? 82).map (·.size) = some 3 := by kernel_rfl
theorem sz84 : (Try.prog.info? 84).map (·.size) = some 5 := by kernel_rfl
section
variable {ρ : Operand → Value} {h : Heap} {d : Option Tmp} {ty : TypeId} {pos : String} {af : Array Edge} {gd : Option (Nat × Bool)} {o0 o1 : Operand}
theorem run_build82 (b : Nat) (w : World) : (Instr.build 82 #[(0, .map (some b))]).run Try.prog w = .ok (.agg [.map (some b), .slice none 0 0, I64 0].toArray) w := by kernel_rfl
theorem Runs.build82 (b : Nat) (e0 : ρ o0 = .map (some b)) : Runs Try.prog ⟨d, .build 82 #[(0, o0)], ty, pos, af, gd⟩ ρ h (.agg [.map (some b), .slice none 0 0, I64 0].toArray) :=
  Runs.build (fun w => by
    have q : (#[(0, o0)] : Array (Nat × Operand)).map (fun (i, x) => (i, ρ x)) = #[(0, .map (some b))] := by simp [e0]
    rw [q]
    exact run_build82 b w)
theorem run_build82z (w : World) : (Instr.build 82 #[]).run Try.prog w = .ok (.agg [.map none, .slice none 0 0, I64 0].toArray) w := by kernel_rfl
theorem Runs.build82z : Runs Try.prog ⟨d, .build 82 #[], ty, pos, af, gd⟩ ρ h (.agg [.map none, .slice none 0 0, I64 0].toArray) :=
  Runs.build (fun w => by
    have q : (#[] : Array (Nat × Operand)).map (fun (i, x) => (i, ρ x)) = #[] := by simp
    rw [q]
    exact run_build82z w)
theorem run_build84 (b s : Nat) (w : World) : (Instr.build 84 #[(0, .agg [.map (some b), .slice none 0 0, I64 0].toArray), (1, .pointer (some ⟨s, 0, none⟩))]).run Try.prog w = .ok (.agg (btC (some b) none 0 0 0 s false).toArray) w := by kernel_rfl
theorem Runs.build84 (b s : Nat) (e0 : ρ o0 = .agg [.map (some b), .slice none 0 0, I64 0].toArray) (e1 : ρ o1 = .pointer (some ⟨s, 0, none⟩)) : Runs Try.prog ⟨d, .build 84 #[(0, o0), (1, o1)], ty, pos, af, gd⟩ ρ h (.agg (btC (some b) none 0 0 0 s false).toArray) :=
  Runs.build (fun w => by
    have q : (#[(0, o0), (1, o1)] : Array (Nat × Operand)).map (fun (i, x) => (i, ρ x)) = #[(0, .agg [.map (some b), .slice none 0 0, I64 0].toArray), (1, .pointer (some ⟨s, 0, none⟩))] := by simp [e0, e1]
    rw [q]
    exact run_build84 b s w)
end
set_option maxRecDepth 10000 in
theorem newB_ch (h : Heap) (s : Nat) : CH Try.prog 36 #[.pointer (some ⟨s, 0, none⟩)] h fun v h' => v = .pointer (some ⟨h.size + 1, 0, none⟩) ∧ Bat (fun j => h.size ≤ j) h' (h.size + 1) h.size none s [] ∧ Ext h h' := by
  refine CH.of_body Try.func36 rfl rfl rfl ?_
  intro f hf
  have p0 : f 0 = .pointer (some ⟨s, 0, none⟩) := by rw [hf]; exact fr0_at rfl
  -- region 0
  repeat refine HW.seq ?_
  refine HW.region ?_
  refine HL.still (Runs.assign rfl) ?_
  intro u2 e2
  refine HL.nil ?_
  -- region 1
  repeat refine HW.seq ?_
  refine HW.region ?_
  refine HL.one (HO.makeMapD ?_)
  intro h1 w1
  intro u3 e3
  refine HL.still (Runs.build82 h.size e3) ?_
  intro u4 e4
  refine HL.still (Runs.move p0) ?_
  intro u5 e5
  refine HL.still (Runs.build84 h.size s e4 e5) ?_
  intro u6 e6
  refine HL.one (HO.box e6 ?_)
  intro h2 w2
  intro u7 e7
  refine HL.still (Runs.assign e7) ?_
  intro u2 e2
  refine HL.nil ?_
  have z1 := w1.size
  refine HW.ret ?_
  refine RT.one rfl e2 ⟨by rw [z1], ⟨[], 0, rfl, ?_, (Mp.made w1).keep (w2.old _ (by omega)), Ds.start _ _, ⟨by omega, by omega, Nat.le_refl _, Lie.none _ _⟩, fun _ h => by cases h⟩, w1.ext.trans (w2.ext.mono (by omega))⟩
  have := w2.new
  rw [z1] at this
  exact this
set_option maxRecDepth 10000 in
theorem discard_ch (h : Heap) (t s : Nat) (mv : Option Nat) (oa : Option Addr) (n oc : Nat) (x : Int) (o : Bool) (ht : h[t]? = some (.cells (btC mv oa n oc x s o).toArray 84 (0, 0))) : CH Try.prog 41 #[.pointer (some ⟨t, 0, none⟩)] h fun v h' => v = .tuple #[] ∧ Wr h h' t (.cells (btC none none 0 0 0 s true).toArray 84 (0, 0)) := by
  refine CH.of_body Try.func41 rfl rfl rfl ?_
  intro f hf
  have p0 : f 0 = .pointer (some ⟨t, 0, none⟩) := by rw [hf]; exact fr0_at rfl
  -- region 0
  repeat refine HW.seq ?_
  refine HW.region ?_
  refine HL.still (Runs.move p0) ?_
  intro u2 e2
  refine HL.still (Runs.nilc e2) ?_
  intro u3 e3
  refine HL.still (Runs.fld (o' := 4) Try.underlying84 rfl sz4 (by decide) e3 (by rfl)) ?_
  intro u4 e4
  refine HL.zero (HO.store (s := 1) sz4 e4 rfl rfl ht (by simp [btC]) rfl ?_)
  intro h1 w1
  refine HL.nil ?_
  -- region 1
  repeat refine HW.seq ?_
  refine HW.region ?_
  refine HL.still (Runs.move p0) ?_
  intro u5 e5
  refine HL.still (Runs.build82z) ?_
  intro u6 e6
  refine HL.still (Runs.nilc e5) ?_
  intro u7 e7
  refine HL.still (Runs.fld (o' := 0) Try.underlying84 rfl sz82 (by decide) e7 (by rfl)) ?_
  intro u8 e8
  refine HL.zero (HO.storeAgg sz82 e8 e6 (by intro v hv; simp at hv; rcases hv with rfl | rfl | rfl <;> rfl) w1.new rfl (by simp [btC]) ?_)
  intro h2 w2
  refine HL.nil ?_
  refine RT.zero rfl ⟨rfl, by rw [w2.size, w1.size], w2.new, fun j hj => (w2.old j hj).trans (w1.old j hj)⟩
set_option maxRecDepth 10000 in
theorem stagedG_ch (h : Heap) (t s : Nat) (mv : Option Nat) (oa : Option Addr) (oc : Nat) (x : Int) (o : Bool) (l : List Dg) (ht : h[t]? = some (.cells (btC mv oa l.length oc x s o).toArray 84 (0, 0))) (hD : Dgs h oa l) (hl : l.length ≤ 1000000) : CH Try.prog 44 #[.pointer (some ⟨t, 0, none⟩)] h fun v h' => ∃ a c, v = .slice a l.length c ∧ Ds h' h.size a c l ∧ Ext h h' := by
  refine CH.of_body Try.func44 rfl rfl rfl ?_
  intro f hf
  have p0 : f 0 = .pointer (some ⟨t, 0, none⟩) := by rw [hf]; exact fr0_at rfl
  -- region 0
  repeat refine HW.seq ?_
  refine HW.region ?_
  refine HL.still (Runs.assign rfl) ?_
  intro u2 e2
  refine HL.nil ?_
  -- region 1
  repeat refine HW.seq ?_
  refine HW.region ?_
  refine HL.still (Runs.move p0) ?_
  intro u3 e3
  refine HL.still (Runs.nilc e3) ?_
  intro u4 e4
  refine HL.still (Runs.fld (o' := 0) Try.underlying84 rfl sz82 (by decide) e4 (by rfl)) ?_
  intro u5 e5
  refine HL.still (Runs.fld (o' := 1) Try.underlying82 rfl sz41 (by decide) e5 (by rfl)) ?_
  intro u6 e6
  refine HL.still (Runs.load Try.underlying41 rfl e6 (by rw [cellH_of ht]; rfl)) ?_
  intro u7 e7
  refine HL.one (HO.call Try.func59 bd59 nm59 (args1 e7) rfl ((cloneD_ch h l oa _ oc rfl hD hl).mono ?_))
  rintro _ h1 ⟨a, c, rfl, D, X⟩
  intro u8 e8
  refine HL.still (Runs.assign e8) ?_
  intro u2 e2
  refine HL.nil ?_
  refine HW.ret ?_
  exact RT.one rfl e2 ⟨a, c, rfl, D, X⟩
theorem staged_ch {F : Nat → Prop} (h : Heap) (t bm : Nat) (oa : Option Addr) (s : Nat) (W : Blobs) (hT : Bat F h t bm oa s W) (hl : W.length ≤ 1000000) : CH Try.prog 44 #[.pointer (some ⟨t, 0, none⟩)] h fun v h' => ∃ a c, v = .slice a (W.map (·.1)).length c ∧ Ds h' h.size a c (W.map (·.1)) ∧ Ext h h' := by
  obtain ⟨E, oc, h1, h2, h3, h4, _⟩ := hT
  exact stagedG_ch h t s (some bm) oa oc (tot W) false (W.map (·.1)) (by rw [List.length_map]; exact h2) h4.dgs (by rw [List.length_map]; exact hl)
theorem stagedO_ch {F : Nat → Prop} (h : Heap) (t s : Nat) (hT : BatO F h t s) : CH Try.prog 44 #[.pointer (some ⟨t, 0, none⟩)] h fun v h' => ∃ a c, v = .slice a 0 c ∧ Ds h' h.size a c [] ∧ Ext h h' :=
  stagedG_ch h t s none none 0 0 true [] hT.1 (.inl rfl) (by decide)
end Go.Proofs.Ytklelhfgbjpifaa
/-! batch.Get. -/
namespace Go.Proofs.Ytklelhfgbjpifaa
set_option linter.unnecessarySimpa false
set_option linter.unusedSimpArgs false
set_option linter.unusedVariables false
open Go.RowKit
/-- What a Get of a batch's gives: what is staged, else what the store has. -/
def getO (W M : Blobs) (x : Dg) : List UInt8 × Bool := match lookM W x with | some v => (v, true) | none => ((lookM M x).getD [], (lookM M x).isSome)
set_option maxRecDepth 10000 in
theorem getBO_ch {F : Nat → Prop} (h : Heap) (t s : Nat) (x : Dg) (hT : BatO F h t s) : CH Try.prog 42 #[.pointer (some ⟨t, 0, none⟩), keyV x] h fun v h' => v = .tuple #[.slice none 0 0, .bool false] ∧ Ext h h' := by
  obtain ⟨ht, _⟩ := hT
  refine CH.of_body Try.func42 rfl rfl rfl ?_
  intro f hf
  have p0 : f 0 = .pointer (some ⟨t, 0, none⟩) := by rw [hf]; exact fr0_at rfl
  have p1 : f 1 = keyV x := by rw [hf]; exact fr0_at rfl
  -- region 0
  repeat refine HW.seq ?_
  refine HW.region ?_
  refine HL.one (HO.box p1 ?_)
  intro h1 w1
  intro u3 e3
  refine HL.still (Runs.assign rfl) ?_
  intro u4 e4
  refine HL.still (Runs.assign rfl) ?_
  intro u5 e5
  refine HL.nil ?_
  have ht1 := w1.keep ht
  have hk1 : h1[h.size]? = some (.cells (encD x).toArray 31 (0, 0)) := w1.new
  -- region 1
  repeat refine HW.seq ?_
  refine HW.draw mixed (by kernel_rfl) ?_
  refine HS.still (Runs.move p0) ?_
  intro u9 e9
  refine HS.still (Runs.nilc e9) ?_
  intro u10 e10
  refine HS.still (Runs.fld (o' := 0) Try.underlying84 rfl sz82 (by decide) e10 (by rfl)) ?_
  intro u11 e11
  refine HS.still (Runs.fld (o' := 0) Try.underlying82 rfl sz63 (by decide) e11 (by rfl)) ?_
  intro u12 e12
  refine HS.still (Runs.load Try.underlying63 rfl e12 (by rw [cellH_of ht1]; rfl)) ?_
  intro u13 e13
  refine HS.still (Runs.loadAgg Try.underlying31 rfl sz31 e3 (encD_len x) (load_blk hk1)) ?_
  intro u14 e14
  refine HS.still (Runs.lookNil e13 e14) ?_
  intro u15 e15
  refine HS.still (Runs.move e15) ?_
  intro u8 e8
  refine HS.still (Runs.extr e8 rfl) ?_
  intro u16 e16
  refine HS.still (Runs.extr e8 rfl) ?_
  intro u17 e17
  refine HS.still (Runs.assign e16) ?_
  intro u6 e6
  refine HS.still (Runs.assign e17) ?_
  intro u7 e7
  refine HS.nil ?_
  repeat refine HW.seq ?_
  refine HW.block ?_
  -- region 2
  repeat refine HW.seq ?_
  refine HW.region ?_
  refine HL.still (Runs.move p0) ?_
  intro u19 e19
  refine HL.still (Runs.nilc e19) ?_
  intro u20 e20
  refine HL.still (Runs.fld (o' := 4) Try.underlying84 rfl sz4 (by decide) e20 (by rfl)) ?_
  intro u21 e21
  refine HL.still (Runs.load Try.underlying4 rfl e21 (by rw [cellH_of ht1]; rfl)) ?_
  intro u22 e22
  refine HL.still (Runs.assign e22) ?_
  intro u18 e18
  refine HL.nil ?_
  refine HW.yes e18 ?_
  -- region 3
  repeat refine HW.seq ?_
  refine HW.region ?_
  refine HL.still (Runs.assign rfl) ?_
  intro u4 e4
  refine HL.still (Runs.assign rfl) ?_
  intro u5 e5
  refine HL.nil ?_
  refine HW.ret ?_
  exact RT.two rfl e4 e5 ⟨rfl, w1.ext⟩
set_option maxRecDepth 10000 in
theorem getB_ch {F FS : Nat → Prop} (h : Heap) (t bm : Nat) (oa : Option Addr) (s b : Nat) (room : Int) (W M : Blobs) (x : Dg) (hT : Bat F h t bm oa s W) (hS : Sto FS h s b room M) (hlW : ∀ p ∈ W, p.2.length ≤ 140737488355328) (hlen : ∀ p ∈ M, p.2.length ≤ 140737488355328) :
    CH Try.prog 42 #[.pointer (some ⟨t, 0, none⟩), keyV x] h fun v h' => ∃ a c, v = .tuple #[.slice a (getO W M x).1.length c, .bool (getO W M x).2] ∧ Bs h' h.size 5 a c (getO W M x).1 ∧ Ext h h' := by
  obtain ⟨E, oc, rfl, ht, hM, hD, _, hE⟩ := hT
  refine CH.of_body Try.func42 rfl rfl rfl ?_
  intro f hf
  have p0 : f 0 = .pointer (some ⟨t, 0, none⟩) := by rw [hf]; exact fr0_at rfl
  have p1 : f 1 = keyV x := by rw [hf]; exact fr0_at rfl
  -- region 0
  repeat refine HW.seq ?_
  refine HW.region ?_
  refine HL.one (HO.box p1 ?_)
  intro h1 w1
  intro u3 e3
  refine HL.still (Runs.assign rfl) ?_
  intro u4 e4
  refine HL.still (Runs.assign rfl) ?_
  intro u5 e5
  refine HL.nil ?_
  have ht1 := w1.keep ht
  have hM1 : Mp h1 bm (E.map valOf) := hM.keep (w1.old bm hM.lt)
  have hk1 : h1[h.size]? = some (.cells (encD x).toArray 31 (0, 0)) := w1.new
  have z1 := w1.size
  -- region 1
  repeat refine HW.seq ?_
  refine HW.draw mixed (by kernel_rfl) ?_
  refine HS.still (Runs.move p0) ?_
  intro u9 e9
  refine HS.still (Runs.nilc e9) ?_
  intro u10 e10
  refine HS.still (Runs.fld (o' := 0) Try.underlying84 rfl sz82 (by decide) e10 (by rfl)) ?_
  intro u11 e11
  refine HS.still (Runs.fld (o' := 0) Try.underlying82 rfl sz63 (by decide) e11 (by rfl)) ?_
  intro u12 e12
  refine HS.still (Runs.load Try.underlying63 rfl e12 (by rw [cellH_of ht1]; rfl)) ?_
  intro u13 e13
  refine HS.still (Runs.loadAgg Try.underlying31 rfl sz31 e3 (encD_len x) (load_blk hk1)) ?_
  intro u14 e14
  refine HS.still (Runs.lookD e13 e14 hM1) ?_
  intro u15 e15
  refine HS.still (Runs.move e15) ?_
  intro u8 e8
  refine HS.still (Runs.extr e8 rfl) ?_
  intro u16 e16
  refine HS.still (Runs.extr e8 rfl) ?_
  intro u17 e17
  refine HS.still (Runs.assign e16) ?_
  intro u6 e6
  refine HS.still (Runs.assign e17) ?_
  intro u7 e7
  refine HS.nil ?_
  repeat refine HW.seq ?_
  refine HW.block ?_
  -- region 2
  repeat refine HW.seq ?_
  refine HW.region ?_
  refine HL.still (Runs.move p0) ?_
  intro u19 e19
  refine HL.still (Runs.nilc e19) ?_
  intro u20 e20
  refine HL.still (Runs.fld (o' := 4) Try.underlying84 rfl sz4 (by decide) e20 (by rfl)) ?_
  intro u21 e21
  refine HL.still (Runs.load Try.underlying4 rfl e21 (by rw [cellH_of ht1]; rfl)) ?_
  intro u22 e22
  refine HL.still (Runs.assign e22) ?_
  intro u18 e18
  refine HL.nil ?_
  refine HW.no e18 ?_
  rcases look_blob E x with ⟨l1, l2⟩ | ⟨e, he, _, l1, l2⟩
  · have g7 : u7 = .bool false := e7.trans (congrArg Value.bool (by rw [l1]; rfl))
    have hg : getO (E.map blobOf) M x = ((lookM M x).getD [], (lookM M x).isSome) := by unfold getO; rw [l2]
    -- region 4
    repeat refine HW.seq ?_
    refine HW.region ?_
    refine HL.still (Runs.move g7) ?_
    intro u24 e24
    refine HL.still (Runs.assign e24) ?_
    intro u23 e23
    refine HL.nil ?_
    refine HW.no e23 ?_
    refine HW.skip ?_
    obtain ⟨bs, hbs⟩ : ∃ bs, bs = (lookM M x).getD [] := ⟨_, rfl⟩
    obtain ⟨q, hq⟩ : ∃ q, q = (lookM M x).isSome := ⟨_, rfl⟩
    rw [← hbs, ← hq] at hg
    have hS1 := hS.ext w1.ext
    -- region 6
    repeat refine HW.seq ?_
    refine HW.grow #[0, 1, 3, 7, 0, 31, 63, 63, 255, 511] (fun a b => Ext a b) mixed (by kernel_rfl) (fun _ => Bel.refl _ _) (fun _ _ _ x y => Bel.ext x y (Nat.le_refl _)) ?_
    refine HM.still (fun _ => Bel.refl _ _) (fun f h K => Runs.move ((K.keep (by kernel_rfl)).trans p0)) ?_
    refine HM.still (fun _ => Bel.refl _ _) (fun f h K => Runs.nilc (K.at 0 27 rfl rfl)) ?_
    refine HM.still (fun _ => Bel.refl _ _) (fun f h K => Runs.fld (o' := 3) Try.underlying84 rfl sz25 (by decide) (K.at 1 28 rfl rfl) (by rfl)) ?_
    refine HM.still (fun _ => Bel.refl _ _) (fun f h K => Runs.load Try.underlying25 rfl (K.at 2 29 rfl rfl) (by rw [cellH_of (Bel.keepE K.grown ht1)]; rfl)) ?_
    refine HM.still (fun _ => Bel.refl _ _) (fun f h K => Runs.loadAgg Try.underlying31 rfl sz31 ((K.keep (by kernel_rfl)).trans e3) (encD_len x) (load_blk (Bel.keepE K.grown hk1))) ?_
    refine HM.one (fun v hh => ∃ a c, v = .tuple #[.slice a bs.length c, .bool q] ∧ Bs hh h.size 5 a c bs) (fun v u u' X ⟨a, c, q1, q2⟩ => ⟨a, c, q1, q2.ext X⟩) (fun f hh K => HO.call Try.func21 bd21 nm21 (args2 (K.at 3 30 rfl rfl) (K.at 4 31 rfl rfl)) rfl ((getS_ch hh s b room M x (hS1.ext K.grown) hlen).mono fun v h' ⟨a, c, q1, q2, q3⟩ => ⟨q3, a, c, by rw [hbs, hq]; exact q1, by rw [hbs]; exact Rs.low (gv := B8) q2 (by have := Bel.size K.grown; omega)⟩)) ?_
    refine HM.one (fun v hh => ∃ a c, v = .slice a bs.length c ∧ Bs hh h.size 5 a c bs) (fun v u u' X ⟨a, c, q1, q2⟩ => ⟨a, c, q1, q2.ext X⟩) (fun f hh K => by obtain ⟨a, c, q1, q2⟩ := K.at 5 32 rfl rfl; exact HO.of_runs (Runs.extr q1 rfl) ⟨Bel.refl _ _, a, c, rfl, q2⟩) ?_
    refine HM.one (fun v hh => v = .bool q) (fun _ _ _ _ e => e) (fun f hh K => by obtain ⟨a, c, q1, q2⟩ := K.at 5 32 rfl rfl; exact HO.of_runs (Runs.extr q1 rfl) ⟨Bel.refl _ _, rfl⟩) ?_
    refine HM.one (fun v hh => ∃ a c, v = .slice a bs.length c ∧ Bs hh h.size 5 a c bs) (fun v u u' X ⟨a, c, q1, q2⟩ => ⟨a, c, q1, q2.ext X⟩) (fun f hh K => HO.of_runs (Runs.assign rfl) ⟨Bel.refl _ _, K.at 6 33 rfl rfl⟩) ?_
    refine HM.still (fun _ => Bel.refl _ _) (fun f h K => Runs.assign (K.at 7 34 rfl rfl)) ?_
    intro f' h2 hR V O
    obtain ⟨a, c, g4, B⟩ := last_at V 8 4 rfl
    have g5 : f' 5 = .bool q := last_at V 9 5 rfl
    refine HW.ret ?_
    exact RT.two rfl g4 g5 ⟨a, c, by rw [hg], by rw [hg]; exact B, w1.ext.ext hR (Nat.le_refl _)⟩
  · have g7 : u7 = .bool true := e7.trans (congrArg Value.bool (by rw [l1]; rfl))
    have hg : getO (E.map blobOf) M x = (e.2.2, true) := by unfold getO; rw [l2]
    obtain ⟨a0, c0, q1, q2, q3, _⟩ := hE e he
    have g6 : u6 = .slice a0 e.2.2.length c0 := e6.trans (by rw [l1, q1]; rfl)
    -- region 4
    repeat refine HW.seq ?_
    refine HW.region ?_
    refine HL.still (Runs.move g7) ?_
    intro u24 e24
    refine HL.still (Runs.assign e24) ?_
    intro u23 e23
    refine HL.nil ?_
    refine HW.yes e23 ?_
    -- region 5
    repeat refine HW.seq ?_
    refine HW.region ?_
    refine HL.still (Runs.move g6) ?_
    intro u25 e25
    refine HL.one (HO.call Try.func46 bd46 nm46 (args1 e25) rfl ((clone_ch h1 e.2.2 a0 _ c0 rfl (q2.ext w1.ext) q3 (hlW (blobOf e) (List.mem_map.2 ⟨e, he, rfl⟩))).mono ?_))
    rintro _ h2 ⟨a, c, rfl, B, X⟩
    intro u26 e26
    refine HL.still (Runs.assign e26) ?_
    intro u4 e4
    refine HL.still (Runs.assign rfl) ?_
    intro u5 e5
    refine HL.nil ?_
    refine HW.ret ?_
    exact RT.two rfl e4 e5 ⟨a, c, by rw [hg], by rw [hg]; exact Rs.low (gv := B8) B (by omega), w1.ext.ext X (Nat.le_refl _)⟩
end Go.Proofs.Ytklelhfgbjpifaa
/-! batch.Put. -/
namespace Go.Proofs.Ytklelhfgbjpifaa
set_option linter.unnecessarySimpa false
set_option linter.unusedSimpArgs false
set_option linter.unusedVariables false
open Go.RowKit
/-- What a Put of a batch's leaves staged, and answers. -/
def putBO (room : Int) (W M : Blobs) (xs : List UInt8) : Blobs × Dg × Int :=
  if ((lookM W (shaD xs)).isSome || (lookM M (shaD xs)).isSome) = true then (W, shaD xs, 0) else if (xs.length : Int) > room - tot M - tot W then (W, zD, 2) else (W ++ [(shaD xs, xs)], shaD xs, 0)
section
variable {ρ : Operand → Value} {h : Heap} {d : Option Tmp} {ty : TypeId} {pos : String} {af : Array Edge} {gd : Option (Nat × Bool)} {K : Value → Heap → Prop} {x y : Operand}
/-- Append digests to a slice of these that is owned; where it lies then. -/
theorem HO.dapp2 {base : Nat} {a sa : Option Addr} {cap sc m n : Nat} {l ys : List Dg} (hx : ρ x = .slice a n cap) (hy : ρ y = .slice sa m sc) (hn : n = l.length) (hm : m = ys.length) (hne : ys ≠ []) (hown : Ds h base a cap l) (hsrc : Dgs h sa ys) (hlen : (l.length + ys.length) * 32 ≤ 140737488355328) (hbase : base ≤ h.size)
    (k : ∀ g' cap' h', Ds h' base (some ⟨g', 0, none⟩) cap' (l ++ ys) → GrA h h' a → (a = some ⟨g', 0, none⟩ ∨ g' = h.size) → K (.slice (some ⟨g', 0, none⟩) (l ++ ys).length cap') h') : HO Try.prog ⟨d, .call { callee := .builtin .append, args := #[x, y], argTypes := #[41, 41] }, ty, pos, af, gd⟩ ρ h K := by
  subst hn
  subst hm
  have hml : l.length + ys.length ≤ maxLen := Nat.le_trans (by omega : l.length + ys.length ≤ 140737488355328) (by decide)
  rcases hsrc with hnil | ⟨sb, so, hsa, hc⟩
  · exact absurd hnil hne
  · subst hsa
    have hown1 := hown.1
    refine HO.append (news := fl ys) Try.underlying41 in31 (by simp [Value.cells]) (by decide) hx hy hown1 (fl_len ys) (fun j u hj => ?_) (fl_one ys) hml (by simpa using hlen) hbase fun v' h' o g hat => ?_
    · obtain ⟨hj1, hj2⟩ := fl_cell hj
      have := hc _ hj1 _ _ hj2
      rwa [show so + j / 32 * 32 + j % 32 = so + j by omega] at this
    · have hg : GrA h h' a := by cases a <;> exact g
      rw [← fl_append] at o
      rcases o.cases with ⟨h1, h2, h3⟩ | ⟨g', c, h1, h2, h3, h4, h5⟩
      · have := List.length_pos_iff.2 hne
        omega
      · subst h1
        have := k g' c h' ⟨by rw [List.length_append]; exact o, by simpa using h3⟩ hg (by
          rcases hat with q | q
          · left
            rcases hown.blk with ⟨r, _⟩ | ⟨g0, r, _, _⟩
            · subst r; cases q
            · subst r; cases q; rfl
          · right; cases q; rfl)
        rw [List.length_append] at this
        exact this
end
set_option maxRecDepth 10000 in
theorem putBOv_ch {F : Nat → Prop} (h : Heap) (t s : Nat) (a : Option Addr) (n cap : Nat) (hT : BatO F h t s) : CH Try.prog 37 #[.pointer (some ⟨t, 0, none⟩), .slice a n cap] h fun v h' => v = .tuple #[keyV zD, I64 11] ∧ Ext h h' := by
  obtain ⟨ht, _⟩ := hT
  refine CH.of_body Try.func37 rfl rfl rfl ?_
  intro f hf
  have p0 : f 0 = .pointer (some ⟨t, 0, none⟩) := by rw [hf]; exact fr0_at rfl
  -- region 0
  repeat refine HW.seq ?_
  refine HW.region ?_
  refine HL.one (HO.alloc zr31 ?_)
  intro h4 w4
  intro u4 e4
  refine HL.still (Runs.assign rfl) ?_
  intro u5 e5
  refine HL.nil ?_
  have ht1 := w4.keep ht
  -- region 1
  repeat refine HW.seq ?_
  refine HW.region ?_
  refine HL.still (Runs.move p0) ?_
  intro u9 e9
  refine HL.still (Runs.nilc e9) ?_
  intro u10 e10
  refine HL.still (Runs.fld (o' := 4) Try.underlying84 rfl sz4 (by decide) e10 (by rfl)) ?_
  intro u11 e11
  refine HL.still (Runs.load Try.underlying4 rfl e11 (by rw [cellH_of ht1]; rfl)) ?_
  intro u12 e12
  refine HL.nil ?_
  refine HW.yes e12 ?_
  -- region 2
  repeat refine HW.seq ?_
  refine HW.region ?_
  refine HL.still (Runs.buildZ31) ?_
  intro u13 e13
  refine HL.zero (HO.storeAll sz31 e4 e13 (one_map B8 (fun _ => rfl) _) w4.new rfl (by simp) ?_)
  intro h8 w8
  refine HL.still (Runs.assign rfl) ?_
  intro u5 e5
  refine HL.nil ?_
  refine HW.ret ?_
  exact RT.cellTmp rfl e4 e5 w8.new Try.underlying31 rfl sz31 rfl ⟨rfl, w4.ext.wr w8 (Nat.le_refl _)⟩
theorem obk_own (a : Option Addr) : (Value.slice a 0 0).ownBlock = obk a := by cases a <;> rfl
theorem Bs.grD {h h' : Heap} {b1 b2 : Nat} {a : Option Addr} {c : Nat} {xs : List UInt8} {a2 : Option Addr} {c2 : Nat} {l : List Dg} (x : Bs h b1 5 a c xs) (y : Ds h b2 a2 c2 l) (k : GrA h h' a2) : Bs h' b1 5 a c xs := by
  refine ⟨x.1.gr k ?_, x.2⟩
  have := own_ne x.1 y.1 (by decide)
  rcases this with q | q
  · exact .inl q
  · right; cases a2 <;> exact q
/-- Region 9 of batch.Put: what holds from its append on. -/
structure K9 (h7 : Heap) (t bm : Nat) (oa : Option Addr) (W : Blobs) (d : Dg) (xs : List UInt8) (g' oc' : Nat) (a7 : Option Addr) (c7 : Nat) (hh : Heap) : Prop where
  bs : Bs hh h7.size 5 a7 c7 xs
  ds : Ds hh 0 (some ⟨g', 0, none⟩) oc' (W.map (·.1) ++ [d])
  whr : oa = some ⟨g', 0, none⟩ ∨ h7.size ≤ g'
  ne : ∀ g, a7 = some ⟨g, 0, none⟩ → g ≠ g'
  size : h7.size ≤ hh.size
  old : ∀ j, j < h7.size → some j ≠ obk oa → j ≠ bm → j ≠ t → hh[j]? = h7[j]?
theorem K9.turn {h7 : Heap} {t bm : Nat} {oa : Option Addr} {W : Blobs} {d : Dg} {xs : List UInt8} {g' oc' : Nat} {a7 : Option Addr} {c7 : Nat} {hh h' : Heap} (x : K9 h7 t bm oa W d xs g' oc' a7 c7 hh) (k : Nat) (hk : k = bm ∨ k = t) (hlt : k < h7.size) (hoa : some k ≠ obk oa) (hz : h'.size = hh.size) (ho : ∀ j, j ≠ k → h'[j]? = hh[j]?) : K9 h7 t bm oa W d xs g' oc' a7 c7 h' := by
  refine ⟨⟨x.bs.1.keep fun j hj => ho j ?_, x.bs.2⟩, x.ds.keep' fun g e => ho g ?_, x.whr, x.ne, by rw [hz]; exact x.size, fun j j1 j2 j3 j4 => (ho j ?_).trans (x.old j j1 j2 j3 j4)⟩
  · have := (x.bs.1.lt j hj).1
    omega
  · have : g' = g := by cases e; rfl
    subst this
    rcases x.whr with q | q
    · rw [q] at hoa
      exact fun e => hoa (by rw [← e]; rfl)
    · omega
  · rcases hk with q | q <;> rw [q] <;> assumption
def P9 (h7 : Heap) (t bm s : Nat) (oa : Option Addr) (W : Blobs) (L : List (Dg × Value)) (d : Dg) (xs : List UInt8) (n : Nat) (y67 y75 y76 y77 : Value) (hh : Heap) : Prop :=
  (n = 0 ∧ Ext h7 hh) ∨ (17 ≤ n ∧ ∃ g' oc' a7 c7, y67 = .slice a7 xs.length c7 ∧ y75 = .slice (some ⟨g', 0, none⟩) (W.length + 1) oc' ∧ K9 h7 t bm oa W d xs g' oc' a7 c7 hh ∧ (n = 17 → hh[bm]? = h7[bm]?) ∧ (n ≤ 20 → hh[t]? = h7[t]?) ∧
    (n = 18 → ∃ cl : Nat, y76 = .tuple #[.slice none 0 0, goInt cl] ∧ MpE hh bm L d cl) ∧ (n = 19 → ∃ cl : Nat, y77 = goInt cl ∧ MpE hh bm L d cl) ∧ (20 ≤ n → Mp hh bm (L ++ [(d, .slice a7 xs.length c7)])) ∧
    (n = 24 → hh[t]? = some (.cells (btC (some bm) (some ⟨g', 0, none⟩) (W.length + 1) oc' (tot W) s false).toArray 84 (0, 0))))
section
variable {h7 : Heap} {t bm s : Nat} {oa : Option Addr} {W : Blobs} {L : List (Dg × Value)} {d : Dg} {xs : List UInt8} {n : Nat} {y67 y75 y76 y77 : Value} {hh : Heap}
theorem P9.zero' (x : P9 h7 t bm s oa W L d xs n y67 y75 y76 y77 hh) (hn : n ≤ 16) : n = 0 ∧ Ext h7 hh := by
  rcases x with q | ⟨q, _⟩
  · exact q
  · omega
theorem P9.zero (x : P9 h7 t bm s oa W L d xs n y67 y75 y76 y77 hh) (hn : n ≤ 16) : Ext h7 hh := (x.zero' hn).2
theorem P9.tt (x : P9 h7 t bm s oa W L d xs n y67 y75 y76 y77 hh) (hn : n ≤ 20) (ht : t < h7.size) : hh[t]? = h7[t]? := by
  rcases x with ⟨_, q⟩ | ⟨_, _, _, _, _, _, _, _, _, q, _⟩
  · exact q.old t ht
  · exact q hn
theorem P9.old (x : P9 h7 t bm s oa W L d xs n y67 y75 y76 y77 hh) {j : Nat} (h1 : j < h7.size) (h2 : some j ≠ obk oa) (h3 : j ≠ bm) (h4 : j ≠ t) : hh[j]? = h7[j]? := by
  rcases x with ⟨_, q⟩ | ⟨_, _, _, _, _, _, _, q, _⟩
  · exact q.old j h1
  · exact q.old j h1 h2 h3 h4
theorem P9.some (x : P9 h7 t bm s oa W L d xs n y67 y75 y76 y77 hh) (hn : n ≠ 0) : ∃ g' oc' a7 c7, y67 = .slice a7 xs.length c7 ∧ y75 = .slice (some ⟨g', 0, none⟩) (W.length + 1) oc' ∧ K9 h7 t bm oa W d xs g' oc' a7 c7 hh ∧ (n = 17 → hh[bm]? = h7[bm]?) ∧ (n ≤ 20 → hh[t]? = h7[t]?) ∧
    (n = 18 → ∃ cl : Nat, y76 = .tuple #[.slice none 0 0, goInt cl] ∧ MpE hh bm L d cl) ∧ (n = 19 → ∃ cl : Nat, y77 = goInt cl ∧ MpE hh bm L d cl) ∧ (20 ≤ n → Mp hh bm (L ++ [(d, .slice a7 xs.length c7)])) ∧
    (n = 24 → hh[t]? = Option.some (.cells (btC (Option.some bm) (Option.some ⟨g', 0, none⟩) (W.length + 1) oc' (tot W) s false).toArray 84 (0, 0))) := by
  rcases x with ⟨q, _⟩ | ⟨_, q⟩
  · exact absurd q hn
  · exact q
end
abbrev C9 : Nat → Bool := fun i => i == 16 || i == 17 || i == 18 || i == 19 || i == 23
abbrev G9 : Nat → Bool := fun i => i == 8 || i == 15
set_option maxRecDepth 10000 in
set_option maxHeartbeats 1000000 in
theorem putB_ch {F FS : Nat → Prop} (h : Heap) (t bm : Nat) (oa : Option Addr) (s b : Nat) (room : Int) (W M : Blobs) (xs : List UInt8) (a : Option Addr) (cap : Nat) (hT : Bat F h t bm oa s W) (hS : Sto FS h s b room M) (hsrc : Byt h a xs) (hcap : xs.length ≤ cap) (hlen : xs.length ≤ 100000) (hr : room ≤ 1073741824) (hr0 : 0 ≤ room) (htM : (tot M : Int) ≤ room) (htW : tot W ≤ 1000000000) (hlW : W.length ≤ 1000000) :
    CH Try.prog 37 #[.pointer (some ⟨t, 0, none⟩), .slice a xs.length cap] h fun v h' => v = .tuple #[keyV (putBO room W M xs).2.1, I64 (putBO room W M xs).2.2] ∧ ∃ oa', Bat (fun j => F j ∨ h.size ≤ j) h' t bm oa' s (putBO room W M xs).1 ∧ ExF F h h' := by
  obtain ⟨E, oc, hWE, ht, hM, hD, ⟨htb, hFt, hFb, hLo⟩, hE⟩ := id hT
  refine CH.of_body Try.func37 rfl rfl rfl ?_
  intro f hf
  have p0 : f 0 = .pointer (some ⟨t, 0, none⟩) := by rw [hf]; exact fr0_at rfl
  have p1 : f 1 = .slice a xs.length cap := by rw [hf]; exact fr0_at rfl
  -- region 0
  repeat refine HW.seq ?_
  refine HW.region ?_
  refine HL.one (HO.alloc zr31 ?_)
  intro h4 w4
  intro u4 e4
  refine HL.still (Runs.assign rfl) ?_
  intro u5 e5
  refine HL.nil ?_
  have z4 := w4.size
  have ht4 := w4.keep ht
  -- region 1
  repeat refine HW.seq ?_
  refine HW.region ?_
  refine HL.still (Runs.move p0) ?_
  intro u9 e9
  refine HL.still (Runs.nilc e9) ?_
  intro u10 e10
  refine HL.still (Runs.fld (o' := 4) Try.underlying84 rfl sz4 (by decide) e10 (by rfl)) ?_
  intro u11 e11
  refine HL.still (Runs.load Try.underlying4 rfl e11 (by rw [cellH_of ht4]; rfl)) ?_
  intro u12 e12
  refine HL.nil ?_
  refine HW.no e12 ?_
  refine HW.skip ?_
  -- region 3
  repeat refine HW.seq ?_
  refine HW.region ?_
  refine HL.still (Runs.move p1) ?_
  intro u14 e14
  refine HL.one (HO.call Try.func31 bd31 nm31 (args1 e14) rfl ((of_ch h4 xs a cap (hsrc.ext w4.ext) hcap (by omega)).mono ?_))
  rintro _ h2 ⟨rfl, X2⟩
  intro u15 e15
  refine HL.one (HO.alloc zr31 ?_)
  intro h3 w3
  intro u6 e6
  refine HL.zero (HO.storeAll sz31 e6 e15 (one_map B8 (fun _ => rfl) _) w3.new (by rw [List.length_map, SHA_len]) rfl ?_)
  intro h5 w5
  refine HL.nil ?_
  have z2 := X2.size
  have z3 := w3.size
  have z5 := w5.size
  have XA : Ext h h5 := ((w4.ext.ext X2 (Nat.le_refl _)).ext w3.ext (Nat.le_refl _)).wr w5 (by omega)
  have ht5 := XA.keepE ht
  have hM5 : Mp h5 bm (E.map valOf) := hM.keep (XA.old bm hM.lt)
  have hk5 : h5[h2.size]? = some (.cells (encD (shaD xs)).toArray 31 (0, 0)) := w5.new
  have hr5 : h5[h.size]? = some (.cells ((List.replicate 32 (0 : UInt8)).map B8).toArray 31 (0, 0)) := (w5.old _ (by omega)).trans ((w3.keep (X2.keepE w4.new)))
  -- region 4
  repeat refine HW.seq ?_
  refine HW.draw mixed (by kernel_rfl) ?_
  refine HS.still (Runs.move p0) ?_
  intro u17 e17
  refine HS.still (Runs.nilc e17) ?_
  intro u18 e18
  refine HS.still (Runs.fld (o' := 0) Try.underlying84 rfl sz82 (by decide) e18 (by rfl)) ?_
  intro u19 e19
  refine HS.still (Runs.fld (o' := 0) Try.underlying82 rfl sz63 (by decide) e19 (by rfl)) ?_
  intro u20 e20
  refine HS.still (Runs.load Try.underlying63 rfl e20 (by rw [cellH_of ht5]; rfl)) ?_
  intro u21 e21
  refine HS.still (Runs.loadAgg Try.underlying31 rfl sz31 e6 (encD_len (shaD xs)) (load_blk hk5)) ?_
  intro u22 e22
  refine HS.still (Runs.lookD e21 e22 hM5) ?_
  intro u23 e23
  refine HS.still (Runs.move e23) ?_
  intro u16 e16
  refine HS.still (Runs.extr e16 rfl) ?_
  intro u24 e24
  refine HS.still (Runs.extr e16 rfl) ?_
  intro u25 e25
  refine HS.still (Runs.assign e24) ?_
  intro u7 e7
  refine HS.still (Runs.assign e25) ?_
  intro u8 e8
  refine HS.nil ?_
  have hlk : (look (E.map valOf) (shaD xs)).isSome = (lookM W (shaD xs)).isSome := by
    rw [hWE]
    rcases look_blob E (shaD xs) with ⟨q1, q2⟩ | ⟨e, _, _, q1, q2⟩ <;> rw [q1, q2] <;> rfl
  have g8 : u8 = .bool (lookM W (shaD xs)).isSome := e8.trans (congrArg Value.bool hlk)
  have hpa : ∀ (hh : Heap), Ext h hh → ∀ W', W' = W → Bat (fun j => F j ∨ h.size ≤ j) hh t bm oa s W' := fun hh X W' e => by rw [e]; exact (hT.ext X).weaken fun j _ q => .inl q
  repeat refine HW.seq ?_
  refine HW.block ?_
  repeat refine HW.seq ?_
  -- is it there?
  refine HW.mono (N := fun f' h6 => f' 0 = .pointer (some ⟨t, 0, none⟩) ∧ f' 1 = .slice a xs.length cap ∧ f' 4 = .pointer (some ⟨h.size, 0, none⟩) ∧ f' 6 = .pointer (some ⟨h2.size, 0, none⟩) ∧ f' 26 = .bool ((lookM W (shaD xs)).isSome || (lookM M (shaD xs)).isSome) ∧ Ext h5 h6) ?_ ?_ (fun _ _ _ q => q) (fun _ _ q => q)
  · cases hq : (lookM W (shaD xs)).isSome with
    | true =>
      have g8' : u8 = .bool true := g8.trans (congrArg Value.bool hq)
      -- region 5
      repeat refine HW.seq ?_
      refine HW.grow #[0, 1, 3, 7, 15, 31, 3, 127, 255, 511] (fun a b => Ext a b) mixed (by kernel_rfl) (fun _ => Bel.refl _ _) (fun _ _ _ x y => Bel.ext x y (Nat.le_refl _)) ?_
      refine HM.still (fun _ => Bel.refl _ _) (fun f h K => Runs.move ((K.keep (by kernel_rfl)).trans g8')) ?_
      refine HM.still (fun _ => Bel.refl _ _) (fun f h K => Runs.move (K.at 0 27 rfl rfl)) ?_
      refine HM.skipG rfl rfl rfl (fun f h K => K.at 1 28 rfl rfl) ?_
      refine HM.skipG rfl rfl rfl (fun f h K => K.at 1 28 rfl rfl) ?_
      refine HM.skipG rfl rfl rfl (fun f h K => K.at 1 28 rfl rfl) ?_
      refine HM.skipG rfl rfl rfl (fun f h K => K.at 1 28 rfl rfl) ?_
      refine HM.skipG rfl rfl rfl (fun f h K => K.at 1 28 rfl rfl) ?_
      refine HM.skipG rfl rfl rfl (fun f h K => K.at 1 28 rfl rfl) ?_
      refine HM.still (fun _ => Bel.refl _ _) (fun f h K => Runs.pick (K.at 1 28 rfl rfl) rfl) ?_
      refine HM.still (fun _ => Bel.refl _ _) (fun f h K => Runs.assign (K.at 8 35 rfl rfl)) ?_
      intro f' h6 hR V O
      have g26 : f' 26 = .bool true := last_at V 9 26 rfl
      exact ⟨(last_keep O (s := 0) (by kernel_rfl)).trans p0, (last_keep O (s := 1) (by kernel_rfl)).trans p1, (last_keep O (s := 4) (by kernel_rfl)).trans e4, (last_keep O (s := 6) (by kernel_rfl)).trans e6, g26.trans (by simp), hR⟩
    | false =>
      have g8' : u8 = .bool false := g8.trans (congrArg Value.bool hq)
      -- region 5
      repeat refine HW.seq ?_
      refine HW.grow #[0, 1, 3, 7, 15, 31, 3, 127, 255, 511] (fun a b => Ext a b) mixed (by kernel_rfl) (fun _ => Bel.refl _ _) (fun _ _ _ x y => Bel.ext x y (Nat.le_refl _)) ?_
      refine HM.still (fun _ => Bel.refl _ _) (fun f h K => Runs.move ((K.keep (by kernel_rfl)).trans g8')) ?_
      refine HM.still (fun _ => Bel.refl _ _) (fun f h K => Runs.move (K.at 0 27 rfl rfl)) ?_
      refine HM.stillG (fun _ => Bel.refl _ _) rfl rfl rfl (fun f h K => K.at 1 28 rfl rfl) (fun f h K => Runs.move ((K.keep (by kernel_rfl)).trans p0)) ?_
      refine HM.stillG (fun _ => Bel.refl _ _) rfl rfl rfl (fun f h K => K.at 1 28 rfl rfl) (fun f h K => Runs.nilc (K.at 2 29 rfl rfl)) ?_
      refine HM.stillG (fun _ => Bel.refl _ _) rfl rfl rfl (fun f h K => K.at 1 28 rfl rfl) (fun f h K => Runs.fld (o' := 3) Try.underlying84 rfl sz25 (by decide) (K.at 3 30 rfl rfl) (by rfl)) ?_
      refine HM.stillG (fun _ => Bel.refl _ _) rfl rfl rfl (fun f h K => K.at 1 28 rfl rfl) (fun f h K => Runs.load Try.underlying25 rfl (K.at 4 31 rfl rfl) (by rw [cellH_of (Bel.keepE K.grown ht5)]; rfl)) ?_
      refine HM.stillG (fun _ => Bel.refl _ _) rfl rfl rfl (fun f h K => K.at 1 28 rfl rfl) (fun f h K => Runs.loadAgg Try.underlying31 rfl sz31 ((K.keep (by kernel_rfl)).trans e6) (encD_len (shaD xs)) (load_blk (Bel.keepE K.grown hk5))) ?_
      refine HM.oneG (fun x _ => x = _) (fun _ _ _ _ e => e) rfl rfl rfl (fun f h K => K.at 1 28 rfl rfl) (fun f h K => HO.call Try.func23 bd23 nm23 (args2 (K.at 5 32 rfl rfl) (K.at 6 33 rfl rfl)) rfl ((hasS_ch h s b room M (shaD xs) ((hS.ext XA).ext K.grown)).mono fun _ _ q => ⟨q.2, q.1⟩)) ?_
      refine HM.still (fun _ => Bel.refl _ _) (fun f h K => Runs.pick (K.at 1 28 rfl rfl) (K.at 7 34 rfl rfl)) ?_
      refine HM.still (fun _ => Bel.refl _ _) (fun f h K => Runs.assign (K.at 8 35 rfl rfl)) ?_
      intro f' h6 hR V O
      have g26 : f' 26 = .bool (lookM M (shaD xs)).isSome := last_at V 9 26 rfl
      exact ⟨(last_keep O (s := 0) (by kernel_rfl)).trans p0, (last_keep O (s := 1) (by kernel_rfl)).trans p1, (last_keep O (s := 4) (by kernel_rfl)).trans e4, (last_keep O (s := 6) (by kernel_rfl)).trans e6, g26.trans (by simp), hR⟩
  clear e7 e8 g8 e5 e12
  rintro f h6 ⟨f0, f1, f4, f6, f26, X6⟩
  have z6 := X6.size
  have XB : Ext h h6 := XA.ext X6 (Nat.le_refl _)
  have hk6 := X6.keepE hk5
  have hr6 := X6.keepE hr5
  have ht6 := X6.keepE ht5
  cases hq : ((lookM W (shaD xs)).isSome || (lookM M (shaD xs)).isSome) with
  | true =>
    have hp : putBO room W M xs = (W, shaD xs, 0) := by unfold putBO; rw [if_pos hq]
    refine HW.yes (f26.trans (congrArg Value.bool hq)) ?_
    -- region 6
    repeat refine HW.seq ?_
    refine HW.region ?_
    refine HL.still (Runs.loadAgg Try.underlying31 rfl sz31 f6 (encD_len (shaD xs)) (load_blk hk6)) ?_
    intro u36 e36
    refine HL.zero (HO.storeAll sz31 f4 e36 (one_map B8 (fun _ => rfl) _) hr6 (encD_len _) (by simp) ?_)
    intro h7 w7
    refine HL.still (Runs.assign rfl) ?_
    intro u5 e5
    refine HL.nil ?_
    refine HW.ret ?_
    have XC := XB.wr w7 (Nat.le_refl _)
    exact RT.cellTmp rfl f4 e5 w7.new Try.underlying31 rfl sz31 (encD_len _) ⟨by rw [hp]; rfl, oa, hpa _ XC _ (by rw [hp]), .of_ext XC⟩
  | false =>
    have hq' : ¬ ((lookM W (shaD xs)).isSome || (lookM M (shaD xs)).isSome) = true := by rw [hq]; decide
    refine HW.no (f26.trans (congrArg Value.bool hq)) ?_
    have hS6 := hS.ext XB
    by_cases hfull : (xs.length : Int) > room - tot M - tot W
    · have hp : putBO room W M xs = (W, zD, 2) := by unfold putBO; rw [if_neg hq', if_pos hfull]
      -- region 7
      repeat refine HW.seq ?_
      refine HW.grow #[0, 1, 0, 4, 12, 28, 60, 0, 128, 384, 896, 2044, 4092, 0, 8192, 24576, 57344, 122880, 262140, 524287, 1048575] (fun a b => Ext a b) mixed (by kernel_rfl) (fun _ => Bel.refl _ _) (fun _ _ _ x y => Bel.ext x y (Nat.le_refl _)) ?_
      refine HM.still (fun _ => Bel.refl _ _) (fun f h K => Runs.move ((K.keep (by kernel_rfl)).trans f1)) ?_
      refine HM.still (fun _ => Bel.refl _ _) (fun f h K => Runs.lenSl rfl Try.underlying29 (K.at 0 38 rfl rfl)) ?_
      refine HM.still (fun _ => Bel.refl _ _) (fun f h K => Runs.move ((K.keep (by kernel_rfl)).trans f0)) ?_
      refine HM.still (fun _ => Bel.refl _ _) (fun f h K => Runs.nilc (K.at 2 40 rfl rfl)) ?_
      refine HM.still (fun _ => Bel.refl _ _) (fun f h K => Runs.fld (o' := 3) Try.underlying84 rfl sz25 (by decide) (K.at 3 41 rfl rfl) (by rfl)) ?_
      refine HM.still (fun _ => Bel.refl _ _) (fun f h K => Runs.load Try.underlying25 rfl (K.at 4 42 rfl rfl) (by rw [cellH_of (Bel.keepE K.grown ht6)]; rfl)) ?_
      refine HM.one (fun x _ => x = _) (fun _ _ _ _ e => e) (fun f h K => HO.call Try.func28 bd28 nm28 (args1 (K.at 5 43 rfl rfl)) rfl ((roomX_ch h s b room M (hS6.ext K.grown)).mono fun _ _ q => ⟨q.2, q.1⟩)) ?_
      refine HM.still (fun _ => Bel.refl _ _) (fun f h K => Runs.move ((K.keep (by kernel_rfl)).trans f0)) ?_
      refine HM.still (fun _ => Bel.refl _ _) (fun f h K => Runs.nilc (K.at 7 45 rfl rfl)) ?_
      refine HM.still (fun _ => Bel.refl _ _) (fun f h K => Runs.fld (o' := 3) Try.underlying84 rfl sz25 (by decide) (K.at 8 46 rfl rfl) (by rfl)) ?_
      refine HM.still (fun _ => Bel.refl _ _) (fun f h K => Runs.load Try.underlying25 rfl (K.at 9 47 rfl rfl) (by rw [cellH_of (Bel.keepE K.grown ht6)]; rfl)) ?_
      refine HM.one (fun x _ => x = _) (fun _ _ _ _ e => e) (fun f h K => HO.call Try.func26 bd26 nm26 (args1 (K.at 10 48 rfl rfl)) rfl ((usedX_ch h s b room M (tot M) (hS6.ext K.grown) rfl).mono fun _ _ q => ⟨q.2, q.1⟩)) ?_
      refine HM.still (fun _ => Bel.refl _ _) (fun f h K => Runs.sub (K.at 6 44 rfl rfl) (K.at 11 49 rfl rfl) (i64w (by omega))) ?_
      refine HM.still (fun _ => Bel.refl _ _) (fun f h K => Runs.move ((K.keep (by kernel_rfl)).trans f0)) ?_
      refine HM.still (fun _ => Bel.refl _ _) (fun f h K => Runs.nilc (K.at 13 51 rfl rfl)) ?_
      refine HM.still (fun _ => Bel.refl _ _) (fun f h K => Runs.fld (o' := 0) Try.underlying84 rfl sz82 (by decide) (K.at 14 52 rfl rfl) (by rfl)) ?_
      refine HM.still (fun _ => Bel.refl _ _) (fun f h K => Runs.fld (o' := 2) Try.underlying82 rfl sz3 (by decide) (K.at 15 53 rfl rfl) (by rfl)) ?_
      refine HM.still (fun _ => Bel.refl _ _) (fun f h K => Runs.load Try.underlying3 rfl (K.at 16 54 rfl rfl) (show cellH h t 2 = some (I64 (tot W)) by rw [cellH_of (Bel.keepE K.grown ht6)]; rfl)) ?_
      refine HM.still (fun _ => Bel.refl _ _) (fun f h K => Runs.sub (K.at 12 50 rfl rfl) (K.at 17 55 rfl rfl) (i64w (by omega))) ?_
      refine HM.still (fun _ => Bel.refl _ _) (fun f h K => Runs.gtr (K.at 1 39 rfl rfl) (K.at 18 56 rfl rfl) (t := true) (decide_eq_true hfull)) ?_
      refine HM.still (fun _ => Bel.refl _ _) (fun f h K => Runs.assign (K.at 19 57 rfl rfl)) ?_
      intro f' h7 hR V O
      have hE7 : Ext h6 h7 := hR
      have q4 := (last_keep O (s := 4) (by kernel_rfl)).trans f4
      have g37 : f' 37 = .bool true := last_at V 20 37 rfl
      have hr7 := hE7.keepE hr6
      refine HW.yes g37 ?_
      -- region 8
      repeat refine HW.seq ?_
      refine HW.region ?_
      refine HL.still (Runs.buildZ31) ?_
      intro u58 e58
      refine HL.zero (HO.storeAll sz31 q4 e58 (one_map B8 (fun _ => rfl) _) hr7 rfl (by simp) ?_)
      intro h8 w8
      refine HL.still (Runs.assign rfl) ?_
      intro u5 e5
      refine HL.nil ?_
      refine HW.ret ?_
      have XC := (XB.ext hE7 (Nat.le_refl _)).wr w8 (Nat.le_refl _)
      exact RT.cellTmp rfl q4 e5 w8.new Try.underlying31 rfl sz31 rfl ⟨by rw [hp]; rfl, oa, hpa _ XC _ (by rw [hp]), .of_ext XC⟩
    · have hp : putBO room W M xs = (W ++ [(shaD xs, xs)], shaD xs, 0) := by unfold putBO; rw [if_neg hq', if_neg hfull]
      rw [hp]
      -- region 7
      repeat refine HW.seq ?_
      refine HW.grow #[0, 1, 0, 4, 12, 28, 60, 0, 128, 384, 896, 2044, 4092, 0, 8192, 24576, 57344, 122880, 262140, 524287, 1048575] (fun a b => Ext a b) mixed (by kernel_rfl) (fun _ => Bel.refl _ _) (fun _ _ _ x y => Bel.ext x y (Nat.le_refl _)) ?_
      refine HM.still (fun _ => Bel.refl _ _) (fun f h K => Runs.move ((K.keep (by kernel_rfl)).trans f1)) ?_
      refine HM.still (fun _ => Bel.refl _ _) (fun f h K => Runs.lenSl rfl Try.underlying29 (K.at 0 38 rfl rfl)) ?_
      refine HM.still (fun _ => Bel.refl _ _) (fun f h K => Runs.move ((K.keep (by kernel_rfl)).trans f0)) ?_
      refine HM.still (fun _ => Bel.refl _ _) (fun f h K => Runs.nilc (K.at 2 40 rfl rfl)) ?_
      refine HM.still (fun _ => Bel.refl _ _) (fun f h K => Runs.fld (o' := 3) Try.underlying84 rfl sz25 (by decide) (K.at 3 41 rfl rfl) (by rfl)) ?_
      refine HM.still (fun _ => Bel.refl _ _) (fun f h K => Runs.load Try.underlying25 rfl (K.at 4 42 rfl rfl) (by rw [cellH_of (Bel.keepE K.grown ht6)]; rfl)) ?_
      refine HM.one (fun x _ => x = _) (fun _ _ _ _ e => e) (fun f h K => HO.call Try.func28 bd28 nm28 (args1 (K.at 5 43 rfl rfl)) rfl ((roomX_ch h s b room M (hS6.ext K.grown)).mono fun _ _ q => ⟨q.2, q.1⟩)) ?_
      refine HM.still (fun _ => Bel.refl _ _) (fun f h K => Runs.move ((K.keep (by kernel_rfl)).trans f0)) ?_
      refine HM.still (fun _ => Bel.refl _ _) (fun f h K => Runs.nilc (K.at 7 45 rfl rfl)) ?_
      refine HM.still (fun _ => Bel.refl _ _) (fun f h K => Runs.fld (o' := 3) Try.underlying84 rfl sz25 (by decide) (K.at 8 46 rfl rfl) (by rfl)) ?_
      refine HM.still (fun _ => Bel.refl _ _) (fun f h K => Runs.load Try.underlying25 rfl (K.at 9 47 rfl rfl) (by rw [cellH_of (Bel.keepE K.grown ht6)]; rfl)) ?_
      refine HM.one (fun x _ => x = _) (fun _ _ _ _ e => e) (fun f h K => HO.call Try.func26 bd26 nm26 (args1 (K.at 10 48 rfl rfl)) rfl ((usedX_ch h s b room M (tot M) (hS6.ext K.grown) rfl).mono fun _ _ q => ⟨q.2, q.1⟩)) ?_
      refine HM.still (fun _ => Bel.refl _ _) (fun f h K => Runs.sub (K.at 6 44 rfl rfl) (K.at 11 49 rfl rfl) (i64w (by omega))) ?_
      refine HM.still (fun _ => Bel.refl _ _) (fun f h K => Runs.move ((K.keep (by kernel_rfl)).trans f0)) ?_
      refine HM.still (fun _ => Bel.refl _ _) (fun f h K => Runs.nilc (K.at 13 51 rfl rfl)) ?_
      refine HM.still (fun _ => Bel.refl _ _) (fun f h K => Runs.fld (o' := 0) Try.underlying84 rfl sz82 (by decide) (K.at 14 52 rfl rfl) (by rfl)) ?_
      refine HM.still (fun _ => Bel.refl _ _) (fun f h K => Runs.fld (o' := 2) Try.underlying82 rfl sz3 (by decide) (K.at 15 53 rfl rfl) (by rfl)) ?_
      refine HM.still (fun _ => Bel.refl _ _) (fun f h K => Runs.load Try.underlying3 rfl (K.at 16 54 rfl rfl) (show cellH h t 2 = some (I64 (tot W)) by rw [cellH_of (Bel.keepE K.grown ht6)]; rfl)) ?_
      refine HM.still (fun _ => Bel.refl _ _) (fun f h K => Runs.sub (K.at 12 50 rfl rfl) (K.at 17 55 rfl rfl) (i64w (by omega))) ?_
      refine HM.still (fun _ => Bel.refl _ _) (fun f h K => Runs.gtr (K.at 1 39 rfl rfl) (K.at 18 56 rfl rfl) (t := false) (decide_eq_false hfull)) ?_
      refine HM.still (fun _ => Bel.refl _ _) (fun f h K => Runs.assign (K.at 19 57 rfl rfl)) ?_
      intro f' h7 hR V O
      have hE7 : Ext h6 h7 := hR
      have q0 := (last_keep O (s := 0) (by kernel_rfl)).trans f0
      have q1 := (last_keep O (s := 1) (by kernel_rfl)).trans f1
      have q4 := (last_keep O (s := 4) (by kernel_rfl)).trans f4
      have q6 := (last_keep O (s := 6) (by kernel_rfl)).trans f6
      have g37 : f' 37 = .bool false := last_at V 20 37 rfl
      have z7 := hE7.size
      have XC : Ext h h7 := XB.ext hE7 (Nat.le_refl _)
      have hk7 := hE7.keepE hk6
      have hr7 := hE7.keepE hr6
      have ht7 := XC.keepE ht
      have hM7 : Mp h7 bm (E.map valOf) := hM.keep (XC.old bm hM.lt)
      have hD7 : Ds h7 0 oa oc (W.map (·.1)) := hD.ext XC
      have hsrc7 := hsrc.ext XC
      have htl := lt_of_some ht
      have hbl := hM.lt
      have hlo : ∀ g, oa = some ⟨g, 0, none⟩ → g < h.size := fun g e => (hLo g 0 e).1
      have hno : look (E.map valOf) (shaD xs) = none := by
        rcases look_blob E (shaD xs) with ⟨l1, _⟩ | ⟨e, _, _, _, l2⟩
        · exact l1
        · rw [← hWE] at l2; rw [l2] at hq; cases hq
      refine HW.no g37 ?_
      clear V O hR g37
      refine HW.skip ?_
      have hob : ∀ g, oa = some ⟨g, 0, none⟩ → obk oa = some g := fun g e => by rw [e]; rfl
      have hot : some t ≠ obk oa := fun e => by
        rcases hD.blk with ⟨q, _⟩ | ⟨g, q, _, _⟩
        · rw [q] at e; cases e
        · rw [q] at e
          have : t = g := by cases e; rfl
          subst this
          rw [q] at hD
          obtain ⟨cur, q1, _⟩ := hD.blkAt
          rw [ht] at q1
          cases q1
      have hobm : some bm ≠ obk oa := fun e => by
        rcases hD.blk with ⟨q, _⟩ | ⟨g, q, _, _⟩
        · rw [q] at e; cases e
        · rw [q] at e
          have : bm = g := by cases e; rfl
          subst this
          rw [q] at hD
          obtain ⟨cur, q1, _⟩ := hD.blkAt
          obtain ⟨es, cl, q2, _⟩ := hM
          rw [q1] at q2
          cases q2
      have htN : t < h7.size := by omega
      have hbN : bm < h7.size := by omega
      have hkN : some h2.size ≠ obk oa := fun e => by
        rcases hD.blk with ⟨w, _⟩ | ⟨g, w, _, w2⟩
        · rw [w] at e; cases e
        · rw [w] at e
          have : h2.size = g := by cases e; rfl
          omega
      have hrN : some h.size ≠ obk oa := fun e => by
        rcases hD.blk with ⟨w, _⟩ | ⟨g, w, _, w2⟩
        · rw [w] at e; cases e
        · rw [w] at e
          have : h.size = g := by cases e; rfl
          omega
      repeat refine HW.seq ?_
      refine HW.chainG #[0, 1, 3, 7, 15, 0, 0, 0, 128, 0, 512, 1536, 3584, 7680, 0, 16384, 65408, 131007, 262079, 524223, 1048575, 2097151, 4194303, 8388607] C9 G9 (fun n f hh => P9 h7 t bm s oa W (E.map valOf) (shaD xs) xs n (f 67) (f 75) (f 76) (f 77) hh) mixed (by kernel_rfl) (by kernel_rfl) (by kernel_rfl) ?_ ?_ ?_ ?_
      · intro f hh hh' X hp
        exact .inl ⟨rfl, (hp.zero (by decide)).ext X (Nat.le_refl _)⟩
      · exact .inl ⟨rfl, Bel.refl _ _⟩
      · intro n f hh d v i o ho hc hd hn hbd hp
        show P9 h7 t bm s oa W (E.map valOf) (shaD xs) xs n (upd f d v 67) (upd f d v 75) (upd f d v 76) (upd f d v 77) hh
        rw [upd_ne _ _ _ _ (offC_spec (s := 75) (C := C9) (by kernel_rfl) ho hc hd), upd_ne _ _ _ _ (offC_spec (s := 76) (C := C9) (by kernel_rfl) ho hc hd), upd_ne _ _ _ _ (offC_spec (s := 77) (C := C9) (by kernel_rfl) ho hc hd)]
        by_cases hd67 : d = 67
        · have h16 := hbd 16 rfl (by
            have hi : i = 8 := by
              refine Classical.byContradiction fun hne => offC_spec (s := 67) (C := fun i => C9 i || i == 8) (by kernel_rfl) ho ?_ hd hd67.symm
              show (C9 i || i == 8) = false
              rw [hc, Bool.false_or]
              simpa using hne
            rw [hi]
            rfl)
          exact .inl (hp.zero' h16)
        · rw [upd_ne _ _ _ _ (Ne.symm hd67)]
          exact hp
      refine HM4.still rfl rfl (fun f hh K => Runs.move ((K.keep (by kernel_rfl)).trans q0)) ?_
      refine HM4.still rfl rfl (fun f hh K => Runs.nilc (K.at 0 59 rfl rfl rfl rfl)) ?_
      refine HM4.still rfl rfl (fun f hh K => Runs.fld (o' := 0) Try.underlying84 rfl sz82 (by decide) (K.at 1 60 rfl rfl rfl rfl) (by rfl)) ?_
      refine HM4.still rfl rfl (fun f hh K => Runs.fld (o' := 0) Try.underlying82 rfl sz63 (by decide) (K.at 2 61 rfl rfl rfl rfl) (by rfl)) ?_
      refine HM4.look rfl rfl (fun f hh K ⟨n, hnb, hkg, hp⟩ => Runs.load (v := .map (some bm)) Try.underlying63 rfl (K.at 3 62 rfl rfl rfl rfl) (by rw [cellH_of ((hp.tt (Nat.le_trans (hnb 17 rfl rfl) (by decide)) htN).trans ht7)]; rfl)) ?_
      refine HM4.look rfl rfl (fun f hh K ⟨n, hnb, hkg, hp⟩ => Runs.loadAgg Try.underlying31 rfl sz31 ((K.keep (by kernel_rfl)).trans q6) (encD_len (shaD xs)) (load_blk ((hp.old (by omega) hkN (by omega) (by omega)).trans hk7))) ?_
      refine HM4.still rfl rfl (fun f hh K => Runs.move ((K.keep (by kernel_rfl)).trans q0)) ?_
      refine HM4.still rfl rfl (fun f hh K => Runs.move ((K.keep (by kernel_rfl)).trans q1)) ?_
      refine HM4.grow (fun v hh => ∃ a7 c7, v = .slice a7 xs.length c7 ∧ Bs hh h7.size 5 a7 c7 xs) rfl rfl (fun v u u' X ⟨a7, c7, y1, y2⟩ => ⟨a7, c7, y1, y2.ext X⟩) (fun f hh K ⟨n, hnb, hkg, hp⟩ => by
        have X := hp.zero (hnb 16 rfl rfl)
        exact HO.call Try.func46 bd46 nm46 (args1 (K.at 7 66 rfl rfl rfl rfl)) rfl ((clone_ch hh xs a _ cap rfl (hsrc7.ext X) hcap (by omega)).mono fun _ _ ⟨a7, c7, y1, y2, y3⟩ => ⟨y3, a7, c7, y1, Rs.low (gv := B8) y2 X.size⟩)) ?_
      refine HM4.still rfl rfl (fun f hh K => Runs.move ((K.keep (by kernel_rfl)).trans q0)) ?_
      refine HM4.still rfl rfl (fun f hh K => Runs.nilc (K.at 9 68 rfl rfl rfl rfl)) ?_
      refine HM4.still rfl rfl (fun f hh K => Runs.fld (o' := 0) Try.underlying84 rfl sz82 (by decide) (K.at 10 69 rfl rfl rfl rfl) (by rfl)) ?_
      refine HM4.still rfl rfl (fun f hh K => Runs.fld (o' := 1) Try.underlying82 rfl sz41 (by decide) (K.at 11 70 rfl rfl rfl rfl) (by rfl)) ?_
      refine HM4.look rfl rfl (fun f hh K ⟨n, hnb, hkg, hp⟩ => Runs.load (v := .slice oa W.length oc) Try.underlying41 rfl (K.at 12 71 rfl rfl rfl rfl) (by rw [cellH_of ((hp.tt (Nat.le_trans (hnb 16 rfl rfl) (by decide)) htN).trans ht7)]; rfl)) ?_
      refine HM4.look rfl rfl (fun f hh K ⟨n, hnb, hkg, hp⟩ => Runs.loadAgg Try.underlying31 rfl sz31 ((K.keep (by kernel_rfl)).trans q6) (encD_len (shaD xs)) (load_blk ((hp.old (by omega) hkN (by omega) (by omega)).trans hk7))) ?_
      refine HM4.grow (fun v hh => ∃ b, v = .slice (some ⟨b, 0, none⟩) 1 1 ∧ hh[b]? = some (.cells (fl [shaD xs]).toArray 31 (0, 0))) rfl rfl (fun v u u' X ⟨b, y1, y2⟩ => ⟨b, y1, X.keepE y2⟩) (fun f hh K ⟨n, hnb, hkg, hp⟩ => HO.dgs1 (shaD xs) (K.at 14 73 rfl rfl rfl rfl) fun h' w => ⟨w.ext, hh.size, rfl, w.new⟩) ?_
      refine HM4.turn 0 rfl (AtC.of rfl) (fun f hh K KG hp => ?_) ?_
      · have X := hp.zero (by decide)
        obtain ⟨a7, c7, y67, B7⟩ := (KG rfl).at 8 67 rfl rfl rfl rfl
        obtain ⟨b74, y74, hb74⟩ := (KG rfl).at 15 74 rfl rfl rfl rfl
        refine HO.dapp2 (K.at 13 72 rfl rfl rfl rfl) y74 (by rw [List.length_map]) rfl (by simp) (hD7.ext X) (dgs_block hb74) (by rw [List.length_map]; simp; omega) (Nat.zero_le _) fun g' c' h' D' G' hat v hv => ?_
        show P9 h7 t bm s oa W (E.map valOf) (shaD xs) xs 17 (upd f 75 v 67) (upd f 75 v 75) (upd f 75 v 76) (upd f 75 v 77) h'
        rw [upd_ne _ _ _ _ (show (67 : Nat) ≠ 75 by decide), upd_eq]
        refine .inr ⟨by decide, g', c', a7, c7, y67, by rw [hv, List.length_append, List.length_map]; rfl, ⟨B7.grD (hD7.ext X) G', D', ?_, ?_, Nat.le_trans X.size (Gr.size G'), ?_⟩, fun _ => ?_, fun _ => ?_, fun q => by omega, fun q => by omega, fun q => by omega, fun q => by omega⟩
        · rcases hat with q | q
          · exact .inl q
          · exact .inr (by have := X.size; omega)
        · intro g e
          rcases Rs.blk (gv := B8) B7 with q | ⟨g0, q, q2, q3⟩
          · rw [q] at e; cases e
          · rw [q] at e
            have : g0 = g := by cases e; rfl
            subst this
            rcases hat with r | r
            · have := hlo _ r; omega
            · omega
        · intro j hj hja hjb hjt
          exact (Gr.old G' j (Nat.lt_of_lt_of_le hj X.size) (by rw [obk_own]; exact hja)).trans (X.old j hj)
        · exact (Gr.old G' bm (Nat.lt_of_lt_of_le hbN X.size) (by rw [obk_own]; exact hobm)).trans (X.old bm hbN)
        · exact (Gr.old G' t (Nat.lt_of_lt_of_le htN X.size) (by rw [obk_own]; exact hot)).trans (X.old t htN)
      refine HM4.turn 17 rfl (AtC.of rfl) (fun f hh K KG hp => ?_) ?_
      · obtain ⟨g', oc', a7, c7, y67, y75, K9, m17, m20, _⟩ := hp.some (by decide)
        refine HO.mapEntryD (K.at 4 63 rfl rfl rfl rfl) (K.at 5 64 rfl rfl rfl rfl) (hM7.keep (m17 rfl)) hno fun h' cl hz ho hE' v hv => ?_
        show P9 h7 t bm s oa W (E.map valOf) (shaD xs) xs 18 (upd f 76 v 67) (upd f 76 v 75) (upd f 76 v 76) (upd f 76 v 77) h'
        rw [upd_ne _ _ _ _ (show (67 : Nat) ≠ 76 by decide), upd_ne _ _ _ _ (show (75 : Nat) ≠ 76 by decide), upd_eq]
        exact .inr ⟨by decide, g', oc', a7, c7, y67, y75, K9.turn bm (.inl rfl) hbN hobm hz ho, fun q => by omega, fun _ => (ho t htb).trans (m20 (by decide)), fun _ => ⟨cl, hv, hE'⟩, fun q => by omega, fun q => by omega, fun q => by omega⟩
      refine HM4.turn 18 rfl (AtC.of rfl) (fun f hh K KG hp => ?_) ?_
      · obtain ⟨g', oc', a7, c7, y67, y75, K9, m17, m20, m18, _⟩ := hp.some (by decide)
        obtain ⟨cl, y76, hE'⟩ := m18 rfl
        refine HO.of_runs (Runs.extr y76 rfl) fun v hv => ?_
        show P9 h7 t bm s oa W (E.map valOf) (shaD xs) xs 19 (upd f 77 v 67) (upd f 77 v 75) (upd f 77 v 76) (upd f 77 v 77) hh
        rw [upd_ne _ _ _ _ (show (67 : Nat) ≠ 77 by decide), upd_ne _ _ _ _ (show (75 : Nat) ≠ 77 by decide), upd_eq]
        exact .inr ⟨by decide, g', oc', a7, c7, y67, y75, K9, fun q => by omega, fun _ => m20 (by decide), fun q => by omega, fun _ => ⟨cl, hv, hE'⟩, fun q => by omega, fun q => by omega⟩
      refine HM4.turnN 19 rfl (AtC.of rfl) (fun f hh K KG hp => ?_) ?_
      · obtain ⟨g', oc', a7, c7, y67, y75, K9, m17, m20, m18, m19, _⟩ := hp.some (by decide)
        obtain ⟨cl, y77, hE'⟩ := m19 rfl
        refine HO.entryStoreD (K.at 4 63 rfl rfl rfl rfl) y77 y67 hE' fun h' hz ho hM' => ?_
        exact .inr ⟨by decide, g', oc', a7, c7, y67, y75, K9.turn bm (.inl rfl) hbN hobm hz ho, fun q => by omega, fun _ => (ho t htb).trans (m20 (by decide)), fun q => by omega, fun q => by omega, fun _ => hM', fun q => by omega⟩
      refine HM4.still rfl rfl (fun f hh K => Runs.nilc (K.at 6 65 rfl rfl rfl rfl)) ?_
      refine HM4.still rfl rfl (fun f hh K => Runs.fld (o' := 0) Try.underlying84 rfl sz82 (by decide) (K.at 20 78 rfl rfl rfl rfl) (by rfl)) ?_
      refine HM4.still rfl rfl (fun f hh K => Runs.fld (o' := 1) Try.underlying82 rfl sz41 (by decide) (K.at 21 79 rfl rfl rfl rfl) (by rfl)) ?_
      refine HM4.turnN 20 rfl (AtC.of rfl) (fun f hh K KG hp => ?_) ?_
      · obtain ⟨g', oc', a7, c7, y67, y75, K9, m17, m20, m18, m19, mm, _⟩ := hp.some (by decide)
        refine HO.store (s := 1) sz41 (K.at 22 80 rfl rfl rfl rfl) y75 rfl ((m20 (by decide)).trans ht7) (by simp [btC]) rfl fun h' w => ?_
        exact .inr ⟨by decide, g', oc', a7, c7, y67, y75, K9.turn t (.inr rfl) htN hot w.size w.old, fun q => by omega, fun q => by omega, fun q => by omega, fun q => by omega, fun _ => (mm (by decide)).keep (w.old bm (Ne.symm htb)), fun _ => w.new⟩
      intro f' h24 n hn hp V O
      obtain rfl := hn.eq (AtC.of (C := C9) (t := 24) (k := 24) rfl)
      obtain ⟨g', oc', a7, c7, _, _, K9, _, _, _, _, mm, m24⟩ := hp.some (by decide)
      have hM24 := mm (by decide)
      have ht24 := m24 rfl
      have x0 := (last_keep O (s := 0) (by kernel_rfl)).trans q0
      have x1 := (last_keep O (s := 1) (by kernel_rfl)).trans q1
      have x4 := (last_keep O (s := 4) (by kernel_rfl)).trans q4
      have x6 := (last_keep O (s := 6) (by kernel_rfl)).trans q6
      clear hp V O m24 mm
      have z24 := K9.size
      have hk24 := (K9.old h2.size (by omega) hkN (by omega) (by omega)).trans hk7
      have hr24 := (K9.old h.size (by omega) hrN (by omega) (by omega)).trans hr7
      -- region 10
      repeat refine HW.seq ?_
      refine HW.region ?_
      refine HL.still (Runs.move x0) ?_
      intro u81 e81
      refine HL.still (Runs.nilc e81) ?_
      intro u82 e82
      refine HL.still (Runs.fld (o' := 0) Try.underlying84 rfl sz82 (by decide) e82 (by rfl)) ?_
      intro u83 e83
      refine HL.still (Runs.fld (o' := 2) Try.underlying82 rfl sz3 (by decide) e83 (by rfl)) ?_
      intro u84 e84
      refine HL.still (Runs.load Try.underlying3 rfl e84 (show cellH h24 t 2 = some (I64 (tot W)) by rw [cellH_of ht24]; rfl)) ?_
      intro u85 e85
      refine HL.still (Runs.move x1) ?_
      intro u86 e86
      refine HL.still (Runs.lenSl rfl Try.underlying29 e86) ?_
      intro u87 e87
      refine HL.still (Runs.add e85 e87 (i64w (by omega))) ?_
      intro u88 e88
      refine HL.still (Runs.nilc e81) ?_
      intro u89 e89
      refine HL.still (Runs.fld (o' := 0) Try.underlying84 rfl sz82 (by decide) e89 (by rfl)) ?_
      intro u90 e90
      refine HL.still (Runs.fld (o' := 2) Try.underlying82 rfl sz3 (by decide) e90 (by rfl)) ?_
      intro u91 e91
      refine HL.zero (HO.store (s := 1) sz3 e91 e88 rfl ht24 (by simp [btC]) rfl ?_)
      intro h25 w25
      refine HL.nil ?_
      -- region 11
      repeat refine HW.seq ?_
      refine HW.region ?_
      refine HL.still (Runs.loadAgg Try.underlying31 rfl sz31 x6 (encD_len (shaD xs)) (load_blk (w25.keep hk24 (by omega)))) ?_
      intro u92 e92
      refine HL.zero (HO.storeAll sz31 x4 e92 (one_map B8 (fun _ => rfl) _) (w25.keep hr24 (by omega)) (encD_len _) (by simp) ?_)
      intro h26 w26
      refine HL.still (Runs.assign rfl) ?_
      intro u5 e5
      refine HL.nil ?_
      refine HW.ret ?_
      have z25 := w25.size
      have z26 := w26.size
      have hgN : oa = some ⟨g', 0, none⟩ ∨ h7.size ≤ g' := K9.whr
      have ht26 := w26.keep w25.new (by omega)
      have o26 : ∀ j, j ≠ t → j ≠ h.size → h26[j]? = h24[j]? := fun j j1 j2 => (w26.old j j2).trans (w25.old j j1)
      refine RT.cellTmp rfl x4 e5 w26.new Try.underlying31 rfl sz31 (encD_len _) ⟨rfl, some ⟨g', 0, none⟩, ?_, ?_⟩
      · have hgt : g' ≠ t := fun e => by
          rcases hgN with q | q
          · exact hot (by rw [q, e]; rfl)
          · omega
        have hgr : g' ≠ h.size := fun e => by
          rcases hgN with q | q
          · exact hrN (by rw [q, e]; rfl)
          · omega
        have h24ne : h.size ≠ t := by omega
        refine ⟨E ++ [(shaD xs, .slice a7 xs.length c7, xs)], oc', by rw [hWE, List.map_append]; rfl, ?_, ?_, ?_, ⟨htb, .inl hFt, .inl hFb, ?_⟩, ?_⟩
        · rw [ht26, List.length_append, tot_append, Int.natCast_add]
          simp [btC, tot]
        · rw [List.map_append]
          exact hM24.keep (o26 bm (Ne.symm htb) (by omega))
        · rw [List.map_append]
          refine K9.ds.keep' fun g e => ?_
          have : g' = g := by cases e; rfl
          subst this
          exact o26 g' hgt hgr
        · intro sb so e
          have : g' = sb := by cases e; rfl
          subst this
          refine ⟨?_, ?_⟩
          · rcases K9.ds.blk with ⟨q, _⟩ | ⟨g, q, _, q2⟩
            · cases q
            · have : g' = g := by cases q; rfl
              omega
          · rcases hgN with q | q
            · exact .inl (hLo g' 0 q).2
            · exact .inr (by omega)
        · intro e he
          rcases List.mem_append.1 he with he | he
          · refine (((hE e he).weaken (F' := fun j => (F j ∧ some j ≠ obk oa) ∧ j ≠ g') fun j hj q => ⟨q, fun e => ?_⟩).keep (h' := h26) (by omega) fun j hj j1 j2 q => (o26 j j1 (by omega)).trans ((K9.old j (by omega) q.1.2 j2 j1).trans (XC.old j hj))).weaken fun j hj q => ⟨.inl q.1.1, fun e => q.2 (by cases e; rfl)⟩
            rcases hgN with r | r
            · exact q.2 (by rw [r, e]; rfl)
            · omega
          · have he : e = (shaD xs, .slice a7 xs.length c7, xs) := by simpa using he
            subst he
            have B26 : Bs h26 h7.size 5 a7 c7 xs := ⟨K9.bs.1.keep fun j hj => o26 j (by have := (K9.bs.1.lt j hj).1; omega) (by have := (K9.bs.1.lt j hj).1; omega), K9.bs.2⟩
            refine ⟨a7, c7, rfl, B26.byt, B26.2, fun sb so q => ?_⟩
            rcases Rs.blk (gv := B8) B26 with r | ⟨g, r, r2, r3⟩
            · rw [r] at q; cases q
            · have : g = sb := by rw [r] at q; cases q; rfl
              subst this
              exact ⟨by omega, by omega, r3, .inr (by omega), fun e => K9.ne g r (by cases e; rfl)⟩
      · refine ⟨by omega, fun j hj hF => ?_⟩
        have j1 : j ≠ t := fun e => hF (e ▸ hFt)
        have j2 : j ≠ bm := fun e => hF (e ▸ hFb)
        refine (o26 j j1 (by omega)).trans ((K9.old j (by omega) (fun e => ?_) j2 j1).trans (XC.old j hj))
        rcases hD.blk with ⟨w, _⟩ | ⟨g, w, _, w2⟩
        · rw [w] at e; cases e
        · rw [w] at e
          have : j = g := by cases e; rfl
          subst this
          exact hF (hLo j 0 w).2
end Go.Proofs.Ytklelhfgbjpifaa
/-! batch.Commit. -/
namespace Go.Proofs.Ytklelhfgbjpifaa
set_option linter.unnecessarySimpa false
set_option linter.unusedSimpArgs false
set_option linter.unusedVariables false
open Go.RowKit
/-- How many bytes of what is staged the store lacks. -/
def needO (M W : Blobs) : Nat := (W.map fun p => if (lookM M p.1).isSome = true then 0 else p.2.length).sum
/-- What is staged, put into the store. -/
def putAll (room : Int) (M W : Blobs) : Blobs := W.foldl (fun M p => (putO room M p.2).1) M
/-- What a Commit leaves in the store, and answers. -/
def commitO (room : Int) (W M : Blobs) : Blobs × Int := if (needO M W : Int) > room - tot M then (M, 2) else (putAll room M W, 0)
theorem take_succ_getD {α : Type} (l : List α) (z : α) {k : Nat} (hk : k < l.length) : l.take (k + 1) = l.take k ++ [l.getD k z] := by
  rw [List.take_add_one, List.getElem?_eq_getElem hk, List.getD_eq_getElem?_getD, List.getElem?_eq_getElem hk]
  rfl
theorem need_take (M W : Blobs) {k : Nat} (hk : k < W.length) : needO M (W.take (k + 1)) = needO M (W.take k) + (if (lookM M (W.getD k (zD, [])).1).isSome = true then 0 else (W.getD k (zD, [])).2.length) := by
  rw [take_succ_getD W (zD, []) hk]
  simp [needO]
theorem putAll_take (room : Int) (M W : Blobs) {k : Nat} (hk : k < W.length) : putAll room M (W.take (k + 1)) = (putO room (putAll room M (W.take k)) (W.getD k (zD, [])).2).1 := by
  rw [take_succ_getD W (zD, []) hk]
  simp [putAll]
theorem putAll_tot (room : Int) (W M : Blobs) (h : (tot M : Int) ≤ room) : (tot (putAll room M W) : Int) ≤ room := by
  induction W generalizing M with
  | nil => exact h
  | cons p W ih => exact ih _ (put_tot room M p.2 h)
theorem need_le (M W : Blobs) : needO M W ≤ tot W := by
  induction W with
  | nil => exact Nat.le_refl _
  | cons p W ih =>
    have : needO M (p :: W) = (if (lookM M p.1).isSome = true then 0 else p.2.length) + needO M W := by simp [needO]
    rw [this, tot]
    split <;> omega
theorem need_take_le (M W : Blobs) (k : Nat) : needO M (W.take k) ≤ tot W := Nat.le_trans (need_le M _) (tot_take_le W k)
theorem look_mem {L : List (Dg × Value)} (hn : (L.map (·.1)).Nodup) {p : Dg × Value} (hp : p ∈ L) : look L p.1 = some p.2 := by
  induction L with
  | nil => cases hp
  | cons q L ih =>
    unfold look at *
    rw [List.map_cons, List.nodup_cons] at hn
    rw [List.find?_cons]
    rcases List.mem_cons.1 hp with e | e
    · rw [← e, show (p.1 == p.1) = true from beq_self_eq_true _]; rfl
    · have : q.1 ≠ p.1 := fun e2 => hn.1 (by rw [e2]; exact List.mem_map.2 ⟨p, e, rfl⟩)
      rw [show (q.1 == p.1) = false from beq_eq_false_iff_ne.2 this]
      exact ih hn.2 e
/-- What is staged k-th. -/
theorem Bat.nth {F : Nat → Prop} {h : Heap} {t bm s : Nat} {oa : Option Addr} {W : Blobs} (x : Bat F h t bm oa s W) {k : Nat} (hk : k < W.length) : ∃ (L : List (Dg × Value)) (sb so : Nat) (a : Option Addr) (c : Nat), Mp h bm L ∧ oa = some ⟨sb, so, none⟩ ∧ (∀ i v, (encD (W.getD k (zD, [])).1)[i]? = some v → cellH h sb (so + k * 32 + i) = some v) ∧ look L (W.getD k (zD, [])).1 = some (.slice a (W.getD k (zD, [])).2.length c) ∧ Byt h a (W.getD k (zD, [])).2 ∧ (W.getD k (zD, [])).2.length ≤ c := by
  obtain ⟨E, oc, rfl, ht, hM, hD, _, hE⟩ := x
  have hkE : k < E.length := by simpa using hk
  obtain ⟨sb, so, e0, hc⟩ := hD.dgs.at (k := k) (by simpa using hk)
  have h1 : (E.map blobOf).getD k (zD, []) = blobOf E[k] := by rw [List.getD_eq_getElem?_getD, List.getElem?_map, List.getElem?_eq_getElem hkE]; rfl
  have h2 : ((E.map blobOf).map (·.1)).getD k zD = E[k].1 := by rw [List.getD_eq_getElem?_getD, List.getElem?_map, List.getElem?_map, List.getElem?_eq_getElem hkE]; rfl
  rw [h2] at hc
  rw [h1]
  obtain ⟨a, c, q1, q2, q3, _⟩ := hE E[k] (List.getElem_mem hkE)
  refine ⟨_, sb, so, a, c, hM, e0, hc, ?_, q2, q3⟩
  have hm : valOf E[k] ∈ E.map valOf := List.mem_map.2 ⟨_, List.getElem_mem hkE, rfl⟩
  have hn : ((E.map valOf).map (·.1)).Nodup := by obtain ⟨_, _, _, _, q, _⟩ := hM; exact q
  have := look_mem hn hm
  show look _ (valOf E[k]).1 = some (.slice a (blobOf E[k]).2.length c)
  rw [this]
  exact congrArg some q1
section
variable {ρ : Operand → Value} {h : Heap} {d : Option Tmp} {ty : TypeId} {pos : String} {af : Array Edge} {gd : Option (Nat × Bool)} {m k : Operand}
theorem Runs.lookE {b : Nat} {L : List (Dg × Value)} {q : Dg} {v : Value} (hm : ρ m = .map (some b)) (hk : ρ k = keyV q) (hM : Mp h b L) (hv : look L q = some v) : Runs Try.prog ⟨d, .lookup 63 m k false, ty, pos, af, gd⟩ ρ h v := by
  have := Runs.lookD1 (d := d) (ty := ty) (pos := pos) (af := af) (gd := gd) hm hk hM
  rw [hv] at this
  exact this
end
set_option maxRecDepth 10000 in
theorem commitO_ch {F : Nat → Prop} (h : Heap) (t s : Nat) (hT : BatO F h t s) : CH Try.prog 39 #[.pointer (some ⟨t, 0, none⟩)] h fun v h' => v = I64 11 ∧ Ext h h' := by
  obtain ⟨ht, _⟩ := hT
  refine CH.of_body Try.func39 rfl rfl rfl ?_
  intro f hf
  have p0 : f 0 = .pointer (some ⟨t, 0, none⟩) := by rw [hf]; exact fr0_at rfl
  -- region 0
  repeat refine HW.seq ?_
  refine HW.region ?_
  refine HL.still (Runs.assign rfl) ?_
  intro u2 e2
  refine HL.nil ?_
  -- region 1
  repeat refine HW.seq ?_
  refine HW.region ?_
  refine HL.still (Runs.move p0) ?_
  intro u8 e8
  refine HL.still (Runs.nilc e8) ?_
  intro u9 e9
  refine HL.still (Runs.fld (o' := 4) Try.underlying84 rfl sz4 (by decide) e9 (by rfl)) ?_
  intro u10 e10
  refine HL.still (Runs.load Try.underlying4 rfl e10 (by rw [cellH_of ht]; rfl)) ?_
  intro u11 e11
  refine HL.nil ?_
  refine HW.yes e11 ?_
  -- region 2
  repeat refine HW.seq ?_
  refine HW.region ?_
  refine HL.still (Runs.assign rfl) ?_
  intro u2 e2
  refine HL.nil ?_
  refine HW.ret ?_
  exact RT.one rfl e2 ⟨rfl, Bel.refl _ _⟩
/-- The blocks that a Commit may turn. -/
def Tsb (t s b : Nat) : Nat → Prop := fun j => j = t ∨ j = s ∨ j = b
set_option maxRecDepth 10000 in
set_option maxHeartbeats 1000000 in
theorem commit_ch {F FS : Nat → Prop} (h : Heap) (t bm : Nat) (oa : Option Addr) (s b : Nat) (room : Int) (W M : Blobs) (hT : Bat F h t bm oa s W) (hS : Sto FS h s b room M) (hd : ∀ j, F j → ¬ FS j) (hr : room ≤ 1073741824) (hr0 : 0 ≤ room) (htM : (tot M : Int) ≤ room) (htW : tot W ≤ 1000000000) (hlW : W.length ≤ 1000000) (hpW : ∀ p ∈ W, p.2.length ≤ 100000) :
    CH Try.prog 39 #[.pointer (some ⟨t, 0, none⟩)] h fun v h' => v = I64 (commitO room W M).2 ∧ Sto (fun j => FS j ∨ h.size ≤ j) h' s b room (commitO room W M).1 ∧ ((commitO room W M).2 = 0 ∧ BatO F h' t s ∨ (commitO room W M).2 = 2 ∧ Bat F h' t bm oa s W ∧ Ext h h') ∧ ExF (Tsb t s b) h h' := by
  obtain ⟨E, oc, hWE, ht, hM, hD, ⟨htb, hFt, hFb, hLo⟩, hE⟩ := id hT
  have hsF : ¬ F s := fun q => hd s q hS.foot.1
  have hbF : ¬ F b := fun q => hd b q hS.foot.2
  have hts : t ≠ s := fun e => hsF (e ▸ hFt)
  have htb' : t ≠ b := fun e => hbF (e ▸ hFt)
  have htl := lt_of_some ht
  refine CH.of_body Try.func39 rfl rfl rfl ?_
  intro f hf
  have p0 : f 0 = .pointer (some ⟨t, 0, none⟩) := by rw [hf]; exact fr0_at rfl
  -- region 0
  repeat refine HW.seq ?_
  refine HW.region ?_
  refine HL.still (Runs.assign rfl) ?_
  intro u2 e2
  refine HL.nil ?_
  -- region 1
  repeat refine HW.seq ?_
  refine HW.region ?_
  refine HL.still (Runs.move p0) ?_
  intro u8 e8
  refine HL.still (Runs.nilc e8) ?_
  intro u9 e9
  refine HL.still (Runs.fld (o' := 4) Try.underlying84 rfl sz4 (by decide) e9 (by rfl)) ?_
  intro u10 e10
  refine HL.still (Runs.load Try.underlying4 rfl e10 (by rw [cellH_of ht]; rfl)) ?_
  intro u11 e11
  refine HL.nil ?_
  refine HW.no e11 ?_
  refine HW.skip ?_
  -- region 3
  repeat refine HW.seq ?_
  refine HW.region ?_
  refine HL.still (Runs.assign rfl) ?_
  intro u3 e3
  refine HL.nil ?_
  -- region 4
  repeat refine HW.seq ?_
  refine HW.region ?_
  refine HL.still (Runs.move p0) ?_
  intro u12 e12
  refine HL.still (Runs.nilc e12) ?_
  intro u13 e13
  refine HL.still (Runs.fld (o' := 0) Try.underlying84 rfl sz82 (by decide) e13 (by rfl)) ?_
  intro u14 e14
  refine HL.still (Runs.fld (o' := 1) Try.underlying82 rfl sz41 (by decide) e14 (by rfl)) ?_
  intro u15 e15
  refine HL.still (Runs.load Try.underlying41 rfl e15 (by rw [cellH_of ht]; rfl)) ?_
  intro u16 e16
  refine HL.still (Runs.lenSl rfl Try.underlying41 e16) ?_
  intro u17 e17
  refine HL.still (Runs.move rfl) ?_
  intro u18 e18
  refine HL.nil ?_
  repeat refine HW.seq ?_
  refine HW.mono (N := fun f u => f 0 = .pointer (some ⟨t, 0, none⟩) ∧ f 3 = I64 (needO M W : Int) ∧ Ext h u) ?_ ?_ (fun _ _ _ q => q) (fun _ _ q => q)
  · refine HW.block ?_
    refine HW.loop (fun m f u => ∃ k : Nat, k ≤ W.length ∧ m = W.length - k ∧ f 18 = I64 k ∧ f 17 = I64 W.length ∧ f 16 = .slice oa W.length oc ∧ f 0 = .pointer (some ⟨t, 0, none⟩) ∧ f 3 = I64 (needO M (W.take k) : Int) ∧ Ext h u) W.length
      ⟨0, Nat.zero_le _, rfl, e18, e17, e16, p0, e3, Bel.refl _ _⟩ ?_
    clear e2 e3 e11 e16 e17 e18 hf p0
    rintro m f u ⟨k, hk, hm, f18, f17, f16, f0, f3, hX⟩
    by_cases hlt : k < W.length
    · obtain ⟨L, sb, so, a, c, hML, rfl, hc, hlook, hby, hac⟩ := (hT.ext hX).nth hlt
      have hnt := need_take M W hlt
      have hnl := need_take_le M W (k + 1)
      obtain ⟨p, hp⟩ : ∃ p, p = W.getD k (zD, []) := ⟨_, rfl⟩
      rw [← hp] at hc hlook hby hac hnt
      have htu := hX.keepE ht
      -- region 5
      repeat refine HW.seq ?_
      refine HW.region ?_
      refine HL.still (Runs.lss f18 f17 rfl) ?_
      intro u19 e19
      refine HL.nil ?_
      repeat refine HW.seq ?_
      refine HW.yes ?_ ?_
      exact e19.trans (congrArg Value.bool (decide_eq_true (by omega)))
      refine HW.skip ?_
      repeat refine HW.seq ?_
      refine HW.block ?_
      -- region 6
      repeat refine HW.seq ?_
      refine HW.region ?_
      refine HL.still (Runs.ixSl (o' := so + k * 32) Try.underlying41 sz31 f16 f18 (by omega) (by omega) (by omega)) ?_
      intro u20 e20
      refine HL.still (Runs.loadAgg Try.underlying31 rfl sz31 e20 (encD_len p.1) hc) ?_
      intro u21 e21
      refine HL.one (HO.alloc zr31 ?_)
      intro ha wa
      intro u5 e5
      refine HL.zero (HO.storeAll sz31 e5 e21 (encD_one p.1) wa.new (encD_len _) (by simp) ?_)
      intro h1 wc
      refine HL.nil ?_
      have w1 : Ext u h1 := wa.ext.wr wc (Nat.le_refl _)
      have ht1 := w1.keepE htu
      have hk1 : h1[u.size]? = some (.cells (encD p.1).toArray 31 (0, 0)) := wc.new
      have hX1 : Ext h h1 := hX.ext w1 (Nat.le_refl _)
      have hM1 : Mp h1 bm L := hML.keep (w1.old bm hML.lt)
      cases hq : (lookM M p.1).isSome with
      | true =>
        rw [hq, if_pos rfl, Nat.add_zero] at hnt
        -- region 7
        repeat refine HW.seq ?_
        refine HW.grow #[0, 1, 3, 7, 0, 31, 63] (fun a b => Ext a b) mixed (by kernel_rfl) (fun _ => Bel.refl _ _) (fun _ _ _ x y => Bel.ext x y (Nat.le_refl _)) ?_
        refine HM.still (fun _ => Bel.refl _ _) (fun f h K => Runs.move ((K.keep (by kernel_rfl)).trans f0)) ?_
        refine HM.still (fun _ => Bel.refl _ _) (fun f h K => Runs.nilc (K.at 0 22 rfl rfl)) ?_
        refine HM.still (fun _ => Bel.refl _ _) (fun f h K => Runs.fld (o' := 3) Try.underlying84 rfl sz25 (by decide) (K.at 1 23 rfl rfl) (by rfl)) ?_
        refine HM.still (fun _ => Bel.refl _ _) (fun f h K => Runs.load Try.underlying25 rfl (K.at 2 24 rfl rfl) (by rw [cellH_of (Bel.keepE K.grown ht1)]; rfl)) ?_
        refine HM.still (fun _ => Bel.refl _ _) (fun f h K => Runs.loadAgg Try.underlying31 rfl sz31 ((K.keep (by kernel_rfl)).trans e5) (encD_len p.1) (load_blk (Bel.keepE K.grown hk1))) ?_
        refine HM.one (fun x _ => x = _) (fun _ _ _ _ e => e) (fun f h K => HO.call Try.func23 bd23 nm23 (args2 (K.at 3 25 rfl rfl) (K.at 4 26 rfl rfl)) rfl ((hasX_ch h s b room M p.1 true ((hS.ext hX1).ext K.grown) hq).mono fun _ _ q => ⟨q.2, q.1⟩)) ?_
        refine HM.still (v := .bool false) (fun _ => Bel.refl _ _) (fun f h K => Runs.notb (t := true) (show f 27 = .bool true from (K.at 5 27 rfl rfl)) rfl) ?_
        intro f' h2 hR V O
        have g28 : f' 28 = .bool false := last_at V 6 28 rfl
        have y0 := (last_keep O (s := 0) (by kernel_rfl)).trans f0
        have y3 := (last_keep O (s := 3) (by kernel_rfl)).trans f3
        have y16 := (last_keep O (s := 16) (by kernel_rfl)).trans f16
        have y17 := (last_keep O (s := 17) (by kernel_rfl)).trans f17
        have y18 := (last_keep O (s := 18) (by kernel_rfl)).trans f18
        refine HW.no g28 ?_
        refine HW.skip ?_
        -- region 9
        repeat refine HW.seq ?_
        refine HW.region ?_
        refine HL.still (Runs.add y18 rfl (i64w (by omega))) ?_
        intro u39 e39
        refine HL.still (Runs.move e39) ?_
        intro u18 e18
        refine HL.nil ?_
        exact ⟨W.length - (k + 1), by omega, k + 1, by omega, rfl, e18, y17, y16, y0, by rw [hnt]; exact y3, hX1.ext hR (Nat.le_refl _)⟩
      | false =>
        rw [hq, if_neg (by decide)] at hnt
        -- region 7
        repeat refine HW.seq ?_
        refine HW.grow #[0, 1, 3, 7, 0, 31, 63] (fun a b => Ext a b) mixed (by kernel_rfl) (fun _ => Bel.refl _ _) (fun _ _ _ x y => Bel.ext x y (Nat.le_refl _)) ?_
        refine HM.still (fun _ => Bel.refl _ _) (fun f h K => Runs.move ((K.keep (by kernel_rfl)).trans f0)) ?_
        refine HM.still (fun _ => Bel.refl _ _) (fun f h K => Runs.nilc (K.at 0 22 rfl rfl)) ?_
        refine HM.still (fun _ => Bel.refl _ _) (fun f h K => Runs.fld (o' := 3) Try.underlying84 rfl sz25 (by decide) (K.at 1 23 rfl rfl) (by rfl)) ?_
        refine HM.still (fun _ => Bel.refl _ _) (fun f h K => Runs.load Try.underlying25 rfl (K.at 2 24 rfl rfl) (by rw [cellH_of (Bel.keepE K.grown ht1)]; rfl)) ?_
        refine HM.still (fun _ => Bel.refl _ _) (fun f h K => Runs.loadAgg Try.underlying31 rfl sz31 ((K.keep (by kernel_rfl)).trans e5) (encD_len p.1) (load_blk (Bel.keepE K.grown hk1))) ?_
        refine HM.one (fun x _ => x = _) (fun _ _ _ _ e => e) (fun f h K => HO.call Try.func23 bd23 nm23 (args2 (K.at 3 25 rfl rfl) (K.at 4 26 rfl rfl)) rfl ((hasX_ch h s b room M p.1 false ((hS.ext hX1).ext K.grown) hq).mono fun _ _ q => ⟨q.2, q.1⟩)) ?_
        refine HM.still (v := .bool true) (fun _ => Bel.refl _ _) (fun f h K => Runs.notb (t := false) (show f 27 = .bool false from (K.at 5 27 rfl rfl)) rfl) ?_
        intro f' h2 hR V O
        have g28 : f' 28 = .bool true := last_at V 6 28 rfl
        have y0 := (last_keep O (s := 0) (by kernel_rfl)).trans f0
        have y3 := (last_keep O (s := 3) (by kernel_rfl)).trans f3
        have y5 := (last_keep O (s := 5) (by kernel_rfl)).trans e5
        have y16 := (last_keep O (s := 16) (by kernel_rfl)).trans f16
        have y17 := (last_keep O (s := 17) (by kernel_rfl)).trans f17
        have y18 := (last_keep O (s := 18) (by kernel_rfl)).trans f18
        have hE2 : Ext h1 h2 := hR
        have ht2 := hE2.keepE ht1
        have hk2 := hE2.keepE hk1
        have hM2 : Mp h2 bm L := hM1.keep (hE2.old bm hM1.lt)
        refine HW.yes g28 ?_
        -- region 8
        repeat refine HW.seq ?_
        refine HW.draw mixed (by kernel_rfl) ?_
        refine HS.still (Runs.move y3) ?_
        intro u29 e29
        refine HS.still (Runs.move y0) ?_
        intro u30 e30
        refine HS.still (Runs.nilc e30) ?_
        intro u31 e31
        refine HS.still (Runs.fld (o' := 0) Try.underlying84 rfl sz82 (by decide) e31 (by rfl)) ?_
        intro u32 e32
        refine HS.still (Runs.fld (o' := 0) Try.underlying82 rfl sz63 (by decide) e32 (by rfl)) ?_
        intro u33 e33
        refine HS.still (Runs.load Try.underlying63 rfl e33 (by rw [cellH_of ht2]; rfl)) ?_
        intro u34 e34
        refine HS.still (Runs.loadAgg Try.underlying31 rfl sz31 y5 (encD_len p.1) (load_blk hk2)) ?_
        intro u35 e35
        refine HS.still (Runs.lookE e34 e35 hM2 hlook) ?_
        intro u36 e36
        refine HS.still (Runs.lenSl rfl Try.underlying29 e36) ?_
        intro u37 e37
        refine HS.still (Runs.add e29 e37 (i64w (by omega))) ?_
        intro u38 e38
        refine HS.still (Runs.assign e38) ?_
        intro u3 e3
        refine HS.nil ?_
        -- region 9
        repeat refine HW.seq ?_
        refine HW.region ?_
        refine HL.still (Runs.add y18 rfl (i64w (by omega))) ?_
        intro u39 e39
        refine HL.still (Runs.move e39) ?_
        intro u18 e18
        refine HL.nil ?_
        exact ⟨W.length - (k + 1), by omega, k + 1, by omega, rfl, e18, y17, y16, y0, by rw [hnt, Int.natCast_add]; exact e3, hX1.ext hR (Nat.le_refl _)⟩
    · have hkl : k = W.length := by omega
      subst hkl
      -- region 5
      repeat refine HW.seq ?_
      refine HW.region ?_
      refine HL.still (Runs.lss f18 f17 rfl) ?_
      intro u19 e19
      refine HL.nil ?_
      repeat refine HW.seq ?_
      refine HW.no ?_ ?_
      exact e19.trans (congrArg Value.bool (decide_eq_false (by omega)))
      refine HW.exitHere ?_
      rw [List.take_length] at f3
      exact ⟨f0, f3, hX⟩
  clear e2 e3 e11 e16 e17 e18 hf p0
  rintro f u ⟨f0, f3, hX⟩
  have htu := hX.keepE ht
  have hSu := hS.ext hX
  have hnl := need_le M W
  by_cases hfull : (needO M W : Int) > room - tot M
  · have hcm : commitO room W M = (M, 2) := by unfold commitO; rw [if_pos hfull]
    rw [hcm]
    -- region 10
    repeat refine HW.seq ?_
    refine HW.grow #[0, 0, 2, 6, 14, 30, 0, 64, 192, 448, 1022, 2046, 4095] (fun a b => Ext a b) mixed (by kernel_rfl) (fun _ => Bel.refl _ _) (fun _ _ _ x y => Bel.ext x y (Nat.le_refl _)) ?_
    refine HM.still (fun _ => Bel.refl _ _) (fun f h K => Runs.move ((K.keep (by kernel_rfl)).trans f3)) ?_
    refine HM.still (fun _ => Bel.refl _ _) (fun f h K => Runs.move ((K.keep (by kernel_rfl)).trans f0)) ?_
    refine HM.still (fun _ => Bel.refl _ _) (fun f h K => Runs.nilc (K.at 1 41 rfl rfl)) ?_
    refine HM.still (fun _ => Bel.refl _ _) (fun f h K => Runs.fld (o' := 3) Try.underlying84 rfl sz25 (by decide) (K.at 2 42 rfl rfl) (by rfl)) ?_
    refine HM.still (fun _ => Bel.refl _ _) (fun f h K => Runs.load Try.underlying25 rfl (K.at 3 43 rfl rfl) (by rw [cellH_of (Bel.keepE K.grown htu)]; rfl)) ?_
    refine HM.one (fun x _ => x = _) (fun _ _ _ _ e => e) (fun f h K => HO.call Try.func28 bd28 nm28 (args1 (K.at 4 44 rfl rfl)) rfl ((roomX_ch h s b room M (hSu.ext K.grown)).mono fun _ _ q => ⟨q.2, q.1⟩)) ?_
    refine HM.still (fun _ => Bel.refl _ _) (fun f h K => Runs.move ((K.keep (by kernel_rfl)).trans f0)) ?_
    refine HM.still (fun _ => Bel.refl _ _) (fun f h K => Runs.nilc (K.at 6 46 rfl rfl)) ?_
    refine HM.still (fun _ => Bel.refl _ _) (fun f h K => Runs.fld (o' := 3) Try.underlying84 rfl sz25 (by decide) (K.at 7 47 rfl rfl) (by rfl)) ?_
    refine HM.still (fun _ => Bel.refl _ _) (fun f h K => Runs.load Try.underlying25 rfl (K.at 8 48 rfl rfl) (by rw [cellH_of (Bel.keepE K.grown htu)]; rfl)) ?_
    refine HM.one (fun x _ => x = _) (fun _ _ _ _ e => e) (fun f h K => HO.call Try.func26 bd26 nm26 (args1 (K.at 9 49 rfl rfl)) rfl ((usedX_ch h s b room M (tot M) (hSu.ext K.grown) rfl).mono fun _ _ q => ⟨q.2, q.1⟩)) ?_
    refine HM.still (fun _ => Bel.refl _ _) (fun f h K => Runs.sub (K.at 5 45 rfl rfl) (K.at 10 50 rfl rfl) (i64w (by omega))) ?_
    refine HM.still (fun _ => Bel.refl _ _) (fun f h K => Runs.gtr (K.at 0 40 rfl rfl) (K.at 11 51 rfl rfl) (t := true) (decide_eq_true hfull)) ?_
    intro f' h2 hR V O
    have g52 : f' 52 = .bool true := last_at V 12 52 rfl
    refine HW.yes g52 ?_
    have hXX : Ext h h2 := hX.ext hR (Nat.le_refl _)
    -- region 11
    repeat refine HW.seq ?_
    refine HW.region ?_
    refine HL.still (Runs.assign rfl) ?_
    intro u2 e2
    refine HL.nil ?_
    refine HW.ret ?_
    exact RT.one rfl e2 ⟨rfl, (hS.ext hXX).weaken fun j _ q => .inl q, .inr ⟨rfl, hT.ext hXX, hXX⟩, .of_ext hXX⟩
  · have hcm : commitO room W M = (putAll room M W, 0) := by unfold commitO; rw [if_neg hfull]
    rw [hcm]
    -- region 10
    repeat refine HW.seq ?_
    refine HW.grow #[0, 0, 2, 6, 14, 30, 0, 64, 192, 448, 1022, 2046, 4095] (fun a b => Ext a b) mixed (by kernel_rfl) (fun _ => Bel.refl _ _) (fun _ _ _ x y => Bel.ext x y (Nat.le_refl _)) ?_
    refine HM.still (fun _ => Bel.refl _ _) (fun f h K => Runs.move ((K.keep (by kernel_rfl)).trans f3)) ?_
    refine HM.still (fun _ => Bel.refl _ _) (fun f h K => Runs.move ((K.keep (by kernel_rfl)).trans f0)) ?_
    refine HM.still (fun _ => Bel.refl _ _) (fun f h K => Runs.nilc (K.at 1 41 rfl rfl)) ?_
    refine HM.still (fun _ => Bel.refl _ _) (fun f h K => Runs.fld (o' := 3) Try.underlying84 rfl sz25 (by decide) (K.at 2 42 rfl rfl) (by rfl)) ?_
    refine HM.still (fun _ => Bel.refl _ _) (fun f h K => Runs.load Try.underlying25 rfl (K.at 3 43 rfl rfl) (by rw [cellH_of (Bel.keepE K.grown htu)]; rfl)) ?_
    refine HM.one (fun x _ => x = _) (fun _ _ _ _ e => e) (fun f h K => HO.call Try.func28 bd28 nm28 (args1 (K.at 4 44 rfl rfl)) rfl ((roomX_ch h s b room M (hSu.ext K.grown)).mono fun _ _ q => ⟨q.2, q.1⟩)) ?_
    refine HM.still (fun _ => Bel.refl _ _) (fun f h K => Runs.move ((K.keep (by kernel_rfl)).trans f0)) ?_
    refine HM.still (fun _ => Bel.refl _ _) (fun f h K => Runs.nilc (K.at 6 46 rfl rfl)) ?_
    refine HM.still (fun _ => Bel.refl _ _) (fun f h K => Runs.fld (o' := 3) Try.underlying84 rfl sz25 (by decide) (K.at 7 47 rfl rfl) (by rfl)) ?_
    refine HM.still (fun _ => Bel.refl _ _) (fun f h K => Runs.load Try.underlying25 rfl (K.at 8 48 rfl rfl) (by rw [cellH_of (Bel.keepE K.grown htu)]; rfl)) ?_
    refine HM.one (fun x _ => x = _) (fun _ _ _ _ e => e) (fun f h K => HO.call Try.func26 bd26 nm26 (args1 (K.at 9 49 rfl rfl)) rfl ((usedX_ch h s b room M (tot M) (hSu.ext K.grown) rfl).mono fun _ _ q => ⟨q.2, q.1⟩)) ?_
    refine HM.still (fun _ => Bel.refl _ _) (fun f h K => Runs.sub (K.at 5 45 rfl rfl) (K.at 10 50 rfl rfl) (i64w (by omega))) ?_
    refine HM.still (fun _ => Bel.refl _ _) (fun f h K => Runs.gtr (K.at 0 40 rfl rfl) (K.at 11 51 rfl rfl) (t := false) (decide_eq_false hfull)) ?_
    intro f' h2 hR V O
    have g52 : f' 52 = .bool false := last_at V 12 52 rfl
    have y0 := (last_keep O (s := 0) (by kernel_rfl)).trans f0
    refine HW.no g52 ?_
    refine HW.skip ?_
    have hXX : Ext h h2 := hX.ext hR (Nat.le_refl _)
    have ht2 := hXX.keepE ht
    -- region 12
    repeat refine HW.seq ?_
    refine HW.region ?_
    refine HL.still (Runs.move y0) ?_
    intro u53 e53
    refine HL.still (Runs.nilc e53) ?_
    intro u54 e54
    refine HL.still (Runs.fld (o' := 0) Try.underlying84 rfl sz82 (by decide) e54 (by rfl)) ?_
    intro u55 e55
    refine HL.still (Runs.fld (o' := 1) Try.underlying82 rfl sz41 (by decide) e55 (by rfl)) ?_
    intro u56 e56
    refine HL.still (Runs.load Try.underlying41 rfl e56 (by rw [cellH_of ht2]; rfl)) ?_
    intro u57 e57
    refine HL.still (Runs.lenSl rfl Try.underlying41 e57) ?_
    intro u58 e58
    refine HL.still (Runs.move rfl) ?_
    intro u59 e59
    refine HL.nil ?_
    repeat refine HW.seq ?_
    refine HW.mono (N := fun f u => f 0 = .pointer (some ⟨t, 0, none⟩) ∧ Sto (fun j => FS j ∨ h.size ≤ j) u s b room (putAll room M W) ∧ Ex2 s b h u) ?_ ?_ (fun _ _ _ q => q) (fun _ _ q => q)
    · refine HW.block ?_
      refine HW.loop (fun m f u => ∃ k : Nat, k ≤ W.length ∧ m = W.length - k ∧ f 59 = I64 k ∧ f 58 = I64 W.length ∧ f 57 = .slice oa W.length oc ∧ f 0 = .pointer (some ⟨t, 0, none⟩) ∧ Sto (fun j => FS j ∨ h.size ≤ j) u s b room (putAll room M (W.take k)) ∧ Ex2 s b h u) W.length
        ⟨0, Nat.zero_le _, rfl, e59, e58, e57, y0, (hS.ext hXX).weaken fun j _ q => .inl q, .of_ext hXX⟩ ?_
      clear e57 e58 e59 y0 f0 f3 V O hR g52 ht2 htu hSu
      rintro m f v ⟨k, hk, hm, f59, f58, f57, f0, hSv, hXv⟩
      have hTv : Bat F v t bm oa s W := hT.keep hXv.size fun j hj hF => hXv.old j hj (fun e => hsF (e ▸ hF)) fun e => hbF (e ▸ hF)
      have htv := (hXv.old t htl hts htb').trans ht
      by_cases hlt : k < W.length
      · obtain ⟨L, sb, so, a, c, hML, rfl, hc, hlook, hby, hac⟩ := hTv.nth hlt
        have hnt := putAll_take room M W hlt
        have hmem : W.getD k (zD, []) ∈ W := by rw [List.getD_eq_getElem?_getD, List.getElem?_eq_getElem hlt]; exact List.getElem_mem hlt
        obtain ⟨p, hp⟩ : ∃ p, p = W.getD k (zD, []) := ⟨_, rfl⟩
        rw [← hp] at hc hlook hby hac hnt hmem
        have hpl := hpW p hmem
        -- region 13
        repeat refine HW.seq ?_
        refine HW.region ?_
        refine HL.still (Runs.lss f59 f58 rfl) ?_
        intro u60 e60
        refine HL.nil ?_
        repeat refine HW.seq ?_
        refine HW.yes ?_ ?_
        exact e60.trans (congrArg Value.bool (decide_eq_true (by omega)))
        refine HW.skip ?_
        repeat refine HW.seq ?_
        refine HW.block ?_
        -- region 14
        repeat refine HW.seq ?_
        refine HW.region ?_
        refine HL.still (Runs.ixSl (o' := so + k * 32) Try.underlying41 sz31 f57 f59 (by omega) (by omega) (by omega)) ?_
        intro u61 e61
        refine HL.still (Runs.loadAgg Try.underlying31 rfl sz31 e61 (encD_len p.1) hc) ?_
        intro u62 e62
        refine HL.one (HO.alloc zr31 ?_)
        intro ha wa
        intro u7 e7
        refine HL.zero (HO.storeAll sz31 e7 e62 (encD_one p.1) wa.new (encD_len _) (by simp) ?_)
        intro h1 wc
        refine HL.nil ?_
        have w1 : Ext v h1 := wa.ext.wr wc (Nat.le_refl _)
        have ht1 := w1.keepE htv
        have hk1 : h1[v.size]? = some (.cells (encD p.1).toArray 31 (0, 0)) := wc.new
        have hM1 : Mp h1 bm L := hML.keep (w1.old bm hML.lt)
        have hS1 := hSv.ext w1
        obtain ⟨M', d', e', hpo⟩ : ∃ M' d' e', putO room (putAll room M (W.take k)) p.2 = (M', d', e') := ⟨_, _, _, rfl⟩
        -- region 15
        repeat refine HW.seq ?_
        refine HW.drawTail 11 mixed (by kernel_rfl) ?_
        refine HS.still (Runs.move f0) ?_
        intro u63 e63
        refine HS.still (Runs.nilc e63) ?_
        intro u64 e64
        refine HS.still (Runs.fld (o' := 3) Try.underlying84 rfl sz25 (by decide) e64 (by rfl)) ?_
        intro u65 e65
        refine HS.still (Runs.load Try.underlying25 rfl e65 (by rw [cellH_of ht1]; rfl)) ?_
        intro u66 e66
        refine HS.still (Runs.move f0) ?_
        intro u67 e67
        refine HS.still (Runs.nilc e67) ?_
        intro u68 e68
        refine HS.still (Runs.fld (o' := 0) Try.underlying84 rfl sz82 (by decide) e68 (by rfl)) ?_
        intro u69 e69
        refine HS.still (Runs.fld (o' := 0) Try.underlying82 rfl sz63 (by decide) e69 (by rfl)) ?_
        intro u70 e70
        refine HS.still (Runs.load Try.underlying63 rfl e70 (by rw [cellH_of ht1]; rfl)) ?_
        intro u71 e71
        refine HS.still (Runs.loadAgg Try.underlying31 rfl sz31 e7 (encD_len p.1) (load_blk hk1)) ?_
        intro u72 e72
        refine HS.still (Runs.lookE e71 e72 hM1 hlook) ?_
        intro u73 e73
        refine HS.nil ?_
        refine HL.one (HO.call Try.func18 bd18 nm18 (args2 e66 e73) rfl ((putX_ch h1 s b room _ M' p.2 d' e' a c hpo hS1 (hby.ext w1) hac hpl hr hr0 (putAll_tot room _ M htM)).mono ?_))
        rintro _ h2 ⟨_, S2, X2⟩
        intro u74 e74
        refine HL.nil ?_
        -- region 16
        repeat refine HW.seq ?_
        refine HW.region ?_
        refine HL.still (Runs.add f59 rfl (i64w (by omega))) ?_
        intro u75 e75
        refine HL.still (Runs.move e75) ?_
        intro u59 e59
        refine HL.nil ?_
        have z1 := w1.size
        have zv := hXv.size
        refine ⟨W.length - (k + 1), by omega, k + 1, by omega, rfl, e59, f58, f57, f0, ?_, (hXv.trans (.of_ext w1)).trans X2⟩
        rw [hnt, hpo]
        exact S2.weaken fun j _ q => q.elim id fun q => .inr (by omega)
      · have hkl : k = W.length := by omega
        subst hkl
        -- region 13
        repeat refine HW.seq ?_
        refine HW.region ?_
        refine HL.still (Runs.lss f59 f58 rfl) ?_
        intro u60 e60
        refine HL.nil ?_
        repeat refine HW.seq ?_
        refine HW.no ?_ ?_
        exact e60.trans (congrArg Value.bool (decide_eq_false (by omega)))
        refine HW.exitHere ?_
        rw [List.take_length] at hSv
        exact ⟨f0, hSv, hXv⟩
    clear e57 e58 e59 y0 f0 f3 V O hR g52 ht2 htu hSu
    rintro f v ⟨f0, hSv, hXv⟩
    have htv := (hXv.old t htl hts htb').trans ht
    -- region 17
    repeat refine HW.seq ?_
    refine HW.region ?_
    refine HL.still (Runs.move f0) ?_
    intro u76 e76
    refine HL.one (HO.call Try.func41 bd41 nm41 (args1 e76) rfl ((discard_ch v t s (some bm) oa W.length oc (tot W) false htv).mono ?_))
    rintro _ h9 ⟨_, w9⟩
    intro u77 e77
    refine HL.nil ?_
    -- region 18
    repeat refine HW.seq ?_
    refine HW.region ?_
    refine HL.still (Runs.assign rfl) ?_
    intro u2 e2
    refine HL.nil ?_
    refine HW.ret ?_
    refine RT.one rfl e2 ⟨rfl, hSv.keep (by rw [w9.size]; exact Nat.le_refl _) fun j hj q => w9.old j fun e => ?_, .inl ⟨rfl, w9.new, hFt⟩, ⟨by rw [w9.size]; exact hXv.size, fun j hj n => (w9.old j fun e => n (.inl e)).trans (hXv.old j hj (fun e => n (.inr (.inl e))) fun e => n (.inr (.inr e)))⟩⟩
    rcases q with q | q
    · exact hd t hFt (e ▸ q)
    · omega
end Go.Proofs.Ytklelhfgbjpifaa
/-! Several structures in one heap, each in blocks of its own. -/
namespace Go.Proofs.Ytklelhfgbjpifaa
set_option linter.unnecessarySimpa false
set_option linter.unusedSimpArgs false
set_option linter.unusedVariables false
open Go.RowKit
/-- Blocks that are laid from n on are x's. -/
def stamp (own : Nat → Nat) (n x : Nat) : Nat → Nat := fun j => if j < n then own j else x
theorem stamp_lt {own : Nat → Nat} {n x j : Nat} (h : j < n) : stamp own n x j = own j := if_pos h
theorem stamp_ge {own : Nat → Nat} {n x j : Nat} (h : n ≤ j) : stamp own n x j = x := if_neg (by omega)
theorem stamp_mine {own : Nat → Nat} {n x j : Nat} (h : own j = x ∨ n ≤ j) : stamp own n x j = x := by
  by_cases hj : j < n
  · rw [stamp_lt hj]
    rcases h with h | h
    · exact h
    · omega
  · exact stamp_ge (by omega)
theorem stamp_low {own : Nat → Nat} {n x N : Nat} (h : ∀ j, j < N → own j = 0) (hN : N ≤ n) : ∀ j, j < N → stamp own n x j = 0 := fun j hj => by rw [stamp_lt (by omega)]; exact h j hj
section
variable {own : Nat → Nat} {h h' : Heap} {s b t bm x y N : Nat} {oa : Option Addr} {room : Int} {M W : Blobs}
theorem Sto.mine {n : Nat} (k : Sto (fun j => own j = x ∨ n ≤ j) h s b room M) : Sto (fun j => stamp own n x j = x) h s b room M := k.weaken fun _ _ q => stamp_mine q
theorem Rst.mine {n : Nat} (k : Rst (fun j => own j = x ∨ n ≤ j) h s room M) : Rst (fun j => stamp own n x j = x) h s room M := k.weaken fun _ _ q => stamp_mine q
theorem Bat.mine {n : Nat} (k : Bat (fun j => own j = x ∨ n ≤ j) h t bm oa s W) : Bat (fun j => stamp own n x j = x) h t bm oa s W := k.weaken fun _ _ q => stamp_mine q
theorem Sto.other (k : Sto (fun j => own j = y) h s b room M) (e : ExF (fun j => own j = x) h h') (hne : y ≠ x) : Sto (fun j => stamp own h.size x j = y) h' s b room M :=
  (k.weaken (F' := fun j => own j = y ∧ stamp own h.size x j = y) fun j hj q => ⟨q, by rw [stamp_lt hj]; exact q⟩).keep e.size (fun j hj q => e.old j hj fun r => hne (q.1.symm.trans r)) |>.weaken fun _ _ q => q.2
theorem Rst.other (k : Rst (fun j => own j = y) h s room M) (e : ExF (fun j => own j = x) h h') (hne : y ≠ x) : Rst (fun j => stamp own h.size x j = y) h' s room M :=
  (k.weaken (F' := fun j => own j = y ∧ stamp own h.size x j = y) fun j hj q => ⟨q, by rw [stamp_lt hj]; exact q⟩).keep e.size (fun j hj q => e.old j hj fun r => hne (q.1.symm.trans r)) |>.weaken fun _ _ q => q.2
theorem Bat.other (k : Bat (fun j => own j = y) h t bm oa s W) (e : ExF (fun j => own j = x) h h') (hne : y ≠ x) : Bat (fun j => stamp own h.size x j = y) h' t bm oa s W :=
  (k.weaken (F' := fun j => own j = y ∧ stamp own h.size x j = y) fun j hj q => ⟨q, by rw [stamp_lt hj]; exact q⟩).keep e.size (fun j hj q => e.old j hj fun r => hne (q.1.symm.trans r)) |>.weaken fun _ _ q => q.2
theorem Sto.st (k : Sto (fun j => own j = y) h s b room M) (hs : h.size ≤ h'.size) (e : ∀ j, j < h.size → own j = y → h'[j]? = h[j]?) : Sto (fun j => stamp own h.size x j = y) h' s b room M :=
  (k.weaken (F' := fun j => own j = y ∧ stamp own h.size x j = y) fun j hj q => ⟨q, by rw [stamp_lt hj]; exact q⟩).keep hs (fun j hj q => e j hj q.1) |>.weaken fun _ _ q => q.2
theorem Bat.st (k : Bat (fun j => own j = y) h t bm oa s W) (hs : h.size ≤ h'.size) (e : ∀ j, j < h.size → own j = y → h'[j]? = h[j]?) : Bat (fun j => stamp own h.size x j = y) h' t bm oa s W :=
  (k.weaken (F' := fun j => own j = y ∧ stamp own h.size x j = y) fun j hj q => ⟨q, by rw [stamp_lt hj]; exact q⟩).keep hs (fun j hj q => e j hj q.1) |>.weaken fun _ _ q => q.2
theorem BatO.other (k : BatO (fun j => own j = y) h t s) (e : ExF (fun j => own j = x) h h') (hne : y ≠ x) : BatO (fun j => stamp own h.size x j = y) h' t s :=
  ⟨(e.old t (lt_of_some k.1) fun r => hne (k.2.symm.trans r)).trans k.1, (stamp_lt (lt_of_some k.1)).trans k.2⟩
theorem obj_other {j : Nat} {o : Obj} (k : h[j]? = some o) (hj : own j = y) (e : ExF (fun j => own j = x) h h') (hne : y ≠ x) : h'[j]? = some o ∧ stamp own h.size x j = y :=
  ⟨(e.old j (lt_of_some k) fun r => hne (hj.symm.trans r)).trans k, by rw [stamp_lt (lt_of_some k)]; exact hj⟩
theorem obj_st {j : Nat} {o : Obj} (k : h[j]? = some o) (hj : own j = y) (hs : h.size ≤ h'.size) (e : ∀ j, j < h.size → own j = y → h'[j]? = h[j]?) : h'[j]? = some o ∧ stamp own h.size x j = y :=
  ⟨(e j (lt_of_some k) hj).trans k, by rw [stamp_lt (lt_of_some k)]; exact hj⟩
theorem ds_st {base cap : Nat} {a : Option Addr} {l : List Dg} (k : Ds h base a cap l) (hj : ∀ g, a = some ⟨g, 0, none⟩ → own g = y) (e : ∀ j, j < h.size → own j = y → h'[j]? = h[j]?) : Ds h' base a cap l ∧ ∀ g, a = some ⟨g, 0, none⟩ → stamp own h.size x g = y :=
  have hl : ∀ g, a = some ⟨g, 0, none⟩ → g < h.size := fun g q => by
    rcases k.blk with ⟨r, _⟩ | ⟨g', r, _, r2⟩
    · rw [r] at q; cases q
    · rw [r] at q; cases q; exact r2
  ⟨k.keep' fun g q => e g (hl g q) (hj g q), fun g q => by rw [stamp_lt (hl g q)]; exact hj g q⟩
theorem byt_st {a : Option Addr} {xs : List UInt8} (k : Byt h a xs) (hj : ∀ sb so, a = some ⟨sb, so, none⟩ → sb < h.size ∧ own sb = y) (hs : h.size ≤ h'.size) (e : ∀ j, j < h.size → own j = y → h'[j]? = h[j]?) : Byt h' a xs ∧ ∀ sb so, a = some ⟨sb, so, none⟩ → sb < h'.size ∧ stamp own h.size x sb = y :=
  ⟨k.keep fun sb so q => e sb (hj sb so q).1 (hj sb so q).2, fun sb so q => ⟨Nat.lt_of_lt_of_le (hj sb so q).1 hs, by rw [stamp_lt (hj sb so q).1]; exact (hj sb so q).2⟩⟩
theorem only_st {h0 : Heap} (hN : ∀ j, j < N → own j = 0) (hs0 : h0.size = N) (k : Ext h0 h) (hs : h.size ≤ h'.size) (e : ∀ j, j < h.size → own j = 0 → h'[j]? = h[j]?) : Ext h0 h' := ⟨Nat.le_trans k.size hs, fun j hj => (e j (Nat.lt_of_lt_of_le hj k.size) (hN j (by omega))).trans (k.old j hj)⟩
theorem ExF.kp (e : ExF (fun j => own j = x) h h') (hne : y ≠ x) : ∀ j, j < h.size → own j = y → h'[j]? = h[j]? := fun j hj q => e.old j hj fun r => hne (q.symm.trans r)
theorem ExF.kp2 {z : Nat} (e : ExF (fun j => own j = x ∨ own j = z) h h') (h1 : y ≠ x) (h2 : y ≠ z) : ∀ j, j < h.size → own j = y → h'[j]? = h[j]? := fun j hj q => e.old j hj fun r => r.elim (fun r => h1 (q.symm.trans r)) fun r => h2 (q.symm.trans r)
theorem ExF.bel (e : ExF (fun j => own j = x) h h') (hN : ∀ j, j < N → own j = 0) (hx : x ≠ 0) (hs : N ≤ h.size) : Bel N h h' := ⟨e.size, fun j hj => e.old j (by omega) fun r => hx (r.symm.trans (hN j hj))⟩
theorem ExF.only (e : ExF (fun j => own j = x) h h') (hN : ∀ j, j < N → own j = 0) (hx : x ≠ 0) {h0 : Heap} (hs : h0.size = N) (k : Ext h0 h) : Ext h0 h' := ⟨Nat.le_trans k.size e.size, fun j hj => (e.old j (Nat.lt_of_lt_of_le hj k.size) fun r => hx (r.symm.trans (hN j (by omega)))).trans (k.old j hj)⟩
theorem put_own {own : Nat → Nat} {x : Nat} (h : Heap) (s b : Nat) (room : Int) (M M' : List (Dg × List UInt8)) (xs : List UInt8) (d : Dg) (e : Int) (a : Option Addr) (cap : Nat) (hp : putO room M xs = (M', d, e)) (hS : Sto (fun j => own j = x) h s b room M) (hsrc : Byt h a xs) (hcap : xs.length ≤ cap) (hlen : xs.length ≤ 100000) (hr : room ≤ 1073741824) (hr0 : 0 ≤ room) (ht : (tot M : Int) ≤ room) :
    CH Try.prog 18 #[.pointer (some ⟨s, 0, none⟩), .slice a xs.length cap] h fun v h' => v = .tuple #[keyV d, I64 e] ∧ Sto (fun j => stamp own h.size x j = x) h' s b room M' ∧ ExF (fun j => own j = x) h h' :=
  (putX_ch h s b room M M' xs d e a cap hp hS hsrc hcap hlen hr hr0 ht).mono fun _ _ ⟨q1, q2, q3⟩ => ⟨q1, q2.mine, .of_ex2 q3 hS.foot.1 hS.foot.2⟩
theorem putB_own {own : Nat → Nat} {x y : Nat} (h : Heap) (t bm : Nat) (oa : Option Addr) (s b : Nat) (room : Int) (W W' M : Blobs) (xs : List UInt8) (d : Dg) (e : Int) (a : Option Addr) (cap : Nat) (hp : putBO room W M xs = (W', d, e)) (hT : Bat (fun j => own j = y) h t bm oa s W) (hS : Sto (fun j => own j = x) h s b room M) (hsrc : Byt h a xs) (hcap : xs.length ≤ cap) (hlen : xs.length ≤ 100000) (hr : room ≤ 1073741824) (hr0 : 0 ≤ room) (htM : (tot M : Int) ≤ room) (htW : tot W ≤ 1000000000) (hlW : W.length ≤ 1000000) :
    CH Try.prog 37 #[.pointer (some ⟨t, 0, none⟩), .slice a xs.length cap] h fun v h' => v = .tuple #[keyV d, I64 e] ∧ (∃ oa', Bat (fun j => stamp own h.size y j = y) h' t bm oa' s W') ∧ ExF (fun j => own j = y) h h' := by
  have := putB_ch h t bm oa s b room W M xs a cap hT hS hsrc hcap hlen hr hr0 htM htW hlW
  rw [hp] at this
  exact this.mono fun _ _ ⟨q1, oa', q2, q3⟩ => ⟨q1, ⟨oa', q2.mine⟩, q3⟩
theorem newB_own {own : Nat → Nat} (y : Nat) (h : Heap) (s : Nat) : CH Try.prog 36 #[.pointer (some ⟨s, 0, none⟩)] h fun v h' => v = .pointer (some ⟨h.size + 1, 0, none⟩) ∧ Bat (fun j => stamp own h.size y j = y) h' (h.size + 1) h.size none s [] ∧ Ext h h' :=
  (newB_ch h s).mono fun _ _ ⟨q1, q2, q3⟩ => ⟨q1, q2.weaken fun _ _ q => stamp_ge q, q3⟩
theorem commit_own {own : Nat → Nat} {x y : Nat} (h : Heap) (t bm : Nat) (oa : Option Addr) (s b : Nat) (room : Int) (W M : Blobs) (hxy : y ≠ x) (hT : Bat (fun j => own j = y) h t bm oa s W) (hS : Sto (fun j => own j = x) h s b room M) (hr : room ≤ 1073741824) (hr0 : 0 ≤ room) (htM : (tot M : Int) ≤ room) (htW : tot W ≤ 1000000000) (hlW : W.length ≤ 1000000) (hpW : ∀ p ∈ W, p.2.length ≤ 100000) :
    CH Try.prog 39 #[.pointer (some ⟨t, 0, none⟩)] h fun v h' => v = I64 (commitO room W M).2 ∧ Sto (fun j => stamp own h.size x j = x) h' s b room (commitO room W M).1 ∧ ((commitO room W M).2 = 0 ∧ BatO (fun j => stamp own h.size x j = y) h' t s ∨ (commitO room W M).2 = 2 ∧ Bat (fun j => stamp own h.size x j = y) h' t bm oa s W ∧ Ext h h') ∧ ExF (fun j => own j = x ∨ own j = y) h h' := by
  have htl := lt_of_some (show h[t]? = some _ from hT.choose_spec.choose_spec.2.1)
  have hty : own t = y := by obtain ⟨_, _, _, _, _, _, ⟨_, q, _⟩, _⟩ := hT; exact q
  refine (commit_ch h t bm oa s b room W M hT hS (fun j q1 q2 => hxy (q1.symm.trans q2)) hr hr0 htM htW hlW hpW).mono fun v h' ⟨q1, q2, q3, q4⟩ => ⟨q1, q2.mine, ?_, ⟨q4.size, fun j hj n => q4.old j hj fun e => ?_⟩⟩
  · rcases q3 with ⟨r1, r2⟩ | ⟨r1, r2, r3⟩
    · exact .inl ⟨r1, r2.1, (stamp_lt htl).trans hty⟩
    · exact .inr ⟨r1, hT.other (.of_ext r3) hxy, r3⟩
  · rcases e with e | e | e
    · exact n (.inr (e ▸ hty))
    · exact n (.inl (e ▸ hS.foot.1))
    · exact n (.inl (e ▸ hS.foot.2))
end
end Go.Proofs.Ytklelhfgbjpifaa
/-! onionskinlaw04.small answers true. -/
namespace Go.Proofs.Ytklelhfgbjpifaa
set_option linter.unnecessarySimpa false
set_option linter.unusedSimpArgs false
set_option linter.unusedVariables false
open Go.RowKit
def xcde : List UInt8 := [99, 100, 101]
def xxyz : List UInt8 := [120, 121, 122]
theorem cde0 : (SHA xcde).getD 0 0 = 0x08 := by decide +kernel
theorem xyz0 : (SHA xxyz).getD 0 0 = 0x36 := by decide +kernel
theorem ne_ab_cde : (shaD xab == shaD xcde) = false := sha_ne ab0 cde0 (by decide)
theorem ne_ab_xyz : (shaD xab == shaD xxyz) = false := sha_ne ab0 xyz0 (by decide)
abbrev M3 : Blobs := [(shaD xxyz, xxyz)]
theorem bput1 : putBO 4 [] [] xab = (M1, shaD xab, 0) := rfl
theorem bput2 : putBO 4 M1 [] xcde = (M1, zD, 2) := by
  unfold putBO
  rw [look1, ne_ab_cde]
  rfl
theorem bput3 : putBO 4 [] [] xxyz = (M3, shaD xxyz, 0) := rfl
theorem bget : getO M1 [] (shaD xab) = (xab, true) := by
  unfold getO
  rw [look1, beq_self_eq_true]
  rfl
theorem bcom1 : commitO 4 M1 [] = (M1, 0) := rfl
theorem bcom2 : commitO 4 M3 M1 = (M1, 2) := by
  have : needO M1 M3 = 3 := by
    unfold needO
    rw [List.map_cons, look1, ne_ab_xyz]
    rfl
  unfold commitO
  rw [this]
  rfl
set_option maxRecDepth 10000 in
set_option maxHeartbeats 1000000 in
theorem small4_ch (h : Heap) : CH Try.prog 34 #[] h fun v h' => v = .bool true ∧ Ext h h' := by
  refine CH.of_body Try.func34 rfl rfl rfl ?_
  intro f hf
  -- region 0
  repeat refine HW.seq ?_
  refine HW.region ?_
  refine HL.still (Runs.assign rfl) ?_
  intro u0 e0
  refine HL.nil ?_
  -- region 1
  repeat refine HW.seq ?_
  refine HW.region ?_
  refine HL.one (HO.call Try.func16 bd16 nm16 (args1 rfl) rfl ((newS_ch h 4).mono ?_))
  rintro _ h1 ⟨rfl, S1, X1⟩
  intro u16 e16
  refine HL.still (Runs.assign e16) ?_
  intro u1 e1
  refine HL.nil ?_
  obtain ⟨N, hN⟩ : ∃ N, N = h.size := ⟨_, rfl⟩
  obtain ⟨s, hs⟩ : ∃ s, s = h.size + 1 := ⟨_, rfl⟩
  rw [← hs] at S1 e1
  rw [← hN] at S1 hs
  obtain ⟨o1, ho1⟩ : ∃ o1, o1 = stamp (fun _ => 0) N 1 := ⟨_, rfl⟩
  have L1 : ∀ j, j < N → o1 j = 0 := fun j hj => by rw [ho1]; exact stamp_lt hj
  have S1 : Sto (fun j => o1 j = 1) h1 s N 4 [] := S1.weaken fun _ _ q => by rw [ho1]; exact stamp_ge q
  have x1 := X1.size
  rw [← hN] at x1
  -- region 2
  repeat refine HW.seq ?_
  refine HW.region ?_
  refine HL.still (Runs.move e1) ?_
  intro u17 e17
  refine HL.still (Runs.eqNil Try.underlying25 e17 rfl) ?_
  intro u18 e18
  refine HL.nil ?_
  refine HW.no e18 ?_
  refine HW.skip ?_
  -- region 4
  repeat refine HW.seq ?_
  refine HW.region ?_
  refine HL.still (Runs.move e1) ?_
  intro u19 e19
  refine HL.one (HO.call Try.func36 bd36 nm36 (args1 e19) rfl ((newB_own (own := o1) 2 h1 s).mono ?_))
  rintro _ h2 ⟨rfl, T2, X2⟩
  intro u20 e20
  refine HL.still (Runs.assign e20) ?_
  intro u2 e2
  refine HL.nil ?_
  have x2 := X2.size
  obtain ⟨t, ht⟩ : ∃ t, t = h1.size + 1 := ⟨_, rfl⟩
  obtain ⟨bm, hbm⟩ : ∃ bm, bm = h1.size := ⟨_, rfl⟩
  rw [← ht] at T2 e2
  rw [show Bat (fun j => stamp o1 h1.size 2 j = 2) h2 t h1.size none s [] = Bat (fun j => stamp o1 h1.size 2 j = 2) h2 t bm none s [] by rw [hbm]] at T2
  have S2 := S1.other (.of_ext X2) (x := 2) (by decide)
  have L2 := stamp_low (x := 2) L1 x1
  obtain ⟨o2, ho2⟩ : ∃ o2, o2 = stamp o1 h1.size 2 := ⟨_, rfl⟩
  rw [← ho2] at S2 T2 L2
  -- region 5
  repeat refine HW.seq ?_
  refine HW.region ?_
  refine HL.still (Runs.move e1) ?_
  intro u21 e21
  refine HL.one (HO.call Try.func36 bd36 nm36 (args1 e21) rfl ((newB_own (own := o2) 3 h2 s).mono ?_))
  rintro _ h3 ⟨rfl, U3, X3⟩
  intro u22 e22
  refine HL.still (Runs.assign e22) ?_
  intro u3 e3
  refine HL.nil ?_
  have x3 := X3.size
  obtain ⟨t', ht'⟩ : ∃ t', t' = h2.size + 1 := ⟨_, rfl⟩
  obtain ⟨bm', hbm'⟩ : ∃ bm', bm' = h2.size := ⟨_, rfl⟩
  rw [← ht'] at U3 e3
  rw [show Bat (fun j => stamp o2 h2.size 3 j = 3) h3 t' h2.size none s [] = Bat (fun j => stamp o2 h2.size 3 j = 3) h3 t' bm' none s [] by rw [hbm']] at U3
  have S3 := S2.other (.of_ext X3) (x := 3) (by decide)
  have T3 := T2.other (.of_ext X3) (x := 3) (by decide)
  have L3 := stamp_low (x := 3) L2 (Nat.le_trans x1 x2)
  obtain ⟨o3, ho3⟩ : ∃ o3, o3 = stamp o2 h2.size 3 := ⟨_, rfl⟩
  rw [← ho3] at S3 T3 U3 L3
  have XA : Ext h h3 := (X1.ext X2 (Nat.le_refl _)).ext X3 (Nat.le_refl _)
  clear X1 X2 X3 S1 S2 T2 L1 L2 ho1 ho2 ho3 e16 e18 e20 e22
  -- region 6
  repeat refine HW.seq ?_
  refine HW.region ?_
  refine HL.still (Runs.move e2) ?_
  intro u23 e23
  refine HL.still (Runs.eqNil Try.underlying52 e23 rfl) ?_
  intro u24 e24
  refine HL.still (Runs.move e24) ?_
  intro u25 e25
  refine HL.stillG rfl rfl e25 (Runs.move e3) ?_
  intro u26 e26
  refine HL.stillG rfl rfl e25 (Runs.eqNil Try.underlying52 e26 rfl) ?_
  intro u27 e27
  refine HL.still (Runs.pick e25 e27) ?_
  intro u28 e28
  refine HL.nil ?_
  refine HW.no e28 ?_
  refine HW.skip ?_
  have hs0 : h.size = N := hN.symm
  -- b.Put("ab")
  -- region 8
  repeat refine HW.seq ?_
  refine HW.region ?_
  refine HL.still (Runs.move e2) ?_
  intro u30 e30
  refine HL.one (HO.buildSlice (e := 5) (cells := xab.map B8) (fun w => by kernel_rfl) fun h31 w31 => ?_)
  intro u31 e31
  refine HL.one (HO.mark Try.underlying29 Try.underlying5 e31 w31.new ?_)
  intro h32 fr32 w32 q32
  intro u32 e32
  refine HL.one (HO.call Try.func37 bd37 nm37 (args2 e30 e32) rfl ((putB_own (own := o3) (x := 1) (y := 2) h32 t bm none s N 4 [] M1 [] xab (shaD xab) 0 _ 2 bput1 (T3.ext (w31.ext.wr w32 (Nat.le_refl _))) (S3.ext (w31.ext.wr w32 (Nat.le_refl _))) (byt_block w32.new) (by decide) (by decide) (by decide) (by decide) (by decide) (by decide) (by decide)).mono ?_))
  rintro _ h33 ⟨rfl, ⟨oa4, T4⟩, E4⟩
  intro u33 e33
  refine HL.still (Runs.move e33) ?_
  intro u29 e29
  refine HL.still (Runs.extr e29 rfl) ?_
  intro u34 e34
  refine HL.still (Runs.extr e29 rfl) ?_
  intro u35 e35
  refine HL.one (HO.alloc zr31 ?_)
  intro ha wa
  intro u4 e4
  refine HL.zero (HO.storeAll sz31 e4 e34 (encD_one (shaD xab)) wa.new (encD_len _) (by simp) ?_)
  intro h4 wb
  refine HL.still (Runs.assign e35) ?_
  intro u5 e5
  refine HL.nil ?_
  have Y4 : Ext h3 h32 := w31.ext.wr w32 (Nat.le_refl _)
  have XA := E4.only L3 (by decide) hs0 (XA.ext Y4 (Nat.le_refl _))
  have U4 := (U3.ext Y4).other E4 (by decide)
  have S4 := (S3.ext Y4).other E4 (by decide)
  have L4 := stamp_low (x := 2) L3 (by have := E4.size; have := XA.size; have := Y4.size; omega : N ≤ h32.size)
  obtain ⟨o4, ho4⟩ : ∃ o4, o4 = stamp o3 h32.size 2 := ⟨_, rfl⟩
  rw [← ho4] at U4 S4 L4 T4
  have Y5 : Ext h33 h4 := wa.ext.wr wb (Nat.le_refl _)
  have S5 := S4.other (.of_ext Y5) (x := 0) (by decide)
  have T5 := T4.other (.of_ext Y5) (x := 0) (by decide)
  have U5 := U4.other (.of_ext Y5) (x := 0) (by decide)
  have L5 := stamp_low (x := 0) L4 (by have := XA.size; omega : N ≤ h33.size)
  have kd5 : h4[h33.size]? = some (.cells (encD (shaD xab)).toArray 31 (0, 0)) := wb.new
  obtain ⟨kd, hkd⟩ : ∃ kd, kd = h33.size := ⟨_, rfl⟩
  have ok5 : stamp o4 h33.size 0 kd = 0 := stamp_ge (by omega)
  obtain ⟨o5, ho5⟩ : ∃ o5, o5 = stamp o4 h33.size 0 := ⟨_, rfl⟩
  rw [← ho5] at S5 T5 U5 L5 ok5
  have d4 : u4 = .pointer (some ⟨kd, 0, none⟩) := by rw [hkd]; exact e4
  have d5 : u5 = I64 0 := e5
  rw [← hkd] at kd5
  have XA := XA.ext Y5 (Nat.le_refl _)
  clear S3 T3 U3 L3 S4 T4 U4 L4 ho4 ho5 e4 e5 e26 E4 Y4 Y5
  -- b.Put("cde")
  -- region 9
  repeat refine HW.seq ?_
  refine HW.region ?_
  refine HL.still (Runs.move e2) ?_
  intro u37 e37
  refine HL.one (HO.buildSlice (e := 5) (cells := xcde.map B8) (fun w => by kernel_rfl) fun h38 w38 => ?_)
  intro u38 e38
  refine HL.one (HO.mark Try.underlying29 Try.underlying5 e38 w38.new ?_)
  intro h39 fr39 w39 q39
  intro u39 e39
  refine HL.one (HO.call Try.func37 bd37 nm37 (args2 e37 e39) rfl ((putB_own (own := o5) (x := 1) (y := 2) h39 t bm oa4 s N 4 M1 M1 [] xcde zD 2 _ 3 bput2 (T5.ext (w38.ext.wr w39 (Nat.le_refl _))) (S5.ext (w38.ext.wr w39 (Nat.le_refl _))) (byt_block w39.new) (by decide) (by decide) (by decide) (by decide) (by decide) (by decide) (by decide)).mono ?_))
  rintro _ h40 ⟨rfl, ⟨oa6, T6⟩, E6⟩
  intro u40 e40
  refine HL.still (Runs.move e40) ?_
  intro u36 e36
  refine HL.still (Runs.extr e36 rfl) ?_
  intro u41 e41
  refine HL.still (Runs.extr e36 rfl) ?_
  intro u42 e42
  refine HL.one (HO.alloc zr31 ?_)
  intro hc wc
  intro u6 e6
  refine HL.zero (HO.storeAll sz31 e6 e41 (encD_one zD) wc.new (encD_len _) (by simp) ?_)
  intro h6 wd
  refine HL.still (Runs.assign e42) ?_
  intro u7 e7
  refine HL.nil ?_
  have Y6 : Ext h4 h39 := w38.ext.wr w39 (Nat.le_refl _)
  have U6 := (U5.ext Y6).other E6 (by decide)
  have S6 := (S5.ext Y6).other E6 (by decide)
  obtain ⟨kd6, ok6⟩ := obj_other (Y6.keepE kd5) ok5 E6 (by decide)
  have L6 := stamp_low (x := 2) L5 (by have := XA.size; have := Y6.size; omega : N ≤ h39.size)
  have XA := E6.only L5 (by decide) hs0 (XA.ext Y6 (Nat.le_refl _))
  obtain ⟨o6, ho6⟩ : ∃ o6, o6 = stamp o5 h39.size 2 := ⟨_, rfl⟩
  rw [← ho6] at U6 S6 L6 T6 ok6
  have Y7 : Ext h40 h6 := wc.ext.wr wd (Nat.le_refl _)
  have S7 := S6.ext Y7
  have T7 := T6.ext Y7
  have U7 := U6.ext Y7
  have kd7 := Y7.keepE kd6
  have d7 : u7 = I64 2 := e7
  have XA := XA.ext Y7 (Nat.le_refl _)
  clear S5 T5 U5 L5 S6 T6 U6 kd5 kd6 ok5 ho6 e6 e7 E6 Y6 Y7
  -- b.Get(d)
  -- region 10
  repeat refine HW.seq ?_
  refine HW.region ?_
  refine HL.still (Runs.move e2) ?_
  intro u44 e44
  refine HL.still (Runs.loadAgg Try.underlying31 rfl sz31 d4 (encD_len (shaD xab)) (load_blk kd7)) ?_
  intro u45 e45
  refine HL.one (HO.call Try.func42 bd42 nm42 (args2 e44 e45) rfl ((getB_ch h6 t bm oa6 s N 4 M1 [] (shaD xab) T7 S7 (by intro p hp; rw [List.mem_singleton.1 hp]; decide) (by intro p hp; cases hp)).mono ?_))
  rintro _ h8 ⟨a8, c8, rfl, B8', Y8⟩
  intro u46 e46
  refine HL.still (Runs.move e46) ?_
  intro u43 e43
  refine HL.still (Runs.extr e43 rfl) ?_
  intro u47 e47
  refine HL.still (Runs.extr e43 rfl) ?_
  intro u48 e48
  refine HL.still (Runs.assign e47) ?_
  intro u8 e8
  refine HL.still (Runs.assign e48) ?_
  intro u9 e9
  refine HL.nil ?_
  rw [bget] at B8' e8 e9
  have S8 := S7.other (.of_ext Y8) (x := 0) (by decide)
  have T8 := T7.other (.of_ext Y8) (x := 0) (by decide)
  have U8 := U7.other (.of_ext Y8) (x := 0) (by decide)
  have kd8 := Y8.keepE kd7
  have ok8 : stamp o6 h6.size 0 kd = 0 := (stamp_lt (lt_of_some kd7)).trans ok6
  have L8 := stamp_low (x := 0) L6 (by have := XA.size; omega : N ≤ h6.size)
  have b8 : Byt h8 a8 xab := B8'.byt
  have bo8 : ∀ sb so, a8 = some ⟨sb, so, none⟩ → sb < h8.size ∧ stamp o6 h6.size 0 sb = 0 := fun sb so q => by
    rcases Rs.blk (gv := B8) B8' with r | ⟨g, r, r2, r3⟩
    · rw [r] at q; cases q
    · have : g = sb := by rw [r] at q; cases q; rfl
      subst this
      exact ⟨r3, stamp_ge r2⟩
  obtain ⟨o8, ho8⟩ : ∃ o8, o8 = stamp o6 h6.size 0 := ⟨_, rfl⟩
  rw [← ho8] at S8 T8 U8 L8 ok8 bo8
  have d8 : u8 = .slice a8 xab.length c8 := e8
  have d9 : u9 = .bool true := e9
  have XA := XA.ext Y8 (Nat.le_refl _)
  clear S7 T7 U7 L6 kd7 ok6 ho8 e8 e9 Y8 B8'
  -- s.Used()
  -- region 11
  repeat refine HW.seq ?_
  refine HW.region ?_
  refine HL.still (Runs.move e1) ?_
  intro u49 e49
  refine HL.one (HO.call Try.func26 bd26 nm26 (args1 e49) rfl ((usedX_ch h8 s N 4 [] 0 S8 rfl).mono ?_))
  rintro _ h9 ⟨rfl, Y9⟩
  intro u50 e50
  refine HL.still (Runs.assign e50) ?_
  intro u10 e10
  refine HL.nil ?_
  have S9 := S8.ext Y9
  have T9 := T8.ext Y9
  have U9 := U8.ext Y9
  have kd9 := Y9.keepE kd8
  have b9 := b8.ext Y9
  have bo9 : ∀ sb so, a8 = some ⟨sb, so, none⟩ → sb < h9.size ∧ o8 sb = 0 := fun sb so q => ⟨Nat.lt_of_lt_of_le (bo8 sb so q).1 Y9.size, (bo8 sb so q).2⟩
  have XA := XA.ext Y9 (Nat.le_refl _)
  have d10 : u10 = I64 0 := e10
  clear S8 T8 U8 kd8 b8 bo8 Y9 e10
  -- c.Put("xyz")
  -- region 12
  repeat refine HW.seq ?_
  refine HW.region ?_
  refine HL.still (Runs.move e3) ?_
  intro u51 e51
  refine HL.one (HO.buildSlice (e := 5) (cells := xxyz.map B8) (fun w => by kernel_rfl) fun h52 w52 => ?_)
  intro u52 e52
  refine HL.one (HO.mark Try.underlying29 Try.underlying5 e52 w52.new ?_)
  intro h53 fr53 w53 q53
  intro u53 e53
  refine HL.one (HO.call Try.func37 bd37 nm37 (args2 e51 e53) rfl ((putB_own (own := o8) (x := 1) (y := 3) h53 t' bm' none s N 4 [] M3 [] xxyz (shaD xxyz) 0 _ 3 bput3 (U9.ext (w52.ext.wr w53 (Nat.le_refl _))) (S9.ext (w52.ext.wr w53 (Nat.le_refl _))) (byt_block w53.new) (by decide) (by decide) (by decide) (by decide) (by decide) (by decide) (by decide)).mono ?_))
  rintro _ h54 ⟨rfl, ⟨oa10, U10⟩, E10⟩
  intro u54 e54
  refine HL.nil ?_
  have Y10 : Ext h9 h53 := w52.ext.wr w53 (Nat.le_refl _)
  have T10 := (T9.ext Y10).other E10 (by decide)
  have S10 := (S9.ext Y10).other E10 (by decide)
  obtain ⟨kd10, ok10⟩ := obj_other (Y10.keepE kd9) ok8 E10 (by decide)
  obtain ⟨b10, bo10⟩ := byt_st (x := 3) (b9.ext Y10) (fun sb so q => ⟨Nat.lt_of_lt_of_le (bo9 sb so q).1 Y10.size, (bo9 sb so q).2⟩) E10.size (E10.kp (by decide))
  have L10 := stamp_low (x := 3) L8 (by have := XA.size; have := Y10.size; omega : N ≤ h53.size)
  have XA := E10.only L8 (by decide) hs0 (XA.ext Y10 (Nat.le_refl _))
  obtain ⟨o10, ho10⟩ : ∃ o10, o10 = stamp o8 h53.size 3 := ⟨_, rfl⟩
  rw [← ho10] at S10 T10 U10 L10 ok10 bo10
  clear S9 T9 U9 kd9 ok8 b9 bo9 L8 ho10 E10 Y10
  -- b.Commit()
  -- region 13
  repeat refine HW.seq ?_
  refine HW.region ?_
  refine HL.still (Runs.move e2) ?_
  intro u55 e55
  refine HL.one (HO.call Try.func39 bd39 nm39 (args1 e55) rfl ((commit_own (own := o10) (x := 1) (y := 2) h54 t bm oa6 s N 4 M1 [] (by decide) T10 S10 (by decide) (by decide) (by decide) (by decide) (by decide) (by intro p hp; rw [List.mem_singleton.1 hp]; decide)).mono ?_))
  rintro _ h56 ⟨rfl, S11, T11, E11⟩
  intro u56 e56
  refine HL.still (Runs.assign e56) ?_
  intro u11 e11
  refine HL.nil ?_
  rw [bcom1] at S11 T11 e11
  have T11 : BatO (fun j => stamp o10 h54.size 1 j = 2) h56 t s := by
    rcases T11 with ⟨_, q⟩ | ⟨q, _⟩
    · exact q
    · cases q
  have U11 := U10.st (x := 1) E11.size (E11.kp2 (by decide) (by decide))
  obtain ⟨kd11, ok11⟩ := obj_st (x := 1) kd10 ok10 E11.size (E11.kp2 (by decide) (by decide))
  obtain ⟨b11, bo11⟩ := byt_st (x := 1) b10 bo10 E11.size (E11.kp2 (by decide) (by decide))
  have L11 := stamp_low (x := 1) L10 (by have := XA.size; omega : N ≤ h54.size)
  have XA := only_st L10 hs0 XA E11.size (E11.kp2 (by decide) (by decide))
  obtain ⟨o11, ho11⟩ : ∃ o11, o11 = stamp o10 h54.size 1 := ⟨_, rfl⟩
  rw [← ho11] at S11 T11 U11 L11 ok11 bo11
  have d11 : u11 = I64 0 := e11
  clear S10 T10 U10 kd10 ok10 b10 bo10 L10 ho11 E11 e11
  -- c.Commit()
  -- region 14
  repeat refine HW.seq ?_
  refine HW.region ?_
  refine HL.still (Runs.move e3) ?_
  intro u57 e57
  refine HL.one (HO.call Try.func39 bd39 nm39 (args1 e57) rfl ((commit_own (own := o11) (x := 1) (y := 3) h56 t' bm' oa10 s N 4 M3 M1 (by decide) U11 S11 (by decide) (by decide) (by decide) (by decide) (by decide) (by intro p hp; rw [List.mem_singleton.1 hp]; decide)).mono ?_))
  rintro _ h58 ⟨rfl, _, U12, _⟩
  intro u58 e58
  refine HL.still (Runs.assign e58) ?_
  intro u12 e12
  refine HL.nil ?_
  rw [bcom2] at U12 e12
  have Y12 : Ext h56 h58 := by
    rcases U12 with ⟨q, _⟩ | ⟨_, _, q⟩
    · cases q
    · exact q
  have S12 := S11.ext Y12
  have T12 := T11.ext Y12
  have U12 := U11.ext Y12
  have kd12 := Y12.keepE kd11
  have b12 := b11.ext Y12
  have bo12 : ∀ sb so, a8 = some ⟨sb, so, none⟩ → sb < h58.size ∧ o11 sb = 0 := fun sb so q => ⟨Nat.lt_of_lt_of_le (bo11 sb so q).1 Y12.size, (bo11 sb so q).2⟩
  have XA := XA.ext Y12 (Nat.le_refl _)
  have d12 : u12 = I64 2 := e12
  clear S11 T11 U11 kd11 b11 bo11 Y12 e12
  -- b.Put(nil)
  -- region 15
  repeat refine HW.seq ?_
  refine HW.region ?_
  refine HL.still (Runs.move e2) ?_
  intro u60 e60
  refine HL.one (HO.call Try.func37 bd37 nm37 (args2 e60 rfl) rfl ((putBOv_ch h58 t s none 0 0 T12).mono ?_))
  rintro _ h61 ⟨rfl, Y13⟩
  intro u61 e61
  refine HL.still (Runs.move e61) ?_
  intro u59 e59
  refine HL.still (Runs.extr e59 rfl) ?_
  intro u62 e62
  refine HL.still (Runs.extr e59 rfl) ?_
  intro u63 e63
  refine HL.one (HO.alloc zr31 ?_)
  intro hi wi
  intro u13 e13
  refine HL.zero (HO.storeAll sz31 e13 e62 (encD_one zD) wi.new (encD_len _) (by simp) ?_)
  intro h13 wj
  refine HL.still (Runs.assign e63) ?_
  intro u14 e14
  refine HL.nil ?_
  have Y13 : Ext h58 h13 := Y13.ext (wi.ext.wr wj (Nat.le_refl _)) (Nat.le_refl _)
  have d14 : u14 = I64 11 := e14
  -- c.Staged()
  -- region 16
  repeat refine HW.seq ?_
  refine HW.region ?_
  refine HL.still (Runs.move e3) ?_
  intro u64 e64
  refine HL.one (HO.call Try.func44 bd44 nm44 (args1 e64) rfl ((staged_ch h13 t' bm' oa10 s M3 (U12.ext Y13) (by decide)).mono ?_))
  rintro _ h14 ⟨a14, c14, rfl, D14, Y14⟩
  intro u65 e65
  refine HL.still (Runs.assign e65) ?_
  intro u15 e15
  refine HL.nil ?_
  have Y14 := Y13.ext Y14 (Nat.le_refl _)
  have d15 : u15 = .slice a14 1 c14 := e15
  have S14 := S12.ext Y14
  have T14 := T12.ext Y14
  have U14 := U12.ext Y14
  have kd14 := Y14.keepE kd12
  have b14 := b12.ext Y14
  have bo14 : ∀ sb so, a8 = some ⟨sb, so, none⟩ → sb < h14.size ∧ o11 sb = 0 := fun sb so q => ⟨Nat.lt_of_lt_of_le (bo12 sb so q).1 Y14.size, (bo12 sb so q).2⟩
  have XA := XA.ext Y14 (Nat.le_refl _)
  clear S12 T12 U12 kd12 b12 bo12 Y13 Y14 e14 e15 D14
  -- c.Discard()
  obtain ⟨_, oc14, _, htc, _, _, ⟨_, hot, _⟩, _⟩ := U14
  -- region 17
  repeat refine HW.seq ?_
  refine HW.region ?_
  refine HL.still (Runs.move e3) ?_
  intro u66 e66
  refine HL.one (HO.call Try.func41 bd41 nm41 (args1 e66) rfl ((discard_ch h14 t' s (some bm') oa10 _ oc14 _ false htc).mono ?_))
  rintro _ h15 ⟨rfl, w15⟩
  intro u67 e67
  refine HL.nil ?_
  have E15 : ExF (fun j => o11 j = 3) h14 h15 := ⟨by rw [w15.size]; exact Nat.le_refl _, fun j _ hn => w15.old j fun e => hn (e ▸ hot)⟩
  have U15 : BatO (fun _ => True) h15 t' s := ⟨w15.new, trivial⟩
  have S15 := S14.other E15 (by decide)
  have T15 := T14.other E15 (by decide)
  obtain ⟨kd15, _⟩ := obj_other kd14 ok11 E15 (by decide)
  obtain ⟨b15, _⟩ := byt_st (x := 3) b14 bo14 E15.size (E15.kp (by decide))
  have XA := E15.only L11 (by decide) hs0 XA
  clear S14 T14 kd14 b14 bo14 L11 ok11 htc hot w15 E15
  have hlk : lookM M1 (shaD xab) = some xab := by rw [look1, beq_self_eq_true]; rfl
  -- region 18
  repeat refine HW.seq ?_
  refine HW.region ?_
  refine HL.still (Runs.move d5) ?_
  intro u68 e68
  refine HL.still (Runs.eql e68 rfl (t := true) rfl) ?_
  intro u69 e69
  refine HL.still (Runs.move e69) ?_
  intro u70 e70
  refine HL.stillG rfl rfl e70 (Runs.move d7) ?_
  intro u71 e71
  refine HL.stillG rfl rfl e70 (Runs.eql e71 rfl (t := true) rfl) ?_
  intro u72 e72
  refine HL.still (Runs.pick e70 e72) ?_
  intro u73 e73
  refine HL.still (Runs.move e73) ?_
  intro u74 e74
  refine HL.stillG rfl rfl e74 (Runs.move d8) ?_
  intro u75 e75
  refine HL.stillG rfl rfl e74 (Runs.toStrB Try.underlying29 Try.underlying5 Try.underlying9 e75 rfl b15) ?_
  intro u76 e76
  refine HL.stillG rfl rfl e74 (Runs.eqS e76 rfl (t := true) rfl) ?_
  intro u77 e77
  refine HL.still (Runs.pick e74 e77) ?_
  intro u78 e78
  refine HL.still (Runs.move e78) ?_
  intro u79 e79
  refine HL.stillG rfl rfl e79 (Runs.move d9) ?_
  intro u80 e80
  refine HL.still (Runs.pick e79 e80) ?_
  intro u81 e81
  refine HL.still (Runs.move e81) ?_
  intro u82 e82
  refine HL.stillG rfl rfl e82 (Runs.move d10) ?_
  intro u83 e83
  refine HL.stillG rfl rfl e82 (Runs.eql e83 rfl (t := true) rfl) ?_
  intro u84 e84
  refine HL.still (Runs.pick e82 e84) ?_
  intro u85 e85
  refine HL.still (Runs.move e85) ?_
  intro u86 e86
  refine HL.stillG rfl rfl e86 (Runs.move d11) ?_
  intro u87 e87
  refine HL.stillG rfl rfl e86 (Runs.eql e87 rfl (t := true) rfl) ?_
  intro u88 e88
  refine HL.still (Runs.pick e86 e88) ?_
  intro u89 e89
  refine HL.still (Runs.move e89) ?_
  intro u90 e90
  refine HL.stillG rfl rfl e90 (Runs.move d12) ?_
  intro u91 e91
  refine HL.stillG rfl rfl e90 (Runs.eql e91 rfl (t := true) rfl) ?_
  intro u92 e92
  refine HL.still (Runs.pick e90 e92) ?_
  intro u93 e93
  refine HL.still (Runs.move e93) ?_
  intro u94 e94
  refine HL.stillG rfl rfl e94 (Runs.move d14) ?_
  intro u95 e95
  refine HL.stillG rfl rfl e94 (Runs.eql e95 rfl (t := true) rfl) ?_
  intro u96 e96
  refine HL.still (Runs.pick e94 e96) ?_
  intro u97 e97
  refine HL.still (Runs.move e97) ?_
  intro u98 e98
  refine HL.stillG rfl rfl e98 (Runs.move d15) ?_
  intro u99 e99
  refine HL.stillG rfl rfl e98 (Runs.lenSl rfl Try.underlying41 e99) ?_
  intro u100 e100
  refine HL.stillG rfl rfl e98 (Runs.eql e100 rfl (t := true) rfl) ?_
  intro u101 e101
  refine HL.still (Runs.pick e98 e101) ?_
  intro u102 e102
  refine HL.still (Runs.move e102) ?_
  intro u103 e103
  refine HL.stillG rfl rfl e103 (Runs.move e1) ?_
  intro u104 e104
  refine HL.oneG rfl rfl e103 (HO.call Try.func26 bd26 nm26 (args1 e104) rfl ((usedX_ch h15 s N 4 M1 2 S15 rfl).mono ?_))
  rintro _ h16 ⟨rfl, Y16⟩
  intro u105 e105
  refine HL.stillG rfl rfl e103 (Runs.eql e105 rfl (t := true) rfl) ?_
  intro u106 e106
  refine HL.still (Runs.pick e103 e106) ?_
  intro u107 e107
  refine HL.still (Runs.move e107) ?_
  intro u108 e108
  refine HL.stillG rfl rfl e108 (Runs.move e1) ?_
  intro u109 e109
  refine HL.stillG rfl rfl e108 (Runs.loadAgg Try.underlying31 rfl sz31 d4 (encD_len (shaD xab)) (load_blk (Y16.keepE kd15))) ?_
  intro u110 e110
  refine HL.oneG rfl rfl e108 (HO.call Try.func23 bd23 nm23 (args2 e109 e110) rfl ((hasX_ch h16 s N 4 M1 (shaD xab) true (S15.ext Y16) (by rw [hlk]; rfl)).mono ?_))
  rintro _ h17 ⟨rfl, Y17⟩
  intro u111 e111
  refine HL.still (Runs.pick e108 e111) ?_
  intro u112 e112
  refine HL.still (Runs.move e112) ?_
  intro u113 e113
  refine HL.stillG rfl rfl e113 (Runs.move e2) ?_
  intro u114 e114
  refine HL.oneG rfl rfl e113 (HO.call Try.func39 bd39 nm39 (args1 e114) rfl ((commitO_ch h17 t s ((T15.ext Y16).ext Y17)).mono ?_))
  rintro _ h18 ⟨rfl, Y18⟩
  intro u115 e115
  refine HL.stillG rfl rfl e113 (Runs.eql e115 rfl (t := true) rfl) ?_
  intro u116 e116
  refine HL.still (Runs.pick e113 e116) ?_
  intro u117 e117
  refine HL.still (Runs.move e117) ?_
  intro u118 e118
  refine HL.stillG rfl rfl e118 (Runs.move e2) ?_
  intro u119 e119
  refine HL.oneG rfl rfl e118 (HO.call Try.func44 bd44 nm44 (args1 e119) rfl ((stagedO_ch h18 t s (((T15.ext Y16).ext Y17).ext Y18)).mono ?_))
  rintro _ h19 ⟨_, _, rfl, _, Y19⟩
  intro u120 e120
  refine HL.stillG rfl rfl e118 (Runs.lenSl rfl Try.underlying41 e120) ?_
  intro u121 e121
  refine HL.stillG rfl rfl e118 (Runs.eql e121 rfl (t := true) rfl) ?_
  intro u122 e122
  refine HL.still (Runs.pick e118 e122) ?_
  intro u123 e123
  refine HL.still (Runs.move e123) ?_
  intro u124 e124
  refine HL.stillG rfl rfl e124 (Runs.move e3) ?_
  intro u125 e125
  refine HL.oneG rfl rfl e124 (HO.call Try.func44 bd44 nm44 (args1 e125) rfl ((stagedO_ch h19 t' s ((((U15.ext Y16).ext Y17).ext Y18).ext Y19)).mono ?_))
  rintro _ h20 ⟨_, _, rfl, _, Y20⟩
  intro u126 e126
  refine HL.stillG rfl rfl e124 (Runs.lenSl rfl Try.underlying41 e126) ?_
  intro u127 e127
  refine HL.stillG rfl rfl e124 (Runs.eql e127 rfl (t := true) rfl) ?_
  intro u128 e128
  refine HL.still (Runs.pick e124 e128) ?_
  intro u129 e129
  refine HL.still (Runs.assign e129) ?_
  intro u0 e0
  refine HL.nil ?_
  refine HW.ret ?_
  exact RT.one rfl e0 ⟨rfl, ((((XA.ext Y16 (Nat.le_refl _)).ext Y17 (Nat.le_refl _)).ext Y18 (Nat.le_refl _)).ext Y19 (Nat.le_refl _)).ext Y20 (Nat.le_refl _)⟩
end Go.Proofs.Ytklelhfgbjpifaa
/-! Batches, plainly: what is staged. -/
namespace Go.Proofs.Ytklelhfgbjpifaa
set_option linter.unnecessarySimpa false
set_option linter.unusedSimpArgs false
set_option linter.unusedVariables false
open Go.RowKit
/-- Blobs that may be staged: k at most, none above n bytes. -/
structure Stg (W : Blobs) (k n : Nat) : Prop where
  len : W.length ≤ k
  nodup : (W.map (·.1)).Nodup
  small : ∀ p ∈ W, p.2.length ≤ n
  own : ∀ p ∈ W, p.1 = shaD p.2
theorem Stg.nil (n : Nat) : Stg [] 0 n := ⟨Nat.le_refl _, List.nodup_nil, fun _ h => (by cases h), fun _ h => (by cases h)⟩
theorem tot_le_mul {W : Blobs} {n : Nat} (h : ∀ p ∈ W, p.2.length ≤ n) : tot W ≤ W.length * n := by
  induction W with
  | nil => exact Nat.zero_le _
  | cons p W ih =>
    have h1 := h p (List.mem_cons_self ..)
    have h2 := ih fun q hq => h q (List.mem_cons_of_mem _ hq)
    rw [tot, List.length_cons, Nat.succ_mul]
    omega
theorem Stg.tot {W : Blobs} {k n : Nat} (h : Stg W k n) : tot W ≤ k * n := Nat.le_trans (tot_le_mul h.small) (Nat.mul_le_mul_right n h.len)
theorem putB_cases {room : Int} {W W' M : Blobs} {xs : List UInt8} {d : Dg} {e : Int} (hp : putBO room W M xs = (W', d, e)) :
    (((lookM W (shaD xs)).isSome = true ∨ (lookM M (shaD xs)).isSome = true) ∧ W' = W ∧ d = shaD xs ∧ e = 0) ∨
    ((lookM W (shaD xs)).isSome = false ∧ (lookM M (shaD xs)).isSome = false ∧ (xs.length : Int) > room - Go.Proofs.Ytklelhfgbjpifaa.tot M - Go.Proofs.Ytklelhfgbjpifaa.tot W ∧ W' = W ∧ d = zD ∧ e = 2) ∨
    ((lookM W (shaD xs)).isSome = false ∧ (lookM M (shaD xs)).isSome = false ∧ (xs.length : Int) ≤ room - Go.Proofs.Ytklelhfgbjpifaa.tot M - Go.Proofs.Ytklelhfgbjpifaa.tot W ∧ W' = W ++ [(shaD xs, xs)] ∧ d = shaD xs ∧ e = 0) := by
  unfold putBO at hp
  split at hp
  · rename_i h1
    cases hp
    exact .inl ⟨by simpa using h1, rfl, rfl, rfl⟩
  · rename_i h1
    have h2 : (lookM W (shaD xs)).isSome = false ∧ (lookM M (shaD xs)).isSome = false := by
      revert h1
      cases (lookM W (shaD xs)).isSome <;> cases (lookM M (shaD xs)).isSome <;> simp
    split at hp
    · rename_i h3
      cases hp
      exact .inr (.inl ⟨h2.1, h2.2, h3, rfl, rfl, rfl⟩)
    · rename_i h3
      cases hp
      exact .inr (.inr ⟨h2.1, h2.2, by omega, rfl, rfl, rfl⟩)
theorem lookM_isNone {M : Blobs} {x : Dg} (h : (lookM M x).isSome = false) : x ∉ M.map (·.1) := fun q => by rw [lookM_mem q] at h; cases h
theorem Stg.put {room : Int} {W W' M : Blobs} {xs : List UInt8} {d : Dg} {e : Int} {k n : Nat} (h : Stg W k n) (hx : xs.length ≤ n) (hp : putBO room W M xs = (W', d, e)) : Stg W' (k + 1) n := by
  rcases putB_cases hp with ⟨_, rfl, _⟩ | ⟨_, _, _, rfl, _⟩ | ⟨h1, _, _, rfl, _⟩
  · exact ⟨by have := h.len; omega, h.nodup, h.small, h.own⟩
  · exact ⟨by have := h.len; omega, h.nodup, h.small, h.own⟩
  · refine ⟨by have := h.len; rw [List.length_append, List.length_singleton]; omega, ?_, ?_, ?_⟩
    · rw [List.map_append, List.nodup_append]
      refine ⟨h.nodup, by simp, ?_⟩
      intro a ha c hc e
      have : c = shaD xs := by simpa using hc
      exact lookM_isNone h1 (by rw [← this, ← e]; exact ha)
    · intro p hp
      rcases List.mem_append.1 hp with q | q
      · exact h.small p q
      · rw [List.mem_singleton.1 q]; exact hx
    · intro p hp
      rcases List.mem_append.1 hp with q | q
      · exact h.own p q
      · rw [List.mem_singleton.1 q]
theorem putB_fits {room : Int} {W W' M : Blobs} {xs : List UInt8} {d : Dg} {e : Int} (h : (tot W : Int) ≤ room - tot M) (hp : putBO room W M xs = (W', d, e)) : (tot W' : Int) ≤ room - tot M := by
  rcases putB_cases hp with ⟨_, rfl, _⟩ | ⟨_, _, _, rfl, _⟩ | ⟨_, _, h3, rfl, _⟩
  · exact h
  · exact h
  · rw [tot_append]
    simp only [tot]
    omega
theorem Good.all {room : Int} (W : Blobs) : ∀ {M : Blobs} {k : Nat}, Good room M k → Good room (putAll room M W) (k + W.length) := by
  induction W with
  | nil => intro M k h; exact h
  | cons p W ih =>
    intro M k h
    have := ih (h.put p.2)
    rw [List.length_cons, Nat.add_comm W.length 1, ← Nat.add_assoc]
    exact this
theorem commit_fits {room : Int} {W M : Blobs} (h : (tot W : Int) ≤ room - tot M) : commitO room W M = (putAll room M W, 0) := by
  unfold commitO
  rw [if_neg]
  have := need_le M W
  omega
theorem keys_same {room : Int} {M : Blobs} {k : Nat} (h : Good room M k) {ks ks' : List Dg} (p : ks.Perm (M.map (·.1))) (s : ks.Pairwise (fun x y => lessL y.1 x.1 = false)) (p' : ks'.Perm (M.map (·.1))) (s' : ks'.Pairwise (fun x y => lessL y.1 x.1 = false)) : ks = ks' :=
  rises_unique (keys_rise h p s) (keys_rise h p' s') (p.trans p'.symm)
theorem keysT_ch (h : Heap) (A B : List Dg) (a b : Option Addr) (n m c d : Nat) (hn : n = A.length) (hm : m = B.length) (hA : Dgs h a A) (hB : Dgs h b B) (hlA : A.length ≤ 1000000) (hlB : B.length ≤ 1000000) (hAB : A = B) :
    CH Try.prog 30 #[.slice a n c, .slice b m d] h fun v h' => v = .bool true ∧ Ext h h' :=
  (keys_ch h A B a b n m c d hn hm hA hB hlA hlB).mono fun _ _ q => ⟨q.1.trans (by rw [hAB]; simp), q.2 ▸ Bel.refl _ _⟩
theorem commit0_own {own : Nat → Nat} {x y : Nat} (h : Heap) (t bm : Nat) (oa : Option Addr) (s b : Nat) (room : Int) (W M : Blobs) (hfit : (tot W : Int) ≤ room - tot M) (hxy : y ≠ x) (hT : Bat (fun j => own j = y) h t bm oa s W) (hS : Sto (fun j => own j = x) h s b room M) (hr : room ≤ 1073741824) (hr0 : 0 ≤ room) (htM : (tot M : Int) ≤ room) (htW : tot W ≤ 1000000000) (hlW : W.length ≤ 1000000) (hpW : ∀ p ∈ W, p.2.length ≤ 100000) :
    CH Try.prog 39 #[.pointer (some ⟨t, 0, none⟩)] h fun v h' => v = I64 0 ∧ Sto (fun j => stamp own h.size x j = x) h' s b room (putAll room M W) ∧ BatO (fun j => stamp own h.size x j = y) h' t s ∧ ExF (fun j => own j = x ∨ own j = y) h h' := by
  have := commit_own h t bm oa s b room W M hxy hT hS hr hr0 htM htW hlW hpW
  rw [commit_fits hfit] at this
  refine this.mono fun v h' ⟨q1, q2, q3, q4⟩ => ⟨q1, q2, ?_, q4⟩
  rcases q3 with ⟨_, q⟩ | ⟨q, _⟩
  · exact q
  · cases q
theorem putAll_fresh {room : Int} (W : Blobs) : ∀ {M : Blobs}, (∀ p ∈ W, p.1 = shaD p.2) → (W.map (·.1)).Nodup → (∀ p ∈ W, p.1 ∉ M.map (·.1)) → (tot W : Int) ≤ room - tot M → putAll room M W = M ++ W := by
  induction W with
  | nil => intro M _ _ _ _; simp [putAll]
  | cons p W ih =>
    intro M h1 h2 h3 h4
    have hp := h1 p (List.mem_cons_self ..)
    have hn : (lookM M (shaD p.2)).isSome = false := by
      rw [← hp]
      cases hq : (lookM M p.1).isSome with
      | false => rfl
      | true => exact absurd ((lookM_isSome M p.1).1 hq) (h3 p (List.mem_cons_self ..))
    rw [tot] at h4
    have e1 : (putO room M p.2).1 = M ++ [p] := by
      unfold putO
      rw [hn, if_neg (by decide), if_neg (by omega), ← hp]
    rw [List.map_cons, List.nodup_cons] at h2
    show putAll room (putO room M p.2).1 W = M ++ p :: W
    rw [e1, ih (fun q hq => h1 q (List.mem_cons_of_mem _ hq)) h2.2 (fun q hq => ?_) (by rw [tot_append]; simp only [tot]; omega)]
    · simp
    · rw [List.map_append, List.mem_append]
      rintro (r | r)
      · exact h3 q (List.mem_cons_of_mem _ hq) r
      · have : q.1 = p.1 := by simpa using r
        exact h2.1 (by rw [← this]; exact List.mem_map.2 ⟨q, hq, rfl⟩)
theorem both_put {room : Int} {W : Blobs} {xs : List UInt8} (h : (tot W : Int) + xs.length ≤ room) : ∃ W', putBO room W [] xs = (W', shaD xs, 0) ∧ putO room W xs = (W', shaD xs, 0) := by
  cases hq : (lookM W (shaD xs)).isSome with
  | true =>
    refine ⟨W, ?_, ?_⟩
    · unfold putBO; rw [hq]; rfl
    · unfold putO; rw [hq]; rfl
  | false =>
    refine ⟨W ++ [(shaD xs, xs)], ?_, ?_⟩
    · have e : (lookM [] (shaD xs)).isSome = false := rfl
      have e2 : tot [] = 0 := rfl
      unfold putBO
      rw [hq, e, if_neg (by decide), if_neg (by rw [e2]; omega)]
    · unfold putO
      rw [hq, if_neg (by decide), if_neg (by omega)]
theorem need_more (M : Blobs) (p : Dg × List UInt8) (W : Blobs) : needO (M ++ [p]) W ≤ needO M W := by
  induction W with
  | nil => exact Nat.le_refl _
  | cons q W ih =>
    have e : ∀ M : Blobs, needO M (q :: W) = (if (lookM M q.1).isSome = true then 0 else q.2.length) + needO M W := fun M => by simp [needO]
    rw [e, e]
    have : (lookM M q.1).isSome = true → (lookM (M ++ [p]) q.1).isSome = true := fun h => by
      rw [lookM_isSome] at h ⊢
      rw [List.map_append, List.mem_append]
      exact .inl h
    by_cases h1 : (lookM M q.1).isSome = true
    · rw [if_pos h1, if_pos (this h1)]
      omega
    · rw [if_neg h1]
      split <;> omega
theorem putO_keeps {room : Int} {M : Blobs} {xs : List UInt8} {x : Dg} (h : x ∈ M.map (·.1)) : x ∈ (putO room M xs).1.map (·.1) := by
  unfold putO
  split
  · exact h
  · split
    · exact h
    · rw [List.map_append]; exact List.mem_append_left _ h
theorem putAll_keeps {room : Int} (W : Blobs) : ∀ {M : Blobs} {x : Dg}, x ∈ M.map (·.1) → x ∈ (putAll room M W).map (·.1) := by
  induction W with
  | nil => intro M x h; exact h
  | cons p W ih => intro M x h; exact ih (putO_keeps h)
/-- What is staged is all in the store behind a Commit. -/
theorem putAll_has {room : Int} (W : Blobs) : ∀ {M : Blobs}, (∀ p ∈ W, p.1 = shaD p.2) → (needO M W : Int) ≤ room - tot M → ∀ p ∈ W, p.1 ∈ (putAll room M W).map (·.1) := by
  induction W with
  | nil => intro M _ _ p hp; cases hp
  | cons q W ih =>
    intro M h1 h2 p hp
    have hq := h1 q (List.mem_cons_self ..)
    have e : needO M (q :: W) = (if (lookM M q.1).isSome = true then 0 else q.2.length) + needO M W := by simp [needO]
    rw [e] at h2
    have h3 : q.1 ∈ (putO room M q.2).1.map (·.1) ∧ (needO (putO room M q.2).1 W : Int) ≤ room - tot (putO room M q.2).1 := by
      cases hl : (lookM M q.1).isSome with
      | true =>
        have : (putO room M q.2).1 = M := by unfold putO; rw [← hq, hl]; rfl
        rw [this]
        rw [hl, if_pos rfl] at h2
        exact ⟨(lookM_isSome M q.1).1 hl, by omega⟩
      | false =>
        rw [hl, if_neg (by decide)] at h2
        have : (putO room M q.2).1 = M ++ [(q.1, q.2)] := by
          unfold putO
          rw [← hq, hl, if_neg (by decide), if_neg (by omega)]
        rw [this]
        have := need_more M (q.1, q.2) W
        refine ⟨by simp, ?_⟩
        rw [tot_append]
        simp only [tot]
        omega
    rcases List.mem_cons.1 hp with e | e
    · rw [e]
      exact putAll_keeps W h3.1
    · exact ih (fun r hr => h1 r (List.mem_cons_of_mem _ hr)) h3.2 p e
theorem Ds.lie {h : Heap} {base : Nat} {a : Option Addr} {cap : Nat} {l : List Dg} (x : Ds h base a cap l) : ∀ sb so, a = some ⟨sb, so, none⟩ → base ≤ sb ∧ sb < h.size := fun sb so e => by
  rcases x.blk with ⟨q, _⟩ | ⟨g, q, q1, q2⟩
  · rw [q] at e; cases e
  · rw [q] at e
    cases e
    exact ⟨q1, q2⟩
end Go.Proofs.Ytklelhfgbjpifaa
