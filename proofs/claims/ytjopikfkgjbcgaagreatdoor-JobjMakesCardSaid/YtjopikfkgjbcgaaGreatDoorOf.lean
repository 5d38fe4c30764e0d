/- Frames, a row of them: json.Right's stack, as the heap has it; is one of them still open. -/
import Derived.Test.YtjopikfkgjbcgaaGreatDoorOd
namespace Go.Proofs.YtjopikfkgjbcgaaGreatDoor
set_option linter.unnecessarySimpa false
set_option linter.unusedSimpArgs false
set_option linter.unusedVariables false
open Go.RowKit
/-- A frame and its map. -/
abbrev FrM := Fr × Option Nat
def encF (p : FrM) : List Value := [.bool p.1.1, I64 (p.1.2.1 : Nat), .map p.2]
theorem encF_one (x : FrM) : ∀ v ∈ encF x, v.oneCell' = true := by
  intro v hv
  simp only [encF, List.mem_cons, List.not_mem_nil, or_false] at hv
  rcases hv with rfl | rfl | rfl <;> rfl
theorem in73 : (Tryz.prog.info? 73).map (fun i => (i.zero, i.size, i.bytes)) = some (some (.agg #[.bool false, I64 0, .map none]), 3, 24) := by kernel_rfl
def flF (l : List FrM) : List Value := l.flatMap encF
theorem flF_append (l m : List FrM) : flF (l ++ m) = flF l ++ flF m := by unfold flF; rw [List.flatMap_append]
theorem flF_one1 (p : FrM) : flF [p] = encF p := by simp [flF]
theorem flF_len (l : List FrM) : (flF l).length = l.length * 3 := by
  induction l with
  | nil => rfl
  | cons x l ih =>
    unfold flF at *
    rw [List.flatMap_cons, List.length_append, ih, List.length_cons]
    show 3 + _ = _
    omega
theorem flF_ones (l : List FrM) : ∀ v ∈ flF l, v.oneCell' = true := fun v hv => by
  obtain ⟨x, _, hx⟩ := List.mem_flatMap.1 hv
  exact encF_one x v hx
theorem flF_at (T R : List FrM) (p : FrM) (i : Nat) {v : Value} (hv : (encF p)[i]? = some v) : (flF (T ++ p :: R))[T.length * 3 + i]? = some v := by
  have hi : i < 3 := by have := (List.getElem?_eq_some_iff.1 hv).1; exact this
  rw [show T ++ p :: R = T ++ ([p] ++ R) by simp, flF_append, List.getElem?_append_right (by rw [flF_len]; omega), flF_len, flF_append, List.getElem?_append_left (by rw [flF_len]; simp; omega), flF_one1]
  rw [show T.length * 3 + i - T.length * 3 = i by omega]
  exact hv
/-- A slice of frames that is owned. -/
def Fs (h : Heap) (base : Nat) (a : Option Addr) (cap : Nat) (l : List FrM) : Prop := Own h base 73 3 (.slice a l.length cap) l.length (flF l) ∧ l.length ≤ cap
theorem Fs.blkAt {h : Heap} {base : Nat} {a : Option Addr} {cap : Nat} {l : List FrM} (x : Fs h base a cap l) (hl : l ≠ []) : ∃ g, ∃ cur : List Value, a = some ⟨g, 0, none⟩ ∧ base ≤ g ∧ h[g]? = some (.cells cur.toArray 73 (0, 0)) ∧ cur.length = cap * 3 ∧ cur.take (l.length * 3) = flF l ∧ cap ≤ maxLen := by
  rcases x.1.2 with ⟨h1, h2⟩ | ⟨g', cap', cur, h1, hb, hg, hn, hc, hs, ht⟩
  · exact absurd (List.length_eq_zero_iff.1 h2) hl
  · obtain ⟨e1, _, rfl⟩ := slice_inj h1
    exact ⟨g', cur.toList, e1, hb, hg, by simpa using hs, by simpa using ht, hc⟩
theorem Fs.of_blk {h : Heap} {base : Nat} {g : Nat} {cap : Nat} {l : List FrM} {cur : List Value} (hb : h[g]? = some (.cells cur.toArray 73 (0, 0))) (hl : cur.length = cap * 3) (ht : cur.take (l.length * 3) = flF l) (hg : base ≤ g) (hn : l.length ≤ cap) (hc : cap ≤ maxLen) : Fs h base (some ⟨g, 0, none⟩) cap l :=
  ⟨⟨flF_len l, .inr ⟨g, cap, cur.toArray, rfl, hg, hb, hn, hc, by simpa using hl, by simpa using ht⟩⟩, hn⟩
theorem Fs.lit {h h' : Heap} {base : Nat} {l : List FrM} (k : Nw h h' (.cells (flF l).toArray 73 (0, 0))) (hb : base ≤ h.size) (hl : l.length ≤ maxLen) : Fs h' base (some ⟨h.size, 0, none⟩) l.length l :=
  Fs.of_blk k.new (flF_len l) (by rw [List.take_of_length_le (by rw [flF_len]; omega)]) hb (Nat.le_refl _) hl
theorem Fs.ext {h h' : Heap} {base : Nat} {a : Option Addr} {cap : Nat} {l : List FrM} (x : Fs h base a cap l) (k : Ext h h') : Fs h' base a cap l := ⟨x.1.bel k, x.2⟩
theorem Fs.cellIn {h : Heap} {base : Nat} {a : Option Addr} {cap : Nat} {T R : List FrM} {p : FrM} (x : Fs h base a cap (T ++ p :: R)) : ∃ g, a = some ⟨g, 0, none⟩ ∧ ∀ i v, (encF p)[i]? = some v → cellH h g (T.length * 3 + i) = some v := by
  obtain ⟨g, cur, rfl, _, hb, hl, ht, _⟩ := x.blkAt (by simp)
  refine ⟨g, rfl, fun i v hv => ?_⟩
  rw [cellH_of hb]
  have h1 := flF_at T R p i hv
  rw [← ht, List.getElem?_take] at h1
  split at h1
  · simpa using h1
  · cases h1
theorem Fs.pop {h : Heap} {base : Nat} {a : Option Addr} {cap : Nat} {T : List FrM} {p : FrM} (x : Fs h base a cap (T ++ [p])) : Fs h base a cap T := by
  obtain ⟨g, cur, rfl, hg, hb, hl, ht, hc⟩ := x.blkAt (by simp)
  have hn := x.2
  rw [List.length_append] at hn ht
  refine Fs.of_blk hb hl ?_ hg (by omega) hc
  have h1 := congrArg (List.take (T.length * 3)) ht
  rw [List.take_take, Nat.min_eq_left (by omega), flF_append, List.take_append_of_le_length (by rw [flF_len]; omega)] at h1
  rw [h1, List.take_of_length_le (by rw [flF_len]; omega)]
theorem Fs.set {h h' : Heap} {base g cap : Nat} {T : List FrM} {p : FrM} {n : Nat} {cur : List Value} (x : Fs h base (some ⟨g, 0, none⟩) cap (T ++ [p])) (hb : h[g]? = some (.cells cur.toArray 73 (0, 0))) (w : Wr h h' g (.cells (cur.set (T.length * 3 + 1) (I64 (n : Nat))).toArray 73 (0, 0))) : Fs h' base (some ⟨g, 0, none⟩) cap (T ++ [((p.1.1, n, p.1.2.2), p.2)]) := by
  obtain ⟨g', cur', e, hg, hb', hl, ht, hc⟩ := x.blkAt (by simp)
  cases e
  rw [hb] at hb'
  have e1 : cur = cur' := by
    have := Option.some.inj hb'
    injection this with q
    have := congrArg Array.toList q
    simpa using this
  subst e1
  refine Fs.of_blk w.new (by rw [List.length_set]; exact hl) ?_ hg (by simpa using x.2) hc
  have e2 : (T ++ [((p.1.1, n, p.1.2.2), p.2)]).length = (T ++ [p]).length := by simp
  rw [e2, List.take_set, ht, flF_append, flF_append, List.set_append_right _ _ (by rw [flF_len]; omega), flF_len, flF_one1, flF_one1]
  rw [show T.length * 3 + 1 - T.length * 3 = 1 by omega]
  rfl
def cnt (ns : List (List UInt8)) : List UInt8 → Int := fun s => if ns.contains s = true then 1 else 0
theorem cnt_nil : cnt [] = fun _ => 0 := rfl
theorem cnt_cons (ns : List (List UInt8)) (q : List UInt8) : (fun s => if s = q then (1 : Int) else cnt ns s) = cnt (q :: ns) := by
  funext s
  unfold cnt
  by_cases h : s = q
  · rw [if_pos h, if_pos (by simp [h])]
  · rw [if_neg h]
    by_cases h2 : ns.contains s = true
    · rw [if_pos h2, if_pos (by rw [List.contains_cons, h2]; simp)]
    · rw [if_neg h2, if_neg (by rw [List.contains_cons]; simp at h2; simp [h, h2])]
/-- A frame's map is its own. -/
def FrOk (h : Heap) (base : Nat) (p : FrM) : Prop := match p.2 with | none => p.1.1 = false | some b => base ≤ b ∧ MpS h b (cnt p.1.2.2)
structure Stk (h : Heap) (base : Nat) (a : Option Addr) (cap : Nat) (S : List FrM) : Prop where
  fs : Fs h base a cap S
  ok : ∀ p ∈ S, FrOk h base p
  dis : (S.filterMap (·.2)).Nodup
theorem FrOk.keep {h h' : Heap} {base : Nat} {p : FrM} (x : FrOk h base p) (k : ∀ b, p.2 = some b → h'[b]? = h[b]?) : FrOk h' base p := by
  unfold FrOk at *
  cases hb : p.2 with
  | none => rw [hb] at x; exact x
  | some b => rw [hb] at x; exact ⟨x.1, x.2.keep (k b hb)⟩
theorem FrOk.lt {h : Heap} {base : Nat} {p : FrM} (x : FrOk h base p) {b : Nat} (hb : p.2 = some b) : base ≤ b ∧ b < h.size ∧ MpS h b (cnt p.1.2.2) := by
  unfold FrOk at x
  rw [hb] at x
  exact ⟨x.1, x.2.lt, x.2⟩
theorem Stk.ext {h h' : Heap} {base : Nat} {a : Option Addr} {cap : Nat} {S : List FrM} (x : Stk h base a cap S) (k : Ext h h') : Stk h' base a cap S :=
  ⟨x.fs.ext k, fun p hp => (x.ok p hp).keep fun b hb => k.old b ((x.ok p hp).lt hb).2.1, x.dis⟩
theorem Stk.pop {h : Heap} {base : Nat} {a : Option Addr} {cap : Nat} {T : List FrM} {p : FrM} (x : Stk h base a cap (T ++ [p])) : Stk h base a cap T :=
  ⟨x.fs.pop, fun q hq => x.ok q (List.mem_append.2 (.inl hq)), by
    have := x.dis
    rw [List.filterMap_append, List.nodup_append] at this
    exact this.1⟩
/-- The number of a frame is written. -/
theorem Stk.set {h h' : Heap} {base g cap : Nat} {T : List FrM} {p : FrM} {n : Nat} {cur : List Value} (x : Stk h base (some ⟨g, 0, none⟩) cap (T ++ [p])) (hb : h[g]? = some (.cells cur.toArray 73 (0, 0))) (w : Wr h h' g (.cells (cur.set (T.length * 3 + 1) (I64 (n : Nat))).toArray 73 (0, 0))) : Stk h' base (some ⟨g, 0, none⟩) cap (T ++ [((p.1.1, n, p.1.2.2), p.2)]) := by
  refine ⟨x.fs.set hb w, fun q hq => ?_, ?_⟩
  · have hne : ∀ q ∈ T ++ [p], ∀ b, q.2 = some b → h'[b]? = h[b]? := fun q hq b hqb => w.old b (((x.ok q hq).lt hqb).2.2.ne hb)
    rcases List.mem_append.1 hq with hq | hq
    · exact (x.ok q (List.mem_append.2 (.inl hq))).keep (hne q (List.mem_append.2 (.inl hq)))
    · have hq : q = ((p.1.1, n, p.1.2.2), p.2) := by simpa using hq
      have := (x.ok p (by simp)).keep (hne p (by simp))
      rw [hq]
      exact this
  · have := x.dis
    rw [List.filterMap_append] at this ⊢
    exact this
/-- A frame's map has one more key. -/
theorem Stk.put {h h' : Heap} {base b cap : Nat} {a : Option Addr} {T : List FrM} {p : FrM} {ns : List (List UInt8)} (x : Stk h base a cap (T ++ [p])) (hp : p.2 = some b) (hsz : h'.size = h.size) (hold : ∀ j, j ≠ b → h'[j]? = h[j]?) (hm : MpS h' b (cnt ns)) : Stk h' base a cap (T ++ [((p.1.1, p.1.2.1, ns), p.2)]) := by
  have hok := (x.ok p (by simp)).lt hp
  refine ⟨⟨?_, by have := x.fs.2; simpa using this⟩, fun q hq => ?_, ?_⟩
  · have e1 : (T ++ [((p.1.1, p.1.2.1, ns), p.2)]).length = (T ++ [p]).length := by simp
    have e2 : flF (T ++ [((p.1.1, p.1.2.1, ns), p.2)]) = flF (T ++ [p]) := by rw [flF_append, flF_append, flF_one1, flF_one1]; rfl
    rw [e1, e2]
    refine x.fs.1.keep fun j hj => hold j fun e => ?_
    subst e
    obtain ⟨g, cur, e3, _, hb, _⟩ := x.fs.blkAt (by simp)
    rw [e3] at hj
    cases hj
    exact hok.2.2.ne hb rfl
  · rcases List.mem_append.1 hq with hq | hq
    · refine (x.ok q (List.mem_append.2 (.inl hq))).keep fun c hc => hold c fun e => ?_
      subst e
      have := x.dis
      rw [List.filterMap_append, List.nodup_append] at this
      exact this.2.2 c (List.mem_filterMap.2 ⟨q, hq, hc⟩) c (by simp [hp]) rfl
    · have hq : q = ((p.1.1, p.1.2.1, ns), p.2) := by simpa using hq
      rw [hq]
      unfold FrOk
      simp only [hp]
      exact ⟨hok.1, hm⟩
  · have := x.dis
    rw [List.filterMap_append] at this ⊢
    exact this
/-- A frame more. -/
theorem Stk.push {h h' : Heap} {base cap cap' : Nat} {a a' : Option Addr} {S : List FrM} {p : FrM} {b : Nat} (x : Stk h base a cap S) (hf : Fs h' base a' cap' (S ++ [p])) (g : GrA h h' a) (hp : p.2 = some b) (hm : MpS h b (cnt p.1.2.2)) (hb : base ≤ b) (hne : ∀ q ∈ S, q.2 ≠ some b) (hS : S ≠ []) : Stk h' base a' cap' (S ++ [p]) := by
  obtain ⟨gg, cur, rfl, _, hbk, _⟩ := x.fs.blkAt hS
  have keep : ∀ c k, MpS h c k → h'[c]? = h[c]? := fun c k m => Gr.old g c m.lt fun e => m.ne hbk (by cases e; rfl)
  refine ⟨hf, fun q hq => ?_, ?_⟩
  · rcases List.mem_append.1 hq with hq | hq
    · exact (x.ok q hq).keep fun c hc => keep c _ ((x.ok q hq).lt hc).2.2
    · have hq : q = p := by simpa using hq
      rw [hq]
      unfold FrOk
      rw [hp]
      exact ⟨hb, hm.keep (keep b _ hm)⟩
  · rw [List.filterMap_append, List.nodup_append]
    refine ⟨x.dis, by simp [hp], ?_⟩
    intro c hc c' hc' e
    have hc' : c' = b := by simpa [hp] using hc'
    obtain ⟨q, hq, hqc⟩ := List.mem_filterMap.1 hc
    exact hne q hq (by rw [hqc, e, hc'])
section
variable {ρ : Operand → Value} {h : Heap} {d : Option Tmp} {ty : TypeId} {pos : String} {af : Array Edge} {gd : Option (Nat × Bool)} {K : Value → Heap → Prop} {x y : Operand}
theorem HO.fapp {base : Nat} {a : Option Addr} {cap sb : Nat} {n m c : Nat} {l : List FrM} {p : FrM} (hx : ρ x = .slice a n cap) (hy : ρ y = .slice (some ⟨sb, 0, none⟩) m c) (hn : n = l.length) (hm : m = 1) (hown : Fs h base a cap l) (hsrc : h[sb]? = some (.cells (encF p).toArray 73 (0, 0))) (hlen : l.length ≤ 1000000) (hbase : base ≤ h.size)
    (k : ∀ a' cap' h', Fs h' base a' cap' (l ++ [p]) → GrA h h' a → K (.slice a' (l ++ [p]).length cap') h') : HO Tryz.prog ⟨d, .call { callee := .builtin .append, args := #[x, y], argTypes := #[74, 74] }, ty, pos, af, gd⟩ ρ h K := by
  subst hn hm
  refine HO.append (news := encF p) Tryz.underlying74 in73 rfl (by decide) hx hy hown.1 rfl (fun j u hj => by rw [Nat.zero_add]; exact cellH_list hsrc hj) (encF_one p) (by unfold maxLen; omega) (by omega) hbase fun v' h' o g hat => ?_
  have hg : GrA h h' a := by cases a <;> exact g
  have e1 : flF l ++ encF p = flF (l ++ [p]) := by rw [flF_append, flF_one1]
  rw [e1] at o
  rcases o.cases with ⟨h1, h2, h3⟩ | ⟨g', c, h1, h2, h3, h4, h5⟩
  · omega
  · subst h1
    have := k (some ⟨g', 0, none⟩) c h' ⟨by rw [List.length_append]; exact o, by simpa using h3⟩ hg
    rw [List.length_append] at this
    exact this
end
theorem cb_ch (h : Heap) (p : FrM) : CH Tryz.prog 54 #[.agg (encF p).toArray] h fun v h' => v = .bool (decide (p.1.2.1 > 0)) ∧ Ext h h' := by
  refine CH.of_body Tryz.func54 rfl rfl rfl ?_
  intro f hf
  have p0 : f 0 = .agg (encF p).toArray := by rw [hf]; exact fr0_at rfl
  -- region 0
  repeat refine HW.seq ?_
  refine HW.region ?_
  refine HL.one (HO.box p0 ?_)
  intro h1 w1
  intro u1 e1
  refine HL.still (Runs.assign rfl) ?_
  intro u2 e2
  refine HL.nil ?_
  -- region 1
  repeat refine HW.seq ?_
  refine HW.region ?_
  refine HL.still (Runs.fld (o' := 1) Tryz.underlying73 rfl sz3 (by decide) e1 (by rfl)) ?_
  intro u3 e3
  refine HL.still (Runs.load Tryz.underlying3 rfl e3 (cellH_list (v := I64 (p.1.2.1 : Nat)) w1.new rfl)) ?_
  intro u4 e4
  refine HL.still (Runs.gtr e4 rfl (t := decide (p.1.2.1 > 0)) (decide_eq_decide.2 (by omega))) ?_
  intro u5 e5
  refine HL.still (Runs.assign e5) ?_
  intro u2 e2
  refine HL.nil ?_
  refine HW.ret ?_
  exact RT.one rfl e2 ⟨rfl, w1.ext⟩
set_option maxRecDepth 10000 in
theorem idxF_ch (h : Heap) (S : List FrM) (a : Option Addr) (base n cap : Nat) (hn : n = S.length) (hS : Fs h base a cap S) (hl : S.length ≤ 1000000) :
    CH Tryz.prog 68 #[.slice a n cap, .func (.func 54) #[] #[]] h fun v h' => (∃ r : Int, v = I64 r ∧ (decide (r ≥ 0)) = S.any fun p => decide (p.1.2.1 > 0)) ∧ Ext h h' := by
  subst hn
  refine CH.of_body Tryz.func68 rfl rfl rfl ?_
  intro f hf
  have p0 : f 0 = .slice a S.length cap := by rw [hf]; exact fr0_at rfl
  have p1 : f 1 = .func (.func 54) #[] #[] := by rw [hf]; exact fr0_at rfl
  -- region 0
  repeat refine HW.seq ?_
  refine HW.region ?_
  refine HL.still (Runs.assign rfl) ?_
  intro u4 e4
  refine HL.nil ?_
  -- region 1
  repeat refine HW.seq ?_
  refine HW.region ?_
  refine HL.still (Runs.move p0) ?_
  intro u6 e6
  refine HL.still (Runs.lenSl rfl Tryz.underlying74 e6) ?_
  intro u7 e7
  refine HL.still (Runs.move rfl) ?_
  intro u8 e8
  refine HL.nil ?_
  repeat refine HW.seq ?_
  refine HW.block ?_
  refine HW.loop (fun m f u => ∃ k : Nat, k ≤ S.length ∧ m = S.length - k ∧ f 8 = I64 k ∧ f 7 = I64 S.length ∧ f 0 = .slice a S.length cap ∧ f 1 = .func (.func 54) #[] #[] ∧ (S.take k).any (fun p => decide (p.1.2.1 > 0)) = false ∧ Ext h u) S.length
    ⟨0, Nat.zero_le _, rfl, e8, e7, p0, p1, rfl, Bel.refl _ _⟩ ?_
  clear e4 e6 e7 e8 p0 p1
  rintro m f u ⟨k, hk, hm, f8, f7, f0, f1, hany, hX⟩
  by_cases hlt : k < S.length
  · obtain ⟨p, hp⟩ : ∃ p, S[k]? = some p := ⟨_, List.getElem?_eq_getElem hlt⟩
    have hpk : S[k] = p := by rw [List.getElem?_eq_getElem hlt] at hp; exact Option.some.inj hp
    have hsp : S = S.take k ++ p :: S.drop (k + 1) := by
      rw [← hpk, ← List.drop_eq_getElem_cons hlt, List.take_append_drop]
    have htl : (S.take k).length = k := by rw [List.length_take]; omega
    have hSu := hS.ext hX
    obtain ⟨g, rfl, hc⟩ : ∃ g, a = some ⟨g, 0, none⟩ ∧ ∀ i v, (encF p)[i]? = some v → cellH u g (k * 3 + i) = some v := by
      rw [hsp] at hSu
      obtain ⟨g, e1, e2⟩ := hSu.cellIn
      rw [htl] at e2
      exact ⟨g, e1, e2⟩
    have htk : S.take (k + 1) = S.take k ++ [p] := by rw [List.take_succ_eq_append_getElem hlt, hpk]
    -- region 2
    repeat refine HW.seq ?_
    refine HW.region ?_
    refine HL.still (Runs.lss f8 f7 rfl) ?_
    intro u9 e9
    refine HL.nil ?_
    repeat refine HW.seq ?_
    refine HW.yes ?_ ?_
    exact e9.trans (congrArg Value.bool (decide_eq_true (by omega)))
    refine HW.skip ?_
    repeat refine HW.seq ?_
    refine HW.block ?_
    -- region 3
    repeat refine HW.seq ?_
    refine HW.region ?_
    refine HL.still (Runs.move f8) ?_
    intro u10 e10
    refine HL.still (Runs.assign e10) ?_
    intro u5 e5
    refine HL.nil ?_
    by_cases h0 : p.1.2.1 > 0
    · have hcb := cb_ch u p
      rw [decide_eq_true h0] at hcb
      -- region 4
      repeat refine HW.seq ?_
      refine HW.region ?_
      refine HL.still (Runs.move f1) ?_
      intro u11 e11
      refine HL.still (Runs.move f0) ?_
      intro u12 e12
      refine HL.still (Runs.move e5) ?_
      intro u13 e13
      refine HL.still (Runs.ixSl (o' := k * 3) Tryz.underlying74 sz73 e12 e13 (by omega) (by omega) (by omega)) ?_
      intro u14 e14
      refine HL.still (Runs.loadAgg Tryz.underlying73 rfl sz73 e14 rfl hc) ?_
      intro u15 e15
      refine HL.one (HO.callV Tryz.func54 bd54 nm54 (args1 e15) e11 ((hcb).mono ?_))
      rintro _ h2 ⟨rfl, X2⟩
      intro u16 e16
      refine HL.nil ?_
      refine HW.yes e16 ?_
      -- region 5
      repeat refine HW.seq ?_
      refine HW.region ?_
      refine HL.still (Runs.move e5) ?_
      intro u17 e17
      refine HL.still (Runs.assign e17) ?_
      intro u4 e4
      refine HL.nil ?_
      refine HW.ret ?_
      refine RT.one rfl e4 ⟨⟨k, rfl, ?_⟩, hX.ext X2 (Nat.le_refl _)⟩
      rw [hsp, List.any_append, List.any_cons, decide_eq_true h0, decide_eq_true (by omega)]
      simp
    · have hcb := cb_ch u p
      rw [decide_eq_false h0] at hcb
      -- region 4
      repeat refine HW.seq ?_
      refine HW.region ?_
      refine HL.still (Runs.move f1) ?_
      intro u11 e11
      refine HL.still (Runs.move f0) ?_
      intro u12 e12
      refine HL.still (Runs.move e5) ?_
      intro u13 e13
      refine HL.still (Runs.ixSl (o' := k * 3) Tryz.underlying74 sz73 e12 e13 (by omega) (by omega) (by omega)) ?_
      intro u14 e14
      refine HL.still (Runs.loadAgg Tryz.underlying73 rfl sz73 e14 rfl hc) ?_
      intro u15 e15
      refine HL.one (HO.callV Tryz.func54 bd54 nm54 (args1 e15) e11 ((hcb).mono ?_))
      rintro _ h2 ⟨rfl, X2⟩
      intro u16 e16
      refine HL.nil ?_
      refine HW.no e16 ?_
      refine HW.skip ?_
      -- region 6
      repeat refine HW.seq ?_
      refine HW.region ?_
      refine HL.still (Runs.add f8 rfl (i64w (by omega))) ?_
      intro u18 e18
      refine HL.still (Runs.move e18) ?_
      intro u8 e8
      refine HL.nil ?_
      refine ⟨S.length - (k + 1), by omega, k + 1, by omega, rfl, e8, f7, f0, f1, ?_, hX.ext X2 (Nat.le_refl _)⟩
      rw [htk, List.any_append, hany]
      simp [h0]
  · have hkn : k = S.length := by omega
    subst hkn
    rw [List.take_of_length_le (Nat.le_refl _)] at hany
    -- region 2
    repeat refine HW.seq ?_
    refine HW.region ?_
    refine HL.still (Runs.lss f8 f7 rfl) ?_
    intro u9 e9
    refine HL.nil ?_
    repeat refine HW.seq ?_
    refine HW.no ?_ ?_
    exact e9.trans (congrArg Value.bool (decide_eq_false (by omega)))
    refine HW.exitHere ?_
    -- region 7
    repeat refine HW.seq ?_
    refine HW.region ?_
    refine HL.still (Runs.assign rfl) ?_
    intro u4 e4
    refine HL.nil ?_
    refine HW.ret ?_
    exact RT.one rfl e4 ⟨⟨-1, rfl, by rw [hany]; rfl⟩, hX⟩
set_option maxRecDepth 10000 in
theorem anyF_ch (h : Heap) (S : List FrM) (a : Option Addr) (base n cap : Nat) (hn : n = S.length) (hS : Fs h base a cap S) (hl : S.length ≤ 1000000) :
    CH Tryz.prog 53 #[.slice a n cap, .func (.func 54) #[] #[]] h fun v h' => v = .bool (S.any fun p => decide (p.1.2.1 > 0)) ∧ Ext h h' := by
  refine CH.of_body Tryz.func53 rfl rfl rfl ?_
  intro f hf
  have p0 : f 0 = .slice a n cap := by rw [hf]; exact fr0_at rfl
  have p1 : f 1 = .func (.func 54) #[] #[] := by rw [hf]; exact fr0_at rfl
  -- region 0
  repeat refine HW.seq ?_
  refine HW.region ?_
  refine HL.still (Runs.assign rfl) ?_
  intro u4 e4
  refine HL.nil ?_
  -- region 1
  repeat refine HW.seq ?_
  refine HW.region ?_
  refine HL.still (Runs.move p0) ?_
  intro u5 e5
  refine HL.still (Runs.move p1) ?_
  intro u6 e6
  refine HL.one (HO.call Tryz.func68 bd68 nm68 (args2 e5 e6) rfl ((idxF_ch h S a base n cap hn hS hl).mono ?_))
  rintro _ h2 ⟨⟨r, rfl, hr⟩, X2⟩
  intro u7 e7
  refine HL.still (Runs.geq e7 rfl rfl) ?_
  intro u8 e8
  refine HL.still (Runs.assign e8) ?_
  intro u4 e4
  refine HL.nil ?_
  refine HW.ret ?_
  exact RT.one rfl e4 ⟨by rw [← hr], X2⟩
end Go.Proofs.YtjopikfkgjbcgaaGreatDoor
