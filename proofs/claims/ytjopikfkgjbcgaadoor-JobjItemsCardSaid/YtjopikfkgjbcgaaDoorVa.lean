/- Rows of values (api.Value), told of heaps. -/
import Derived.Test.YtjopikfkgjbcgaaDoorTab
import Derived.Test.YtjopikfkgjbcgaaDoorRw
import Derived.Test.YtjopikfkgjbcgaaDoorMore
namespace Go.Proofs.YtjopikfkgjbcgaaDoor
set_option linter.unnecessarySimpa false
set_option linter.unusedSimpArgs false
set_option linter.unusedVariables false
open Go.RowKit
/-- A value: its kind, its key, its text, its count. -/
abbrev JV := Int × List UInt8 × List UInt8 × Int
def zJ : JV := (0, [], [], 0)
def encJ (x : JV) : List Value := [I64 x.1, .string (strOf x.2.1), .string (strOf x.2.2.1), I64 x.2.2.2]
theorem encJ_len (x : JV) : (encJ x).length = 4 := rfl
theorem encJ_one (x : JV) : ∀ v ∈ encJ x, v.oneCell' = true := by
  intro v hv
  simp only [encJ, List.mem_cons, List.not_mem_nil, or_false] at hv
  rcases hv with rfl | rfl | rfl | rfl <;> rfl
theorem in37 : (Tryd.prog.info? 37).map (fun i => (i.zero, i.size, i.bytes)) = some (some (.agg (encJ zJ).toArray), 4, 48) := by kernel_rfl
/-- Where a slice lies, if it lies anywhere. -/
def Lie (F : Nat → Prop) (h : Heap) (a : Option Addr) : Prop := ∀ sb so, a = some ⟨sb, so, none⟩ → sb < h.size ∧ F sb
theorem Lie.none (F : Nat → Prop) (h : Heap) : Lie F h none := fun sb so e => by cases e
theorem Lie.mono {F F' : Nat → Prop} {h h' : Heap} {a : Option Addr} (x : Lie F h a) (hs : h.size ≤ h'.size) (k : ∀ j, j < h.size → F j → F' j) : Lie F' h' a := fun sb so e => ⟨Nat.lt_of_lt_of_le (x sb so e).1 hs, k sb (x sb so e).1 (x sb so e).2⟩
def flJ (l : List JV) : List Value := l.flatMap encJ
theorem flJ_cons (x : JV) (l : List JV) : flJ (x :: l) = encJ x ++ flJ l := by unfold flJ; rw [List.flatMap_cons]
theorem flJ_append (l m : List JV) : flJ (l ++ m) = flJ l ++ flJ m := by unfold flJ; rw [List.flatMap_append]
theorem flJ_len (l : List JV) : (flJ l).length = l.length * 4 := by
  induction l with
  | nil => rfl
  | cons x l ih => rw [flJ_cons, List.length_append, encJ_len, ih, List.length_cons]; omega
theorem flJ_get (l : List JV) (t : Nat) (h : t < l.length * 4) : (flJ l)[t]? = (encJ (l[t / 4]'(by omega)))[t % 4]? := by
  induction l generalizing t with
  | nil => simp at h
  | cons x l ih =>
    rw [flJ_cons]
    by_cases ht : t < 4
    · rw [List.getElem?_append_left (by rw [encJ_len]; exact ht)]
      have h1 : t / 4 = 0 := by omega
      have h2 : t % 4 = t := by omega
      simp only [h1, h2, List.getElem_cons_zero]
    · rw [List.getElem?_append_right (by rw [encJ_len]; omega), encJ_len, ih (t - 4) (by rw [List.length_cons] at h; omega)]
      have h1 : t / 4 = (t - 4) / 4 + 1 := by omega
      have h2 : (t - 4) % 4 = t % 4 := by omega
      simp only [h1, h2, List.getElem_cons_succ]
/-- A row of values at an address. -/
def Jvs (h : Heap) (a : Option Addr) (l : List JV) : Prop := l = [] ∨ ∃ sb so, a = some ⟨sb, so, none⟩ ∧ ∀ j, j < l.length → ∀ i v, (encJ (l.getD j zJ))[i]? = some v → cellH h sb (so + j * 4 + i) = some v
theorem Jvs.at {h : Heap} {a : Option Addr} {l : List JV} (x : Jvs h a l) {k : Nat} (hk : k < l.length) : ∃ sb so, a = some ⟨sb, so, none⟩ ∧ ∀ i v, (encJ (l.getD k zJ))[i]? = some v → cellH h sb (so + k * 4 + i) = some v := by
  rcases x with x | ⟨sb, so, h1, h2⟩
  · subst x; cases hk
  · exact ⟨sb, so, h1, h2 k hk⟩
/-- A slice of values that is owned: it lies in a block from 'base' on, at its begin. -/
def Js (h : Heap) (base : Nat) (a : Option Addr) (cap : Nat) (l : List JV) : Prop := Own h base 37 4 (.slice a l.length cap) l.length (flJ l) ∧ l.length ≤ cap
theorem Js.blk {h : Heap} {base : Nat} {a : Option Addr} {cap : Nat} {l : List JV} (x : Js h base a cap l) : a = none ∧ l = [] ∨ ∃ g, a = some ⟨g, 0, none⟩ ∧ base ≤ g ∧ g < h.size := by
  rcases x.1.cases with ⟨h1, h2, h3⟩ | ⟨g, c, h1, h2, h3, h4, h5⟩
  · exact .inl ⟨(slice_inj h1).1, List.length_eq_zero_iff.1 h2⟩
  · obtain ⟨rfl, _, rfl⟩ := slice_inj h1
    exact .inr ⟨g, rfl, h2, (x.1.lt g rfl).2⟩
theorem flJ_getD (l : List JV) (j i : Nat) (hj : j < l.length) {v : Value} (hv : (encJ (l.getD j zJ))[i]? = some v) : (flJ l)[j * 4 + i]? = some v := by
  have hi : i < 4 := by have := (List.getElem?_eq_some_iff.1 hv).1; rwa [encJ_len] at this
  rw [flJ_get l _ (by omega)]
  have h1 : (j * 4 + i) / 4 = j := by omega
  have h2 : (j * 4 + i) % 4 = i := by omega
  simp only [h1, h2]
  rw [← hv]
  simp [hj]
theorem flJ_cell {l : List JV} {t : Nat} {v : Value} (hv : (flJ l)[t]? = some v) : t / 4 < l.length ∧ (encJ (l.getD (t / 4) zJ))[t % 4]? = some v := by
  have hlt := (List.getElem?_eq_some_iff.1 hv).1
  rw [flJ_len] at hlt
  have hl : t / 4 < l.length := by omega
  refine ⟨hl, ?_⟩
  rw [flJ_get l t hlt] at hv
  rw [← hv]
  simp [hl]
theorem Js.jvs {h : Heap} {base : Nat} {a : Option Addr} {cap : Nat} {l : List JV} (x : Js h base a cap l) : Jvs h a l := by
  rcases x.1.cases with ⟨h1, h2, h3⟩ | ⟨g, c, h1, h2, h3, h4, h5⟩
  · exact .inl (List.length_eq_zero_iff.1 h2)
  · obtain ⟨rfl, _, rfl⟩ := slice_inj h1
    refine .inr ⟨g, 0, rfl, fun j hj i v hv => ?_⟩
    rw [Nat.zero_add]
    exact h5 _ _ (flJ_getD l j i hj hv)
theorem Js.ext {h h' : Heap} {base : Nat} {a : Option Addr} {cap : Nat} {l : List JV} (x : Js h base a cap l) (k : Ext h h') : Js h' base a cap l := ⟨x.1.bel k, x.2⟩
theorem Js.wr {h h' : Heap} {base : Nat} {a : Option Addr} {cap : Nat} {l : List JV} {b : Nat} {o : Obj} (x : Js h base a cap l) (k : Wr h h' b o) (hb : b < base) : Js h' base a cap l :=
  ⟨x.1.keep fun j hj => k.old j (by have := (x.1.lt j hj).1; omega), x.2⟩
theorem Js.lit {h h' : Heap} {base : Nat} {l : List JV} (k : Nw h h' (.cells (flJ l).toArray 37 (0, 0))) (hb : base ≤ h.size) (hl : l.length ≤ maxLen) : Js h' base (some ⟨h.size, 0, none⟩) l.length l :=
  ⟨⟨flJ_len l, .inr ⟨h.size, l.length, _, rfl, hb, k.new, Nat.le_refl _, hl, by simp [flJ_len], by rw [List.take_of_length_le]; simp [flJ_len]⟩⟩, Nat.le_refl _⟩
/-- The block, as it is. -/
theorem Js.blkAt {h : Heap} {base : Nat} {g : Nat} {cap : Nat} {l : List JV} (x : Js h base (some ⟨g, 0, none⟩) cap l) : ∃ cur : List Value, h[g]? = some (.cells cur.toArray 37 (0, 0)) ∧ cur.length = cap * 4 ∧ cur.take (l.length * 4) = flJ l := by
  rcases x.1.2 with ⟨h1, h2⟩ | ⟨g', cap', cur, h1, hb, hg, hn, hc, hs, ht⟩
  · cases (slice_inj h1).1
  · obtain ⟨e1, _, rfl⟩ := slice_inj h1
    cases e1
    exact ⟨cur.toList, hg, by simpa using hs, by simpa using ht⟩
theorem Js.capLe {h : Heap} {base : Nat} {a : Option Addr} {cap : Nat} {l : List JV} (x : Js h base a cap l) : cap ≤ maxLen := by
  rcases x.1.cases with ⟨h1, h2, h3⟩ | ⟨g, c, h1, h2, h3, h4, h5⟩
  · rw [(slice_inj h1).2.2]; exact Nat.zero_le _
  · rw [(slice_inj h1).2.2]; exact h4
theorem Js.of_blk {h : Heap} {base : Nat} {g : Nat} {cap : Nat} {l : List JV} {cur : List Value} (hb : h[g]? = some (.cells cur.toArray 37 (0, 0))) (hl : cur.length = cap * 4) (ht : cur.take (l.length * 4) = flJ l) (hg : base ≤ g) (hn : l.length ≤ cap) (hc : cap ≤ maxLen) : Js h base (some ⟨g, 0, none⟩) cap l :=
  ⟨⟨flJ_len l, .inr ⟨g, cap, cur.toArray, rfl, hg, hb, hn, hc, by simpa using hl, by simpa using ht⟩⟩, hn⟩
theorem Js.low {h : Heap} {base base' : Nat} {a : Option Addr} {cap : Nat} {l : List JV} (x : Js h base a cap l) (hb : base' ≤ base) : Js h base' a cap l := by
  rcases x.blk with ⟨rfl, rfl⟩ | ⟨g, rfl, hg, _⟩
  · refine ⟨?_, x.2⟩
    rcases x.1.cases with ⟨h1, h2, h3⟩ | ⟨g, c, h1, h2, _⟩
    · rw [h1]; exact Own.nil h base' 37 4
    · have := (slice_inj h1).1
      cases this
  · obtain ⟨cur, h1, h2, h3⟩ := x.blkAt
    exact Js.of_blk h1 h2 h3 (by omega) x.2 x.capLe
theorem GrA.belJ {N base : Nat} {h0 h h' : Heap} {a : Option Addr} {cap : Nat} {l : List JV} (k : GrA h h' a) (x : Bel N h0 h) (y : Js h base a cap l) (hb : N ≤ base) (hN : N ≤ h0.size) : Bel N h0 h' := by
  refine Bel.gr x k hN fun j hj => ?_
  have := (y.1.lt j (by cases a <;> exact hj)).1
  omega
theorem Jvs.take {h : Heap} {a : Option Addr} {l : List JV} (x : Jvs h a l) (n : Nat) : Jvs h a (l.take n) := by
  rcases x with rfl | ⟨sb, so, ha, hc⟩
  · exact .inl (by simp)
  · refine .inr ⟨sb, so, ha, fun j hj i v hv => ?_⟩
    have hj' : j < l.length ∧ j < n := by rw [List.length_take] at hj; omega
    refine hc j hj'.1 i v ?_
    rw [← hv, List.getD_eq_getElem?_getD, List.getD_eq_getElem?_getD, List.getElem?_take, if_pos hj'.2]
theorem Jvs.drop {h : Heap} {a a' : Option Addr} {l : List JV} {cap : Nat} (x : Jvs h a l) (k : Nat) (hc : l.length ≤ cap) (hk : k ≤ l.length) (ha : (if cap = k then a else a.map (·.add (k * 4))) = a') : Jvs h a' (l.drop k) := by
  subst ha
  by_cases hl : k = l.length
  · exact .inl (List.drop_of_length_le (by omega))
  · rcases x with rfl | ⟨sb, so, ha, hcell⟩
    · exact .inl (by simp)
    · rw [if_neg (by omega)]
      subst ha
      refine .inr ⟨sb, so + k * 4, by rw [Option.map_some, addr_add], fun j hj i v hv => ?_⟩
      rw [List.length_drop] at hj
      rw [show so + k * 4 + j * 4 + i = so + (k + j) * 4 + i by omega]
      refine hcell (k + j) (by omega) i v ?_
      rw [← hv, List.getD_eq_getElem?_getD, List.getD_eq_getElem?_getD, List.getElem?_drop]
theorem flJ_one (l : List JV) : ∀ v ∈ flJ l, v.oneCell' = true := fun v hv => by
  obtain ⟨x, _, hx⟩ := List.mem_flatMap.1 hv
  exact encJ_one x v hx
section
variable {ρ : Operand → Value} {h : Heap} {d : Option Tmp} {ty : TypeId} {pos : String} {af : Array Edge} {gd : Option (Nat × Bool)} {K : Value → Heap → Prop} {x y : Operand}
/-- Append values to a slice of these that is owned. -/
theorem HO.dapp {base : Nat} {a sa : Option Addr} {cap sc m n : Nat} {l ys : List JV} (hx : ρ x = .slice a n cap) (hy : ρ y = .slice sa m sc) (hn : n = l.length) (hm : m = ys.length) (hown : Js h base a cap l) (hsrc : Jvs h sa ys) (hlen : (l.length + ys.length) * 48 ≤ 140737488355328) (hbase : base ≤ h.size)
    (k : ∀ a' cap' h', Js h' base a' cap' (l ++ ys) → GrA h h' a → K (.slice a' (l ++ ys).length cap') h') : HO Tryd.prog ⟨d, .call { callee := .builtin .append, args := #[x, y], argTypes := #[22, 22] }, ty, pos, af, gd⟩ ρ h K := by
  subst hn
  subst hm
  have hml : l.length + ys.length ≤ maxLen := Nat.le_trans (by omega : l.length + ys.length ≤ 140737488355328) (by decide)
  rcases hsrc with hnil | ⟨sb, so, hsa, hc⟩
  · subst hnil
    intro w hw
    subst hw
    cases hq : Tryd.prog.info? 37 with
    | none => have := in37; rw [hq] at this; cases this
    | some i =>
      have hs : Go.Src Tryd.prog i.size 22 (.slice sa 0 sc) 0 [] w := ⟨.inl ⟨37, Tryd.underlying22⟩, fun w' => rfl, by cases sa <;> simp [Builtin.firstCells, loadCells] <;> rfl, by cases sa <;> simp [Builtin.firstCells, loadCells] <;> rfl, by simp, by simp⟩
      have h1 := run_append_nothing w 22 22 ty 37 i Tryd.underlying22 hq a l.length cap hown.2 (.slice sa 0 sc) hs
      have : (execOp ρ ⟨d, .call { callee := .builtin .append, args := #[x, y], argTypes := #[22, 22] }, ty, pos, af, gd⟩).run Tryd.prog w = .ok (.value (.slice a l.length cap)) w := by
        simp [BigFrame.execOp_builtin, BigFrame.builtin_append, hx, hy, Sem.run_bind] at h1 ⊢
        rw [h1]
        rfl
      rw [this]
      refine ⟨Rest.refl _, ?_⟩
      have := k a cap w.heap (by simpa using hown) ⟨Nat.le_refl _, fun _ _ _ => rfl⟩
      simpa using this
  · subst hsa
    have hown1 := hown.1
    refine HO.append (news := flJ ys) Tryd.underlying22 in37 rfl (by decide) hx hy hown1 (flJ_len ys) (fun j u hj => ?_) (flJ_one ys) hml (by simpa using hlen) hbase fun v' h' o g hat => ?_
    · obtain ⟨hj1, hj2⟩ := flJ_cell hj
      have := hc _ hj1 _ _ hj2
      rwa [show so + j / 4 * 4 + j % 4 = so + j by omega] at this
    · have hg : GrA h h' a := by cases a <;> exact g
      rw [← flJ_append] at o
      rcases o.cases with ⟨h1, h2, h3⟩ | ⟨g', c, h1, h2, h3, h4, h5⟩
      · have he : l ++ ys = [] := List.length_eq_zero_iff.1 (by rw [List.length_append]; exact h2)
        subst h1
        have := k none 0 h' ⟨by rw [he]; exact Own.nil _ _ _ _, by rw [he]; exact Nat.le_refl _⟩ hg
        rw [he] at this
        exact this
      · subst h1
        have := k (some ⟨g', 0, none⟩) c h' ⟨by rw [List.length_append]; exact o, by simpa using h3⟩ hg
        rw [List.length_append] at this
        exact this
end
end Go.Proofs.YtjopikfkgjbcgaaDoor
