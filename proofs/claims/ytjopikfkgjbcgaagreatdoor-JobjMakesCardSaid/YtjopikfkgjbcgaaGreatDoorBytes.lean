/- Byte slices: what bytes a slice has; slices that are owned; appends to these. -/
import Derived.Test.YtjopikfkgjbcgaaGreatDoorOps
import Derived.Deep.Upon
import Derived.Laws.BytesString
import Derived.Laws.Strings
import Derived.Laws.OwnMore
namespace Go.Proofs.YtjopikfkgjbcgaaGreatDoor
set_option linter.unnecessarySimpa false
set_option linter.unusedSimpArgs false
open Go.RowKit
set_option linter.unusedVariables false
theorem cellH_keep {h h' : Heap} {b o : Nat} (k : h'[b]? = h[b]?) : cellH h' b o = cellH h b o := by simp [cellH, k]
theorem lt_of_cellH {h : Heap} {b o : Nat} {v : Value} (k : cellH h b o = some v) : b < h.size := by
  unfold cellH at k
  split at k
  · rename_i hb; exact lt_of_some hb
  · cases k
/-- h' is h, with blocks more, and block b turned. -/
structure ExB (b : Nat) (h h' : Heap) : Prop where
  size : h.size ≤ h'.size
  old : ∀ j, j < h.size → j ≠ b → h'[j]? = h[j]?
theorem ExB.keep {b : Nat} {h h' : Heap} (x : ExB b h h') {j : Nat} {o : Obj} (hj : h[j]? = some o) (hne : j ≠ b) : h'[j]? = some o := (x.old j (lt_of_some hj) hne).trans hj
theorem ExB.of_ext {b : Nat} {h h' : Heap} (x : Ext h h') : ExB b h h' := ⟨x.size, fun j hj _ => x.old j hj⟩
theorem ExB.trans {b : Nat} {h1 h2 h3 : Heap} (x : ExB b h1 h2) (y : ExB b h2 h3) : ExB b h1 h3 := ⟨Nat.le_trans x.size y.size, fun j hj hne => (y.old j (Nat.lt_of_lt_of_le hj x.size) hne).trans (x.old j hj hne)⟩
theorem ExB.of_wr {b : Nat} {h h' : Heap} {o : Obj} (x : Wr h h' b o) : ExB b h h' := ⟨by rw [x.size]; exact Nat.le_refl _, fun j _ hne => x.old j hne⟩
theorem bel_of_exb {N b : Nat} {h h' h'' : Heap} (x : Bel N h h') (y : ExB b h' h'') (hN : N ≤ h.size) (hb : N ≤ b) : Bel N h h'' := ⟨Nat.le_trans x.size y.size, fun j hj => (y.old j (by have := x.size; omega) (by omega)).trans (x.old j hj)⟩
/-- A slice's bytes. -/
def Byt (h : Heap) (a : Option Addr) (xs : List UInt8) : Prop := xs = [] ∨ ∃ sb so, a = some ⟨sb, so, none⟩ ∧ ∀ j, j < xs.length → cellH h sb (so + j) = some (B8 (xs.getD j 0))
theorem Byt.ext {h h' : Heap} {a : Option Addr} {xs : List UInt8} (x : Byt h a xs) (k : Ext h h') : Byt h' a xs := by
  rcases x with x | ⟨sb, so, h1, h2⟩
  · exact .inl x
  · exact .inr ⟨sb, so, h1, fun j hj => by rw [cellH_keep (k.old sb (lt_of_cellH (h2 j hj)))]; exact h2 j hj⟩
/-- Bytes stay while nothing but the blocks from N on is turned, and they lie below. -/
theorem Byt.bel {N : Nat} {h h' : Heap} {a : Option Addr} {xs : List UInt8} (x : Byt h a xs) (k : Bel N h h') (hN : ∀ sb so, a = some ⟨sb, so, none⟩ → sb < N) : Byt h' a xs := by
  rcases x with x | ⟨sb, so, h1, h2⟩
  · exact .inl x
  · exact .inr ⟨sb, so, h1, fun j hj => by rw [cellH_keep (k.old sb (hN sb so h1))]; exact h2 j hj⟩
theorem Byt.mk {M : Nat} {h h' : Heap} {a : Option Addr} {xs : List UInt8} (x : Byt h a xs) (k : Mk M h h') : Byt h' a xs := by
  rcases x with x | ⟨sb, so, h1, h2⟩
  · exact .inl x
  · exact .inr ⟨sb, so, h1, fun j hj => k.cell (h2 j hj)⟩
theorem Byt.nil (h : Heap) (a : Option Addr) : Byt h a [] := .inl rfl
theorem byt_block {h : Heap} {sb : Nat} {xs : List UInt8} {t : TypeId} {fr : Nat × Nat} (hb : h[sb]? = some (.cells (xs.map B8).toArray t fr)) : Byt h (some ⟨sb, 0, none⟩) xs :=
  .inr ⟨sb, 0, rfl, fun j hj => by rw [Nat.zero_add]; exact cellH_map 0 hb hj⟩
/-- A slice of bytes that is owned: it lies in a block from 'base' on, at its begin, and nothing else does. -/
def Bs (h : Heap) (base : Nat) (e : TypeId) (a : Option Addr) (cap : Nat) (xs : List UInt8) : Prop := Own h base e 1 (.slice a xs.length cap) xs.length (xs.map B8) ∧ xs.length ≤ cap
theorem Bs.start (h : Heap) (base : Nat) (e : TypeId) : Bs h base e none 0 [] := ⟨Own.nil h base e 1, Nat.le_refl _⟩
theorem slice_inj {a b : Option Addr} {n m c d : Nat} (h : Value.slice a n c = Value.slice b m d) : a = b ∧ n = m ∧ c = d := by injection h; exact ⟨‹_›, ‹_›, ‹_›⟩
theorem Bs.byt {h : Heap} {base : Nat} {e : TypeId} {a : Option Addr} {cap : Nat} {xs : List UInt8} (x : Bs h base e a cap xs) : Byt h a xs := by
  rcases x.1.cases with ⟨h1, h2, h3⟩ | ⟨g, c, h1, h2, h3, h4, h5⟩
  · exact .inl (List.map_eq_nil_iff.1 h3)
  · obtain ⟨rfl, _, rfl⟩ := slice_inj h1
    refine .inr ⟨g, 0, rfl, fun j hj => ?_⟩
    rw [Nat.zero_add]
    exact h5 j _ (getD_map B8 xs j 0 hj)
theorem Bs.blk {h : Heap} {base : Nat} {e : TypeId} {a : Option Addr} {cap : Nat} {xs : List UInt8} (x : Bs h base e a cap xs) : a = none ∨ ∃ g, a = some ⟨g, 0, none⟩ ∧ base ≤ g ∧ g < h.size := by
  rcases x.1.cases with ⟨h1, h2, h3⟩ | ⟨g, c, h1, h2, h3, h4, h5⟩
  · exact .inl (slice_inj h1).1
  · obtain ⟨rfl, _, rfl⟩ := slice_inj h1
    exact .inr ⟨g, rfl, h2, (x.1.lt g rfl).2⟩
/-- The block, as it is. -/
theorem Bs.blkAt {h : Heap} {base : Nat} {e : TypeId} {g : Nat} {cap : Nat} {xs : List UInt8} (x : Bs h base e (some ⟨g, 0, none⟩) cap xs) : ∃ cur : List Value, h[g]? = some (.cells cur.toArray e (0, 0)) ∧ cur.length = cap ∧ cur.take xs.length = xs.map B8 := by
  rcases x.1.2 with ⟨h1, h2⟩ | ⟨g', cap', cur, h1, hb, hg, hn, hc, hs, ht⟩
  · cases (slice_inj h1).1
  · obtain ⟨e1, _, rfl⟩ := slice_inj h1
    cases e1
    exact ⟨cur.toList, hg, by simpa using hs, by simpa using ht⟩
theorem Bs.of_blk {h : Heap} {base : Nat} {e : TypeId} {g : Nat} {cap : Nat} {xs : List UInt8} {cur : List Value} (hb : h[g]? = some (.cells cur.toArray e (0, 0))) (hl : cur.length = cap) (ht : cur.take xs.length = xs.map B8) (hg : base ≤ g) (hn : xs.length ≤ cap) (hc : cap ≤ maxLen) : Bs h base e (some ⟨g, 0, none⟩) cap xs :=
  ⟨⟨by simp, .inr ⟨g, cap, cur.toArray, rfl, hg, hb, hn, hc, by simpa using hl, by simpa using ht⟩⟩, hn⟩
theorem Bs.capLe {h : Heap} {base : Nat} {e : TypeId} {a : Option Addr} {cap : Nat} {xs : List UInt8} (x : Bs h base e a cap xs) : cap ≤ maxLen := by
  rcases x.1.cases with ⟨h1, h2, h3⟩ | ⟨g, c, h1, h2, h3, h4, h5⟩
  · rw [(slice_inj h1).2.2]; exact Nat.zero_le _
  · rw [(slice_inj h1).2.2]; exact h4
theorem Bs.ext {h h' : Heap} {base : Nat} {e : TypeId} {a : Option Addr} {cap : Nat} {xs : List UInt8} (x : Bs h base e a cap xs) (k : Ext h h') : Bs h' base e a cap xs := ⟨x.1.bel k, x.2⟩
theorem Bs.wr {h h' : Heap} {base : Nat} {e : TypeId} {a : Option Addr} {cap : Nat} {xs : List UInt8} {b : Nat} {o : Obj} (x : Bs h base e a cap xs) (k : Wr h h' b o) (hb : b < base) : Bs h' base e a cap xs :=
  ⟨x.1.keep fun j hj => k.old j (by have := (x.1.lt j hj).1; omega), x.2⟩
theorem Bs.bel {h h' : Heap} {base : Nat} {e : TypeId} {a : Option Addr} {cap : Nat} {xs : List UInt8} {N : Nat} (x : Bs h base e a cap xs) (k : Bel N h h') (hN : ∀ sb, a = some ⟨sb, 0, none⟩ → sb < N) : Bs h' base e a cap xs :=
  ⟨x.1.keep fun j hj => k.old j (by
    rcases x.blk with e1 | ⟨g, e1, _, _⟩
    · subst e1; cases hj
    · have := hN g e1; subst e1; cases hj; omega), x.2⟩
/-- A slice that is written out, of one block. -/
theorem Bs.lit {h h' : Heap} {base : Nat} {e : TypeId} {xs : List UInt8} (k : Nw h h' (.cells (xs.map B8).toArray e (0, 0))) (hb : base ≤ h.size) (hl : xs.length ≤ maxLen) : Bs h' base e (some ⟨h.size, 0, none⟩) xs.length xs :=
  ⟨⟨by simp, .inr ⟨h.size, xs.length, _, rfl, hb, k.new, Nat.le_refl _, hl, by simp, by simp [List.take_of_length_le]⟩⟩, Nat.le_refl _⟩
/-- What an append turned. -/
def GrA (h h' : Heap) (a : Option Addr) : Prop := Gr h h' (Value.slice a 0 0).ownBlock
theorem GrA.bel {N base : Nat} {h0 h h' : Heap} {e : TypeId} {a : Option Addr} {cap : Nat} {xs : List UInt8} (k : GrA h h' a) (x : Bel N h0 h) (y : Bs h base e a cap xs) (hb : N ≤ base) (hN : N ≤ h0.size) : Bel N h0 h' := by
  refine Bel.gr x k hN fun j hj => ?_
  have := (y.1.lt j (by cases a <;> exact hj)).1
  omega
/-- Another block stays. -/
theorem GrA.old {base : Nat} {h h' : Heap} {e : TypeId} {a : Option Addr} {cap : Nat} {xs : List UInt8} (k : GrA h h' a) (y : Bs h base e a cap xs) {j : Nat} (hj : j < base) (hs : j < h.size) : h'[j]? = h[j]? :=
  Gr.old k j hs (fun e => by have := (y.1.lt j (by cases a <;> exact e.symm)).1; omega)
section
variable {P : Program} {ρ : Operand → Value} {h : Heap} {d : Option Tmp} {ty : TypeId} {pos : String} {af : Array Edge} {gd : Option (Nat × Bool)} {K : Value → Heap → Prop} {T T2 : TypeId} {x y : Operand}
/-- Append bytes to a slice that is owned. -/
theorem HO.app2 {base e : Nat} {a sa : Option Addr} {cap sc m : Nat} {xs ys : List UInt8} {z : Value} (hu : P.underlying T = some (.slice e)) (hi : (P.info? e).map (fun i => (i.zero, i.size, i.bytes)) = some (some z, 1, 1)) (hzs : z.cells.size = 1)
    {n : Nat} (hx : ρ x = .slice a n cap) (hy : ρ y = .slice sa m sc) (hn : n = xs.length) (hm : m = ys.length) (hown : Bs h base e a cap xs) (hsrc : Byt h sa ys) (hlen : xs.length + ys.length ≤ 140737488355328) (hbase : base ≤ h.size)
    (k : ∀ a' cap' h', Bs h' base e a' cap' (xs ++ ys) → GrA h h' a → (a' = a ∨ a' = some ⟨h.size, 0, none⟩ ∨ a' = none) → K (.slice a' (xs ++ ys).length cap') h') : HO P ⟨d, .call { callee := .builtin .append, args := #[x, y], argTypes := #[T, T] }, ty, pos, af, gd⟩ ρ h K := by
  subst hn
  subst hm
  have hml : xs.length + ys.length ≤ maxLen := Nat.le_trans hlen (by decide)
  rcases hsrc with hnil | ⟨sb, so, hsa, hc⟩
  · subst hnil
    intro w hw
    subst hw
    cases hq : P.info? e with
    | none => simp [hq] at hi
    | some i =>
      have hs : Src P i.size T (.slice sa 0 sc) 0 [] w := ⟨.inl ⟨e, hu⟩, fun w' => rfl, by cases sa <;> simp [Builtin.firstCells, loadCells] <;> rfl, by cases sa <;> simp [Builtin.firstCells, loadCells] <;> rfl, by simp, by simp⟩
      have h1 := run_append_nothing w T T ty e i hu hq a xs.length cap hown.2 (.slice sa 0 sc) hs
      have : (execOp ρ ⟨d, .call { callee := .builtin .append, args := #[x, y], argTypes := #[T, T] }, ty, pos, af, gd⟩).run P w = .ok (.value (.slice a xs.length cap)) w := by
        simp [BigFrame.execOp_builtin, BigFrame.builtin_append, hx, hy, Sem.run_bind] at h1 ⊢
        rw [h1]
        rfl
      rw [this]
      refine ⟨Rest.refl _, ?_⟩
      have := k a cap w.heap (by simpa using hown) ⟨Nat.le_refl _, fun _ _ _ => rfl⟩ (.inl rfl)
      simpa using this
  · subst hsa
    have hown1 := hown.1
    refine HO.append (news := ys.map B8) hu hi hzs (by decide) hx hy hown1 (by simp) (fun j u hj => ?_) (one_map B8 (fun _ => rfl) _) hml (by simpa using hlen) hbase fun v' h' o g hat => ?_
    · have hj' : j < ys.length := by simpa using (List.getElem?_eq_some_iff.1 hj).1
      rw [hc j hj', ← hj, getD_map B8 ys j 0 hj']
    · have hg : GrA h h' a := by cases a <;> exact g
      rcases o.cases with ⟨h1, h2, h3⟩ | ⟨g', c, h1, h2, h3, h4, h5⟩
      · obtain ⟨rfl, _, _⟩ := (⟨h1, h2, h3⟩ : _ ∧ _ ∧ _)
        have he : xs ++ ys = [] := by
          rw [← List.map_append] at h3
          exact List.map_eq_nil_iff.1 h3
        have := k none 0 h' (by rw [he]; exact Bs.start _ _ _) hg (.inr (.inr rfl))
        rw [he] at this
        exact this
      · subst h1
        have := k (some ⟨g', 0, none⟩) c h' ⟨by rw [List.map_append, List.length_append]; exact o, by simpa using h3⟩ hg (by
          rcases hat with q | q
          · left
            rcases hown.blk with r | ⟨g0, r, _, _⟩
            · subst r; cases q
            · subst r; cases q; rfl
          · right; left; cases q; rfl)
        rw [List.length_append] at this
        exact this
/-- Append bytes to a slice that is owned. -/
theorem HO.app {base e : Nat} {a sa : Option Addr} {cap sc m : Nat} {xs ys : List UInt8} {z : Value} (hu : P.underlying T = some (.slice e)) (hi : (P.info? e).map (fun i => (i.zero, i.size, i.bytes)) = some (some z, 1, 1)) (hzs : z.cells.size = 1)
    {n : Nat} (hx : ρ x = .slice a n cap) (hy : ρ y = .slice sa m sc) (hn : n = xs.length) (hm : m = ys.length) (hown : Bs h base e a cap xs) (hsrc : Byt h sa ys) (hlen : xs.length + ys.length ≤ 140737488355328) (hbase : base ≤ h.size)
    (k : ∀ a' cap' h', Bs h' base e a' cap' (xs ++ ys) → GrA h h' a → K (.slice a' (xs ++ ys).length cap') h') : HO P ⟨d, .call { callee := .builtin .append, args := #[x, y], argTypes := #[T, T] }, ty, pos, af, gd⟩ ρ h K :=
  HO.app2 hu hi hzs hx hy hn hm hown hsrc hlen hbase fun a' cap' h' B G _ => k a' cap' h' B G
/-- 'string(b)'. -/
theorem Runs.toStrB {e len cap : Nat} {a : Option Addr} {xs : List UInt8} (hu : P.underlying T = some (.slice e)) (he : P.underlying e = some (.int .u8)) (hd : P.underlying T2 = some .string) (hx : ρ x = .slice a len cap) (hl : len = xs.length) (hc : Byt h a xs) :
    Runs P ⟨d, .convert T T2 x, ty, pos, af, gd⟩ ρ h (.string (strOf xs)) := by
  rcases hc with hnil | ⟨sb, so, hsa, hc⟩
  · subst hnil
    subst hl
    intro w hw
    have h1 := run_convert_bytes_string (P := P) w T T2 e a 0 cap hu he hd
    have h2 : (Conv.bytesToString (.slice a 0 cap)).run P w = .ok (.string (strOf [])) w := by cases a <;> simp [Conv.bytesToString, loadCells] <;> rfl
    rw [h2] at h1
    simp only [execOp, hx, List.length_nil, h1, Sem.run_bind]
    rfl
  · subst hsa
    exact Runs.toStr hu he hd hx hl.symm hc
theorem strOf_toList (xs : List UInt8) : (strOf xs).toList = xs := by
  exact ByteArray.toList_mk xs
/-- 'make([]byte, n)'. -/
theorem HO.makeB {e n : Nat} (hu : P.underlying T = some (.slice e)) (hi : (P.info? e).map (fun i => (i.zero, i.size, i.bytes)) = some (some (.int .u8 0), 1, 1)) (hx : ρ x = .int .i64 (n : Int)) (hy : ρ y = .int .i64 (n : Int)) (hn : n ≤ 140737488355328)
    (k : ∀ h', Nw h h' (.cells ((List.replicate n (0 : UInt8)).map B8).toArray e (0, 0)) → K (.slice (some ⟨h.size, 0, none⟩) n n) h') : HO P ⟨d, .makeSlice T x y, ty, pos, af, gd⟩ ρ h K := by
  intro w hw
  subst hw
  cases hq : P.info? e with
  | none => simp [hq] at hi
  | some i =>
    simp [hq] at hi
    obtain ⟨hz, hs', hby⟩ := hi
    have h1 := run_make (P := P) w T e i _ hu hq hz .i64 .i64 n n (by omega) (Int.le_refl _) (by rw [hby]; omega) (by omega)
    rw [hs'] at h1
    simp only [Int.toNat_natCast, Nat.mul_one] at h1
    have e1 : madeCells (Value.int .u8 0).cells n = ((List.replicate n (0 : UInt8)).map B8).toArray := by
      apply Array.toList_inj.1
      rw [show (Value.int .u8 0).cells = #[Value.int .u8 0] from rfl, toList_madeCells_one]
      simp
    rw [e1] at h1
    have : (execOp ρ ⟨d, .makeSlice T x y, ty, pos, af, gd⟩).run P w = .ok (.value (.slice (some ⟨w.heap.size, 0, none⟩) n n)) (w.alloc (.cells ((List.replicate n (0 : UInt8)).map B8).toArray e)) := by
      simp only [execOp, hx, hy, Sem.run_bind, h1]
      rfl
    rw [this]
    refine ⟨⟨rfl, rfl, rfl⟩, ?_⟩
    rw [heap_alloc]
    exact k _ (Nw.push _ _)
/-- A slice of byte slices: for each its address, its capacity, its bytes. -/
def Byts (h : Heap) (a : Option Addr) (l : List (Option Addr × Nat × List UInt8)) : Prop := l = [] ∨ ∃ sb so, a = some ⟨sb, so, none⟩ ∧ ∀ r x, l[r]? = some x → cellH h sb (so + r) = some (.slice x.1 x.2.2.length x.2.1) ∧ Byt h x.1 x.2.2 ∧ x.2.2.length ≤ x.2.1
theorem Byts.ext {h h' : Heap} {a : Option Addr} {l : List (Option Addr × Nat × List UInt8)} (x : Byts h a l) (k : Ext h h') : Byts h' a l := by
  rcases x with x | ⟨sb, so, h1, h2⟩
  · exact .inl x
  · exact .inr ⟨sb, so, h1, fun r y hy => by
      obtain ⟨q1, q2, q3⟩ := h2 r y hy
      exact ⟨by rw [cellH_keep (k.old sb (lt_of_cellH q1))]; exact q1, q2.ext k, q3⟩⟩
/-- The one at r. -/
theorem Byts.at {h : Heap} {a : Option Addr} {l : List (Option Addr × Nat × List UInt8)} (x : Byts h a l) {r : Nat} (hr : r < l.length) : ∃ sb so, a = some ⟨sb, so, none⟩ ∧ ∃ b c xs, l[r]? = some (b, c, xs) ∧ cellH h sb (so + r) = some (.slice b xs.length c) ∧ Byt h b xs ∧ xs.length ≤ c := by
  rcases x with x | ⟨sb, so, h1, h2⟩
  · subst x; cases hr
  · obtain ⟨y, hy⟩ : ∃ y, l[r]? = some y := ⟨_, List.getElem?_eq_getElem hr⟩
    obtain ⟨q1, q2, q3⟩ := h2 r y hy
    exact ⟨sb, so, h1, y.1, y.2.1, y.2.2, hy, q1, q2, q3⟩
end
end Go.Proofs.YtjopikfkgjbcgaaGreatDoor
