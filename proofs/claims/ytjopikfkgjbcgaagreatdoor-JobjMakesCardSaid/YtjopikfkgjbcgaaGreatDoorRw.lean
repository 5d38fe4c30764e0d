/- Rows of values of one cell: what a slice has; slices that are owned; appends to these. -/
import Derived.Test.YtjopikfkgjbcgaaGreatDoorBytes
import Derived.Test.YtjopikfkgjbcgaaGreatDoorStrs
import Derived.Laws.CopyRow
import Derived.Laws.IdiomCopy
import Derived.Lib.BufferWrite
import Derived.Laws.IdiomStrings
import Derived.Laws.StructEq
namespace Go.Proofs.YtjopikfkgjbcgaaGreatDoor
set_option linter.unnecessarySimpa false
set_option linter.unusedSimpArgs false
open Go.RowKit
set_option linter.unusedVariables false
section
variable {α : Type} {gv : α → Value} {z0 : α}
/-- A slice's bytes. -/
def Row (gv : α → Value) (z0 : α) (h : Heap) (a : Option Addr) (xs : List α) : Prop := xs = [] ∨ ∃ sb so, a = some ⟨sb, so, none⟩ ∧ ∀ j, j < xs.length → cellH h sb (so + j) = some (gv (xs.getD j z0))
theorem Row.ext {h h' : Heap} {a : Option Addr} {xs : List α} (x : Row gv z0 h a xs) (k : Ext h h') : Row gv z0 h' a xs := by
  rcases x with x | ⟨sb, so, h1, h2⟩
  · exact .inl x
  · exact .inr ⟨sb, so, h1, fun j hj => by rw [cellH_keep (k.old sb (lt_of_cellH (h2 j hj)))]; exact h2 j hj⟩
/-- Bytes stay while nothing but the blocks from N on is turned, and they lie below. -/
theorem Row.bel {N : Nat} {h h' : Heap} {a : Option Addr} {xs : List α} (x : Row gv z0 h a xs) (k : Bel N h h') (hN : ∀ sb so, a = some ⟨sb, so, none⟩ → sb < N) : Row gv z0 h' a xs := by
  rcases x with x | ⟨sb, so, h1, h2⟩
  · exact .inl x
  · exact .inr ⟨sb, so, h1, fun j hj => by rw [cellH_keep (k.old sb (hN sb so h1))]; exact h2 j hj⟩
theorem Row.mk {M : Nat} {h h' : Heap} {a : Option Addr} {xs : List α} (x : Row gv z0 h a xs) (k : Mk M h h') : Row gv z0 h' a xs := by
  rcases x with x | ⟨sb, so, h1, h2⟩
  · exact .inl x
  · exact .inr ⟨sb, so, h1, fun j hj => k.cell (h2 j hj)⟩
theorem Row.nil (h : Heap) (a : Option Addr) : Row gv z0 h a [] := .inl rfl
theorem row_block {h : Heap} {sb : Nat} {xs : List α} {t : TypeId} {fr : Nat × Nat} (hb : h[sb]? = some (.cells (xs.map gv).toArray t fr)) : Row gv z0 h (some ⟨sb, 0, none⟩) xs :=
  .inr ⟨sb, 0, rfl, fun j hj => by rw [Nat.zero_add]; exact cellH_map z0 hb hj⟩
/-- A slice of bytes that is owned: it lies in a block from 'base' on, at its begin, and nothing else does. -/
def Rs (gv : α → Value) (h : Heap) (base : Nat) (e : TypeId) (a : Option Addr) (cap : Nat) (xs : List α) : Prop := Own h base e 1 (.slice a xs.length cap) xs.length (xs.map gv) ∧ xs.length ≤ cap
theorem Rs.start (h : Heap) (base : Nat) (e : TypeId) : Rs gv h base e none 0 [] := ⟨Own.nil h base e 1, Nat.le_refl _⟩
theorem Rs.byt {h : Heap} {base : Nat} {e : TypeId} {a : Option Addr} {cap : Nat} {xs : List α} (x : Rs gv h base e a cap xs) : Row gv z0 h a xs := by
  rcases x.1.cases with ⟨h1, h2, h3⟩ | ⟨g, c, h1, h2, h3, h4, h5⟩
  · exact .inl (List.map_eq_nil_iff.1 h3)
  · obtain ⟨rfl, _, rfl⟩ := slice_inj h1
    refine .inr ⟨g, 0, rfl, fun j hj => ?_⟩
    rw [Nat.zero_add]
    exact h5 j _ (getD_map gv xs j z0 hj)
theorem Rs.blk {h : Heap} {base : Nat} {e : TypeId} {a : Option Addr} {cap : Nat} {xs : List α} (x : Rs gv h base e a cap xs) : a = none ∨ ∃ g, a = some ⟨g, 0, none⟩ ∧ base ≤ g ∧ g < h.size := by
  rcases x.1.cases with ⟨h1, h2, h3⟩ | ⟨g, c, h1, h2, h3, h4, h5⟩
  · exact .inl (slice_inj h1).1
  · obtain ⟨rfl, _, rfl⟩ := slice_inj h1
    exact .inr ⟨g, rfl, h2, (x.1.lt g rfl).2⟩
/-- The block, as it is. -/
theorem Rs.blkAt {h : Heap} {base : Nat} {e : TypeId} {g : Nat} {cap : Nat} {xs : List α} (x : Rs gv h base e (some ⟨g, 0, none⟩) cap xs) : ∃ cur : List Value, h[g]? = some (.cells cur.toArray e (0, 0)) ∧ cur.length = cap ∧ cur.take xs.length = xs.map gv := by
  rcases x.1.2 with ⟨h1, h2⟩ | ⟨g', cap', cur, h1, hb, hg, hn, hc, hs, ht⟩
  · cases (slice_inj h1).1
  · obtain ⟨e1, _, rfl⟩ := slice_inj h1
    cases e1
    exact ⟨cur.toList, hg, by simpa using hs, by simpa using ht⟩
theorem Rs.of_blk {h : Heap} {base : Nat} {e : TypeId} {g : Nat} {cap : Nat} {xs : List α} {cur : List Value} (hb : h[g]? = some (.cells cur.toArray e (0, 0))) (hl : cur.length = cap) (ht : cur.take xs.length = xs.map gv) (hg : base ≤ g) (hn : xs.length ≤ cap) (hc : cap ≤ maxLen) : Rs gv h base e (some ⟨g, 0, none⟩) cap xs :=
  ⟨⟨by simp, .inr ⟨g, cap, cur.toArray, rfl, hg, hb, hn, hc, by simpa using hl, by simpa using ht⟩⟩, hn⟩
theorem Rs.capLe {h : Heap} {base : Nat} {e : TypeId} {a : Option Addr} {cap : Nat} {xs : List α} (x : Rs gv h base e a cap xs) : cap ≤ maxLen := by
  rcases x.1.cases with ⟨h1, h2, h3⟩ | ⟨g, c, h1, h2, h3, h4, h5⟩
  · rw [(slice_inj h1).2.2]; exact Nat.zero_le _
  · rw [(slice_inj h1).2.2]; exact h4
theorem Rs.ext {h h' : Heap} {base : Nat} {e : TypeId} {a : Option Addr} {cap : Nat} {xs : List α} (x : Rs gv h base e a cap xs) (k : Ext h h') : Rs gv h' base e a cap xs := ⟨x.1.bel k, x.2⟩
theorem Rs.wr {h h' : Heap} {base : Nat} {e : TypeId} {a : Option Addr} {cap : Nat} {xs : List α} {b : Nat} {o : Obj} (x : Rs gv h base e a cap xs) (k : Wr h h' b o) (hb : b < base) : Rs gv h' base e a cap xs :=
  ⟨x.1.keep fun j hj => k.old j (by have := (x.1.lt j hj).1; omega), x.2⟩
theorem Rs.bel {h h' : Heap} {base : Nat} {e : TypeId} {a : Option Addr} {cap : Nat} {xs : List α} {N : Nat} (x : Rs gv h base e a cap xs) (k : Bel N h h') (hN : ∀ sb, a = some ⟨sb, 0, none⟩ → sb < N) : Rs gv h' base e a cap xs :=
  ⟨x.1.keep fun j hj => k.old j (by
    rcases x.blk with e1 | ⟨g, e1, _, _⟩
    · subst e1; cases hj
    · have := hN g e1; subst e1; cases hj; omega), x.2⟩
/-- A slice that is written out, of one block. -/
theorem Rs.lit {h h' : Heap} {base : Nat} {e : TypeId} {xs : List α} (k : Nw h h' (.cells (xs.map gv).toArray e (0, 0))) (hb : base ≤ h.size) (hl : xs.length ≤ maxLen) : Rs gv h' base e (some ⟨h.size, 0, none⟩) xs.length xs :=
  ⟨⟨by simp, .inr ⟨h.size, xs.length, _, rfl, hb, k.new, Nat.le_refl _, hl, by simp, by simp [List.take_of_length_le]⟩⟩, Nat.le_refl _⟩
/-- Owned rows from a lower base. -/
theorem Rs.low {h : Heap} {base base' e : Nat} {a : Option Addr} {cap : Nat} {xs : List α} (x : Rs gv h base e a cap xs) (hb : base' ≤ base) : Rs gv h base' e a cap xs := by
  rcases x.blk with rfl | ⟨g, rfl, hg, _⟩
  · refine ⟨?_, x.2⟩
    rcases x.1.cases with ⟨h1, h2, h3⟩ | ⟨g, c, h1, h2, _⟩
    · rw [h1, h2, h3]; exact Own.nil h base' e 1
    · have := (slice_inj h1).1
      cases this
  · obtain ⟨cur, h1, h2, h3⟩ := x.blkAt
    exact Rs.of_blk h1 h2 h3 (by omega) x.2 x.capLe
theorem Row.at {h : Heap} {a : Option Addr} {xs : List α} (x : Row gv z0 h a xs) {k : Nat} (hk : k < xs.length) : ∃ sb so, a = some ⟨sb, so, none⟩ ∧ cellH h sb (so + k) = some (gv (xs.getD k z0)) := by
  rcases x with rfl | ⟨sb, so, ha, hc⟩
  · cases hk
  · exact ⟨sb, so, ha, hc k hk⟩
theorem Row.take {h : Heap} {a : Option Addr} {xs : List α} (x : Row gv z0 h a xs) (n : Nat) : Row gv z0 h a (xs.take n) := by
  rcases x with rfl | ⟨sb, so, ha, hc⟩
  · exact .inl (by simp)
  · refine .inr ⟨sb, so, ha, fun j hj => ?_⟩
    have hj' : j < xs.length ∧ j < n := by rw [List.length_take] at hj; omega
    rw [hc j hj'.1]
    rw [List.getD_eq_getElem?_getD, List.getD_eq_getElem?_getD, List.getElem?_take, if_pos hj'.2]
theorem Row.drop {h : Heap} {a a' : Option Addr} {xs : List α} {cap : Nat} (x : Row gv z0 h a xs) (k : Nat) (hc : xs.length ≤ cap) (hk : k ≤ xs.length) (ha : (if cap = k then a else a.map (·.add (k * 1))) = a') : Row gv z0 h a' (xs.drop k) := by
  subst ha
  by_cases hl : k = xs.length
  · exact .inl (List.drop_of_length_le (by omega))
  · rcases x with rfl | ⟨sb, so, ha, hcell⟩
    · exact .inl (by simp)
    · rw [if_neg (by omega)]
      subst ha
      refine .inr ⟨sb, so + k, by rw [Option.map_some, addr_add, Nat.mul_one], fun j hj => ?_⟩
      rw [List.length_drop] at hj
      rw [show so + k + j = so + (k + j) by omega, hcell (k + j) (by omega), List.getD_eq_getElem?_getD, List.getD_eq_getElem?_getD, List.getElem?_drop]
theorem GrA.belR {N base : Nat} {h0 h h' : Heap} {e : TypeId} {a : Option Addr} {cap : Nat} {xs : List α} (k : GrA h h' a) (x : Bel N h0 h) (y : Rs gv h base e a cap xs) (hb : N ≤ base) (hN : N ≤ h0.size) : Bel N h0 h' := by
  refine Bel.gr x k hN fun j hj => ?_
  have := (y.1.lt j (by cases a <;> exact hj)).1
  omega
/-- Another block stays. -/
theorem GrA.oldR {base : Nat} {h h' : Heap} {e : TypeId} {a : Option Addr} {cap : Nat} {xs : List α} (k : GrA h h' a) (y : Rs gv h base e a cap xs) {j : Nat} (hj : j < base) (hs : j < h.size) : h'[j]? = h[j]? :=
  Gr.old k j hs (fun e => by have := (y.1.lt j (by cases a <;> exact e.symm)).1; omega)
section
variable {P : Program} {ρ : Operand → Value} {h : Heap} {d : Option Tmp} {ty : TypeId} {pos : String} {af : Array Edge} {gd : Option (Nat × Bool)} {K : Value → Heap → Prop} {T T2 : TypeId} {x y : Operand}
/-- Append bytes to a slice that is owned. -/
theorem HO.rapp {base e kb : Nat} {a sa : Option Addr} {cap sc m : Nat} {xs ys : List α} {z : Value} (hu : P.underlying T = some (.slice e)) (hi : (P.info? e).map (fun i => (i.zero, i.size, i.bytes)) = some (some z, 1, kb)) (hzs : z.cells.size = 1) (hone : ∀ x, (gv x).oneCell' = true)
    {n : Nat} (hx : ρ x = .slice a n cap) (hy : ρ y = .slice sa m sc) (hn : n = xs.length) (hm : m = ys.length) (hown : Rs gv h base e a cap xs) (hsrc : Row gv z0 h sa ys) (hlen : (xs.length + ys.length) * kb ≤ 140737488355328) (hml : xs.length + ys.length ≤ maxLen) (hbase : base ≤ h.size)
    (k : ∀ a' cap' h', Rs gv h' base e a' cap' (xs ++ ys) → GrA h h' a → (a' = a ∨ a' = some ⟨h.size, 0, none⟩ ∨ a' = none) → K (.slice a' (xs ++ ys).length cap') h') : HO P ⟨d, .call { callee := .builtin .append, args := #[x, y], argTypes := #[T, T] }, ty, pos, af, gd⟩ ρ h K := by
  subst hn
  subst hm
  rcases hsrc with hnil | ⟨sb, so, hsa, hc⟩
  · subst hnil
    intro w hw
    subst hw
    cases hq : P.info? e with
    | none => simp [hq] at hi
    | some i =>
      have hs : Src P i.size T (.slice sa 0 sc) 0 [] w := ⟨.inl ⟨e, hu⟩, fun w' => rfl, by cases sa <;> simp [Builtin.firstCells, loadCells] <;> rfl, by cases sa <;> simp [Builtin.firstCells, loadCells] <;> rfl, by simp, by simp⟩
      have h1 := run_append_nothing w T T ty e i hu hq a xs.length cap hown.2 (.slice sa 0 sc) hs
      have : (execOp ρ ⟨d, .call { callee := .builtin .append, args := #[x, y], argTypes := #[T, T] }, ty, pos, af, gd⟩).run P w = .ok (.value (.slice a xs.length cap)) w := by
        simp [BigFrame.execOp_builtin, BigFrame.builtin_append, hx, hy, Sem.run_bind] at h1 ⊢
        rw [h1]
        rfl
      rw [this]
      refine ⟨Rest.refl _, ?_⟩
      have := k a cap w.heap (by simpa using hown) ⟨Nat.le_refl _, fun _ _ _ => rfl⟩ (.inl rfl)
      simpa using this
  · subst hsa
    have hown1 := hown.1
    refine HO.append (news := ys.map gv) hu hi hzs (by decide) hx hy hown1 (by simp) (fun j u hj => ?_) (one_map gv hone _) hml hlen hbase fun v' h' o g hat => ?_
    · have hj' : j < ys.length := by simpa using (List.getElem?_eq_some_iff.1 hj).1
      rw [hc j hj', ← hj, getD_map gv ys j z0 hj']
    · have hg : GrA h h' a := by cases a <;> exact g
      rcases o.cases with ⟨h1, h2, h3⟩ | ⟨g', c, h1, h2, h3, h4, h5⟩
      · obtain ⟨rfl, _, _⟩ := (⟨h1, h2, h3⟩ : _ ∧ _ ∧ _)
        have he : xs ++ ys = [] := by
          rw [← List.map_append] at h3
          exact List.map_eq_nil_iff.1 h3
        have := k none 0 h' (by rw [he]; exact Rs.start _ _ _) hg (.inr (.inr rfl))
        rw [he] at this
        exact this
      · subst h1
        have := k (some ⟨g', 0, none⟩) c h' ⟨by rw [List.map_append, List.length_append]; exact o, by simpa using h3⟩ hg (by
          rcases hat with q | q
          · left
            rcases hown.blk with r | ⟨g0, r, _, _⟩
            · subst r; cases q
            · subst r; cases q; rfl
          · right; left; cases q; rfl)
        rw [List.length_append] at this
        exact this
/-- Append bytes to a slice that is owned. -/
theorem HO.rapp1 {base e kb : Nat} {a sa : Option Addr} {cap sc m : Nat} {xs ys : List α} {z : Value} (hu : P.underlying T = some (.slice e)) (hi : (P.info? e).map (fun i => (i.zero, i.size, i.bytes)) = some (some z, 1, kb)) (hzs : z.cells.size = 1) (hone : ∀ x, (gv x).oneCell' = true)
    {n : Nat} (hx : ρ x = .slice a n cap) (hy : ρ y = .slice sa m sc) (hn : n = xs.length) (hm : m = ys.length) (hown : Rs gv h base e a cap xs) (hsrc : Row gv z0 h sa ys) (hlen : (xs.length + ys.length) * kb ≤ 140737488355328) (hml : xs.length + ys.length ≤ maxLen) (hbase : base ≤ h.size)
    (k : ∀ a' cap' h', Rs gv h' base e a' cap' (xs ++ ys) → GrA h h' a → K (.slice a' (xs ++ ys).length cap') h') : HO P ⟨d, .call { callee := .builtin .append, args := #[x, y], argTypes := #[T, T] }, ty, pos, af, gd⟩ ρ h K :=
  HO.rapp hu hi hzs hone hx hy hn hm hown hsrc hlen hml hbase fun a' cap' h' B G _ => k a' cap' h' B G
/-- 'make([]T, n)', T of one cell. -/
theorem HO.makeR {e n kb : Nat} {z : Value} (hu : P.underlying T = some (.slice e)) (hi : (P.info? e).map (fun i => (i.zero, i.size, i.bytes)) = some (some z, 1, kb)) (hz1 : z.cells = #[z]) (hx : ρ x = .int .i64 (n : Int)) (hy : ρ y = .int .i64 (n : Int)) (hn : n * kb ≤ 140737488355328) (hn2 : n ≤ 140737488355328)
    (k : ∀ h', Nw h h' (.cells (List.replicate n z).toArray e (0, 0)) → K (.slice (some ⟨h.size, 0, none⟩) n n) h') : HO P ⟨d, .makeSlice T x y, ty, pos, af, gd⟩ ρ h K := by
  intro w hw
  subst hw
  cases hq : P.info? e with
  | none => simp [hq] at hi
  | some i =>
    simp [hq] at hi
    obtain ⟨hz, hs', hby⟩ := hi
    have h1 := run_make (P := P) w T e i _ hu hq hz .i64 .i64 n n (by omega) (Int.le_refl _) (by rw [hby]; have h9 : ((n * kb : Nat) : Int) ≤ 140737488355328 := (by omega); rw [Int.natCast_mul, Int.mul_comm] at h9; omega) (by omega)
    rw [hs'] at h1
    simp only [Int.toNat_natCast, Nat.mul_one] at h1
    have e1 : madeCells z.cells n = (List.replicate n z).toArray := by
      apply Array.toList_inj.1
      rw [hz1, toList_madeCells_one]
    rw [e1] at h1
    have : (execOp ρ ⟨d, .makeSlice T x y, ty, pos, af, gd⟩).run P w = .ok (.value (.slice (some ⟨w.heap.size, 0, none⟩) n n)) (w.alloc (.cells (List.replicate n z).toArray e)) := by
      simp only [execOp, hx, hy, Sem.run_bind, h1]
      rfl
    rw [this]
    refine ⟨⟨rfl, rfl, rfl⟩, ?_⟩
    rw [heap_alloc]
    exact k _ (Nw.push _ _)
/-- 'clear(s)', s a slice into a block that is known whole. -/
theorem HO.clearR {e b o n c : Nat} {z : Value} {l : List Value} {t : TypeId} (hu : P.underlying T = some (.slice e)) (hv : ∀ w, (zeroValue e).run P w = .ok z w) (hz : z.cells = #[z]) (h1 : z.oneCell' = true) (hx : ρ x = .slice (some ⟨b, o, none⟩) n c) (hb : h[b]? = some (.cells l.toArray t (0, 0))) (hfit : o + n ≤ l.length)
    (k : ∀ h', Wr h h' b (.cells (l.take o ++ List.replicate n z ++ l.drop (o + n)).toArray t (0, 0)) → K (.tuple #[]) h') : HO P ⟨d, .call { callee := .builtin .clear, args := #[x], argTypes := #[T] }, ty, pos, af, gd⟩ ρ h K := by
  intro w hw
  subst hw
  have hrun : (Builtin.clear_ #[T] ty #[.slice (some ⟨b, o, none⟩) n c]).run P w = .ok (.tuple #[]) (w.setRow b (l.take o ++ List.replicate n z ++ l.drop (o + n)).toArray) := by
    cases n with
    | zero =>
      have e : (l.take o ++ List.replicate 0 z ++ l.drop (o + 0)).toArray = l.toArray := by simp
      rw [e, setRow_self w b l.toArray t (0, 0) hb]
      simp [Builtin.clear_, run_underlying hu]
    | succ m =>
      have hzc : (Builtin.zeroCells z.cells (m + 1)).toList = List.replicate (m + 1) z := by
        rw [hz]
        simp [Builtin.zeroCells]
        apply List.ext_getElem
        · simp
        · intro i h1 h2
          simp [Nat.mod_one]
      have hst := run_storeCells_at P b o t (List.replicate (m + 1) z) 0 l.toArray w hb (by simpa using hfit) (by intro v hv'; rw [List.eq_of_mem_replicate hv']; exact h1)
      simp only [Nat.add_zero, List.length_replicate] at hst
      simp [Builtin.clear_, run_underlying hu, hv, hzc, hst]
  have : (execOp ρ ⟨d, .call { callee := .builtin .clear, args := #[x], argTypes := #[T] }, ty, pos, af, gd⟩).run P w = .ok (.value (.tuple #[])) (w.setRow b (l.take o ++ List.replicate n z ++ l.drop (o + n)).toArray) := by
    simp [BigFrame.execOp_builtin, BigFrame.builtin_clear, hx, Sem.run_bind] at hrun ⊢
    rw [hrun]
    rfl
  rw [this]
  exact ⟨⟨rfl, rfl, rfl⟩, k _ (wr_setRow hb)⟩
theorem Runs.maxI {ats : Array TypeId} {k k' : IntKind} {a b c : Int} (hx : ρ x = .int k a) (hy : ρ y = .int k' b) (hc : (if b > a then b else a) = c) : Runs P ⟨d, .call { callee := .builtin .max, args := #[x, y], argTypes := ats }, ty, pos, af, gd⟩ ρ h (.int k c) := fun w _ => by
  subst hc
  simp [BigFrame.execOp_builtin, BigFrame.builtin_max, hx, hy, Builtin.max_, Builtin.max2, Sem.run_bind]
theorem Runs.lssS {xs ys : List UInt8} {t : Bool} (hx : ρ x = .string (strOf xs)) (hy : ρ y = .string (strOf ys)) (hc : Op.bytesLess xs ys = t) : Runs P ⟨d, .binOp .lss T x y T2, ty, pos, af, gd⟩ ρ h (.bool t) := fun w _ => by
  subst hc
  have e1 := strOf_toList xs
  have e2 := strOf_toList ys
  simp [execOp, hx, hy, eqGuard, binOp, Op.stringOp, e1, e2]
theorem Runs.gtrS {xs ys : List UInt8} {t : Bool} (hx : ρ x = .string (strOf xs)) (hy : ρ y = .string (strOf ys)) (hc : (!(Op.bytesLess xs ys || xs == ys)) = t) : Runs P ⟨d, .binOp .gtr T x y T2, ty, pos, af, gd⟩ ρ h (.bool t) := fun w _ => by
  subst hc
  have e1 := strOf_toList xs
  have e2 := strOf_toList ys
  simp [execOp, hx, hy, eqGuard, binOp, Op.stringOp, e1, e2]
end
end
end Go.Proofs.YtjopikfkgjbcgaaGreatDoor
/-! 'copy' of bytes and of a string into a block of bytes. -/
namespace Go.Proofs.YtjopikfkgjbcgaaGreatDoor
set_option linter.unnecessarySimpa false
open Go.RowKit
set_option linter.unusedSimpArgs false
set_option linter.unusedVariables false
theorem one_B8 (ys : List UInt8) : ∀ v ∈ ys.map B8, v.oneCell' = true := one_map B8 (fun _ => rfl) ys
/-- Bytes laid over others from a place on. -/
def over (xs : List UInt8) (o : Nat) (ys : List UInt8) : List UInt8 := xs.take o ++ ys ++ xs.drop (o + ys.length)
theorem over_len (xs : List UInt8) (o : Nat) (ys : List UInt8) (h : o + ys.length ≤ xs.length) : (over xs o ys).length = xs.length := by
  simp [over]; omega
theorem over_nil (xs : List UInt8) (o : Nat) : over xs o [] = xs := by simp [over]
theorem over_map (xs : List UInt8) (o : Nat) (ys : List UInt8) : (over xs o ys).map B8 = (xs.map B8).take o ++ ys.map B8 ++ (xs.map B8).drop (o + (ys.map B8).length) := by
  simp [over, List.map_append, List.map_take, List.map_drop]
section
variable {P : Program} {ρ : Operand → Value} {h : Heap} {d : Option Tmp} {ty : TypeId} {pos : String} {af : Array Edge} {gd : Option (Nat × Bool)} {K : Value → Heap → Prop} {T T2 : TypeId} {x y : Operand}
theorem HO.copyB {e b o dLen dCap sCap n : Nat} {a : Option Addr} {xs ys : List UInt8} {t : TypeId} (hu : P.underlying T = some (.slice e)) (hs : (P.info? e).map (·.size) = some 1) (hx : ρ x = .slice (some ⟨b, o, none⟩) dLen dCap) (hy : ρ y = .slice a n sCap) (hn : n = ys.length) (hsrc : Byt h a ys)
    (hb : h[b]? = some (.cells (xs.map B8).toArray t (0, 0))) (hd : o + dLen ≤ xs.length)
    (k : ∀ h', Wr h h' b (.cells ((over xs o (ys.take dLen)).map B8).toArray t (0, 0)) → K (.int .i64 ((min ys.length dLen : Nat) : Int)) h') : HO P ⟨d, .call { callee := .builtin .copy, args := #[x, y], argTypes := #[T, T2] }, ty, pos, af, gd⟩ ρ h K := by
  subst hn
  by_cases h0 : ys = []
  · subst h0
    intro w hw
    subst hw
    have h2 := run_copy_none (P := P) w T T2 ty e (some ⟨b, o, none⟩) a dLen dCap 0 sCap hu hs (Nat.zero_min _)
    have : (execOp ρ ⟨d, .call { callee := .builtin .copy, args := #[x, y], argTypes := #[T, T2] }, ty, pos, af, gd⟩).run P w = .ok (.value (goInt 0)) w := by
      simp [BigFrame.execOp_builtin, BigFrame.builtin_copy, hx, hy, Sem.run_bind] at h2 ⊢
      rw [h2]
      rfl
    rw [this]
    refine ⟨Rest.refl _, ?_⟩
    have hk := k w.heap ⟨rfl, by simpa [over_nil] using hb, fun _ _ => rfl⟩
    simpa [goInt] using hk
  · obtain ⟨sb, so, ha, hc⟩ := hsrc.resolve_left h0
    subst ha
    have hl : ((ys.take dLen).map B8).length = Nat.min ys.length dLen := by simp [Nat.min_comm]
    refine HO.copy (cs := (ys.take dLen).map B8) hu hs hx hy hb hl (fun j v hj => ?_) (by rw [hl, List.length_map]; have h9 : Nat.min ys.length dLen ≤ dLen := Nat.min_le_right _ _; omega) (one_B8 _) (fun h' w => ?_)
    · have hlt : j < ys.length ∧ j < dLen := by
        have := (List.getElem?_eq_some_iff.1 hj).1
        rw [hl] at this
        exact ⟨Nat.lt_of_lt_of_le this (Nat.min_le_left _ _), Nat.lt_of_lt_of_le this (Nat.min_le_right _ _)⟩
      rw [hc j hlt.1]
      rw [List.getElem?_map, List.getElem?_take, if_pos hlt.2, List.getElem?_eq_getElem hlt.1] at hj
      rw [← hj]
      simp [List.getElem?_eq_getElem hlt.1]
    · have hk := k h' (by rw [over_map]; exact w)
      rw [hl]
      exact hk
theorem HO.copyS {e b o dLen dCap : Nat} {xs ys : List UInt8} {t : TypeId} (hu : P.underlying T = some (.slice e)) (hs : (P.info? e).map (·.size) = some 1) (hx : ρ x = .slice (some ⟨b, o, none⟩) dLen dCap) (hy : ρ y = .string (strOf ys))
    (hb : h[b]? = some (.cells (xs.map B8).toArray t (0, 0))) (hd : o + ys.length ≤ xs.length) (hle : ys.length ≤ dLen)
    (k : ∀ h', Wr h h' b (.cells ((over xs o ys).map B8).toArray t (0, 0)) → K (.int .i64 (ys.length : Int)) h') : HO P ⟨d, .call { callee := .builtin .copy, args := #[x, y], argTypes := #[T, T2] }, ty, pos, af, gd⟩ ρ h K := by
  intro w hw
  subst hw
  have hz : (strOf ys).size = ys.length := strOf_size ys
  have h2 := Go.Lib.run_copy_row_string (P := P) w T T2 ty e b o dLen dCap (strOf ys) _ t hu hs hb (by rw [hz]; exact hle) (by rw [hz]; simpa using hd)
  have ec : Go.Lib.byteCells (strOf ys).data.toList = ys.map B8 := rfl
  rw [hz, ec] at h2
  have : (execOp ρ ⟨d, .call { callee := .builtin .copy, args := #[x, y], argTypes := #[T, T2] }, ty, pos, af, gd⟩).run P w = .ok (.value (goInt ys.length)) (w.setRow b ((over xs o ys).map B8).toArray) := by
    rw [over_map, List.length_map]
    simp [BigFrame.execOp_builtin, BigFrame.builtin_copy, hx, hy, Sem.run_bind] at h2 ⊢
    rw [h2]
    rfl
  rw [this]
  exact ⟨⟨rfl, rfl, rfl⟩, k _ (wr_setRow hb)⟩
/-- '[]byte(s)'. -/
theorem HO.ofStr {e : TypeId} {xs : List UInt8} (hs : P.underlying T = some .string) (hu : P.underlying T2 = some (.slice e)) (he : P.underlying e = some (.int .u8)) (hx : ρ x = .string (strOf xs))
    (k : ∀ cap h' zs, Nw h h' (.cells (xs.map B8 ++ zs).toArray e (0, 0)) ∨ Nw h h' (.cells (xs.map B8 ++ zs).toArray e ((xs.map B8 ++ zs).length, (xs.map B8 ++ zs).length + 1)) → xs.length ≤ cap → K (.slice (some ⟨h.size, 0, none⟩) xs.length cap) h') : HO P ⟨d, .convert T T2 x, ty, pos, af, gd⟩ ρ h K := by
  intro w hw
  subst hw
  have h1 := run_bytes_of_string (P := P) w T T2 e (strOf xs) hs hu he
  rw [strOf_size] at h1
  generalize hgc : grownCap w xs.length 0 e = gc at h1
  have hge : xs.length ≤ gc := hgc ▸ grownCap_ge w _ _ e
  have hA : bytesRow (strOf xs) gc = (xs.map B8 ++ List.replicate (gc - xs.length) (Value.int .u8 0)).toArray := by
    apply Array.toList_inj.1
    unfold bytesRow
    rw [strOf_size]
    simp [strOf]
  rw [hA] at h1
  have : (execOp ρ ⟨d, .convert T T2 x, ty, pos, af, gd⟩).run P w = .ok (.value (.slice (some ⟨w.heap.size, 0, none⟩) xs.length gc)) (w.drew.alloc (.cells (xs.map B8 ++ List.replicate (gc - xs.length) (Value.int .u8 0)).toArray e ((xs.map B8 ++ List.replicate (gc - xs.length) (Value.int .u8 0)).toArray.size, (xs.map B8 ++ List.replicate (gc - xs.length) (Value.int .u8 0)).toArray.size + 1))) := by
    simp only [execOp, hx, Sem.run_bind, h1]
    rfl
  rw [this]
  refine ⟨⟨rfl, rfl, rfl⟩, ?_⟩
  exact k gc _ (List.replicate (gc - xs.length) (Value.int .u8 0)) (.inr (by
    have := Nw.push w.heap (.cells (xs.map B8 ++ List.replicate (gc - xs.length) (Value.int .u8 0)).toArray e ((xs.map B8 ++ List.replicate (gc - xs.length) (Value.int .u8 0)).toArray.size, (xs.map B8 ++ List.replicate (gc - xs.length) (Value.int .u8 0)).toArray.size + 1))
    rw [List.size_toArray] at this
    exact this)) hge
/-- A call of a function value. -/
theorem HO.callV {fn : FuncId} {F : Func} {as : Array Operand} {ats : Array TypeId} {args cap : Array Value} (hF : P.funcs[fn]? = some F) (hb : F.body.isNone = false) (hn : (F.name == "runtime.NumGoroutine") = false) (ha : as.map ρ = args) (hf : ρ x = .func (.func fn) #[] cap)
    (k : CH P fn (args ++ cap) h K) : HO P ⟨d, .call { callee := .value x, args := as, argTypes := ats }, ty, pos, af, gd⟩ ρ h K := by
  subst ha
  have hn' : F.name ≠ "runtime.NumGoroutine" := by simpa using hn
  have hb' : F.body ≠ none := by intro e; rw [e] at hb; cases hb
  intro w hw
  have : (execOp ρ ⟨d, .call { callee := .value x, args := as, argTypes := ats }, ty, pos, af, gd⟩).run P w = .ok (.enter fn (as.map ρ ++ cap)) w := by
    simp [execOp, resolve, hf, Deferred.ofValue, invoke, callFunc, Sem.run_bind, hF, hn', hb']
  rw [this]
  exact ⟨Rest.refl _, hw ▸ k⟩
/-- An element of an array that is a struct or an array itself. -/
theorem Runs.ixAggs {len e s : Nat} {k : IntKind} {a : Int} {ds : TypeDesc} {cs : Array Value} {v : Value} (hu : P.underlying T = some (.array len e)) (hue : P.underlying e = some ds) (hsc : isScalar ds = false) (hs : (P.info? e).map (·.size) = some s) (hx : ρ x = .agg cs) (hy : ρ y = .int k a) (h0 : 0 ≤ a) (h1 : a < len) (hv : Value.agg (cs.extract (a.toNat * s) (a.toNat * s + s)) = v) :
    Runs P ⟨d, .index T x y, ty, pos, af, gd⟩ ρ h v := fun w _ => by
  subst hv
  simp [execOp, hx, hy, Instr.index, Sem.run_bind, asIntOf, run_underlying hu, h0, h1, run_sizeOf hs, part, run_isAgg hue, hsc]
/-! ### '==' of structs of plain fields -/
def eqv : Value → Value → Bool
  | .int _ a, .int _ b => a == b
  | .string a, .string b => a.toList == b.toList
  | .bool a, .bool b => a == b
  | _, _ => false
def plainV (ds : TypeDesc) (v : Value) : Bool := match ds, v with | .int k, .int k' _ => decide (k = k') | .string, .string _ => true | .bool, .bool _ => true | _, _ => false
theorem run_eqv {t : TypeId} {ds : TypeDesc} {a b : Value} (d : Nat) (w : World) (hu : P.underlying t = some ds) (ha : plainV ds a = true) (hb : plainV ds b = true) : (Op.equalIn (d + 1) t a b).run P w = .ok (eqv a b) w := by
  cases ds <;> cases a <;> simp [plainV] at ha <;> cases b <;> simp [plainV] at hb
  · exact run_equalIn_bool' w d t _ _ hu
  · subst ha; subst hb
    exact run_equalIn_int w d t _ _ _ _ hu
  · exact run_equalIn_string w d t _ _ hu
/-- A field's type is plain, and both hold such a value there. -/
def fieldOk (P : Program) (xs ys : Array Value) (F : Field) : Bool := F.name != "_" && match P.underlying F.type, xs[F.offset]?, ys[F.offset]? with | some ds, some a, some b => plainV ds a && plainV ds b && isScalar ds | _, _, _ => false
theorem eqFields_plain {xs ys : Array Value} (d : Nat) (w : World) : ∀ (fs : List Field), (fs.all fun F => fieldOk P xs ys F) = true → (Op.eqFields (d + 1) xs ys fs).run P w = .ok (fs.all fun F => eqv (xs.getD F.offset undef) (ys.getD F.offset undef)) w
  | [], _ => by simp [Op.eqFields]
  | F :: fs, hh => by
    rw [List.all_cons, Bool.and_eq_true] at hh
    have ih := eqFields_plain d w fs hh.2
    obtain ⟨h1, h2⟩ := (Bool.and_eq_true _ _).mp (show (fieldOk P xs ys F) = true from hh.1)
    have hn : F.name ≠ "_" := by simpa using h1
    cases hu : P.underlying F.type with
    | none => rw [hu] at h2; cases h2
    | some ds =>
      cases ha : xs[F.offset]? with
      | none => rw [hu, ha] at h2; cases h2
      | some a =>
        cases hb : ys[F.offset]? with
        | none => rw [hu, ha, hb] at h2; cases h2
        | some b =>
          rw [hu, ha, hb] at h2
          simp only [Bool.and_eq_true] at h2
          have p1 : (part F.type xs F.offset).run P w = .ok a w := by simp [part, Sem.run_bind, run_isAgg hu, h2.2, ha]
          have p2 : (part F.type ys F.offset).run P w = .ok b w := by simp [part, Sem.run_bind, run_isAgg hu, h2.2, hb]
          have p3 := run_eqv d w hu h2.1.1 h2.1.2
          rw [Op.eqFields]
          simp only [if_pos hn, Sem.run_bind, p1, p2, p3, Result.andThen_ok, List.all_cons]
          have e1 : xs.getD F.offset undef = a := by rw [Array.getD_eq_getD_getElem?, ha]; rfl
          have e2 : ys.getD F.offset undef = b := by rw [Array.getD_eq_getD_getElem?, hb]; rfl
          rw [e1, e2]
          cases eqv a b with
          | false => simp
          | true => simpa using ih
theorem Runs.eqStruct {fs : Array Field} {cs ds : List Value} {t : Bool} (hu : P.underlying T = some (.struct fs)) (hp : P.stoodInHeld T = false) (hg : P.eqGuardType P.depth T = false) (hx : ρ x = .agg cs.toArray) (hy : ρ y = .agg ds.toArray) (hok : (fs.toList.all fun F => fieldOk P cs.toArray ds.toArray F) = true)
    (hc : (fs.toList.all fun F => eqv (cs.toArray.getD F.offset undef) (ds.toArray.getD F.offset undef)) = t) : Runs P ⟨d, .binOp .eql T x y T2, ty, pos, af, gd⟩ ρ h (.bool t) := fun w _ => by
  subst hc
  have hf : P.fieldsOf T = fs := by simp [Program.fieldsOf, hu]
  have h1 := run_eqGuard_agg (P := P) w .eql T x y cs.toArray ds.toArray hg
  have h2 : (binOp .eql T (.agg cs.toArray) (.agg ds.toArray)).run P w = .ok (.bool (fs.toList.all fun F => eqv (cs.toArray.getD F.offset undef) (ds.toArray.getD F.offset undef))) w := by
    rw [run_eql_struct, run_equalIn_struct (P := P) w 9999 T cs.toArray ds.toArray (by rw [hf]; exact hu) hp, hf, eqFields_plain 9998 w fs.toList hok]
    rfl
  simp only [execOp, hx, hy, Sem.run_bind, h1, Result.andThen_ok, h2]
  rfl
theorem HO.moveK (k : K (ρ x) h) : HO P ⟨d, .move x, ty, pos, af, gd⟩ ρ h K := HO.of_runs (Runs.move rfl) k
theorem HO.assignK (k : K (ρ x) h) : HO P ⟨d, .assign x, ty, pos, af, gd⟩ ρ h K := HO.of_runs (Runs.assign rfl) k
theorem HO.extrK {n : Nat} {vs : Array Value} {v : Value} (hx : ρ x = .tuple vs) (hv : vs[n]? = some v) (k : K v h) : HO P ⟨d, .extract x n, ty, pos, af, gd⟩ ρ h K := HO.of_runs (Runs.extr hx hv) k
/-- '[]byte(s)', told by its bytes. -/
theorem HO.ofStrB {e : TypeId} {xs : List UInt8} (hs : P.underlying T = some .string) (hu : P.underlying T2 = some (.slice e)) (he : P.underlying e = some (.int .u8)) (hx : ρ x = .string (strOf xs))
    (k : ∀ cap h', h'.size = h.size + 1 → Ext h h' → Byt h' (some ⟨h.size, 0, none⟩) xs → xs.length ≤ cap → K (.slice (some ⟨h.size, 0, none⟩) xs.length cap) h') : HO P ⟨d, .convert T T2 x, ty, pos, af, gd⟩ ρ h K := by
  refine HO.ofStr hs hu he hx fun cap h' zs hw hcap => ?_
  have hb : ∀ (fr : Nat × Nat), h'[h.size]? = some (.cells (xs.map B8 ++ zs).toArray e fr) → Byt h' (some ⟨h.size, 0, none⟩) xs := fun fr hb => .inr ⟨h.size, 0, rfl, fun j hj => by
    rw [cellH_of hb, Nat.zero_add]
    simp [List.getElem?_append_left, hj, List.getElem?_eq_getElem hj]⟩
  rcases hw with w | w
  · exact k cap h' w.size w.ext (hb _ w.new) hcap
  · exact k cap h' w.size w.ext (hb _ w.new) hcap
theorem eqv_self {ds : TypeDesc} {a : Value} (h : plainV ds a = true) : eqv a a = true := by
  cases ds <;> cases a <;> simp [plainV] at h <;> simp [eqv]
/-- A struct of plain fields, held against itself. -/
theorem Runs.eqStructSelf {fs : Array Field} {cs : List Value} (hu : P.underlying T = some (.struct fs)) (hp : P.stoodInHeld T = false) (hg : P.eqGuardType P.depth T = false) (hx : ρ x = .agg cs.toArray) (hy : ρ y = .agg cs.toArray) (hok : (fs.toList.all fun F => fieldOk P cs.toArray cs.toArray F) = true) :
    Runs P ⟨d, .binOp .eql T x y T2, ty, pos, af, gd⟩ ρ h (.bool true) := by
  refine Runs.eqStruct hu hp hg hx hy hok ?_
  rw [List.all_eq_true] at hok ⊢
  intro F hF
  have h1 := hok F hF
  unfold fieldOk at h1
  rw [Bool.and_eq_true] at h1
  have h2 := h1.2
  cases hu' : P.underlying F.type with
  | none => rw [hu'] at h2; cases h2
  | some ds =>
    cases ha : cs.toArray[F.offset]? with
    | none => rw [hu', ha] at h2; cases h2
    | some a =>
      rw [hu', ha] at h2
      simp only [Bool.and_eq_true] at h2
      rw [Array.getD_eq_getD_getElem?, ha]
      exact eqv_self h2.1.1
end
end Go.Proofs.YtjopikfkgjbcgaaGreatDoor
/-! A region that draws its order in which some operations, one behind the other in every order (the chain), turn memory as they like, and the others neither turn it nor look at it. -/
namespace Go.Proofs.YtjopikfkgjbcgaaGreatDoor
set_option linter.unnecessarySimpa false
set_option linter.unusedSimpArgs false
set_option linter.unusedVariables false
open Go.RowKit
section chain
variable (P : Program) (n : Nat) (ops : Array Oper) (bef : Array Nat) (C : Nat → Bool) (Ψ : Nat → St → Heap → Prop) (f0 : St)
structure Known3 (Φ : Nat → Value → Prop) (k : Nat) (f : St) : Prop where
  get : ∀ j, C j = false → pre bef j k = true → ∀ o d, ops[j]? = some o → o.dst = some d → Φ j (f d)
  old : ∀ s, (∀ j o, ops[j]? = some o → o.dst = some s → pre bef k j = true) → f s = f0 s
/-- The chain stands at t, as operation k comes up. -/
def AtC (t k : Nat) : Prop := t ≤ k ∧ (∀ j, t ≤ j → j < k → C j = false) ∧ (t = 0 ∨ C (t - 1) = true)
def Owes3 (Φ : Nat → Value → Prop) (k : Nat) (o : Oper) (φ : Value → Prop) : Prop :=
  o.guard = none ∧
  if C k = true then ∀ t, AtC C t k → ∀ f h, Known3 ops bef C f0 Φ k f → Ψ t f h → HO P o (ev f) h fun v h' => Ψ (k + 1) (updo f o.dst v) h'
  else ∀ f h, Known3 ops bef C f0 Φ k f → (∃ t, (∀ c, C c = true → pre bef k c = true → t ≤ c) ∧ Ψ t f h) → HO P o (ev f) h fun v h' => h' = h ∧ φ v
def HM3 (Q : (Nat → Value → Prop) → Prop) : Nat → List Oper → (Nat → Value → Prop) → Prop
  | _, [], Φ => Q Φ
  | k, o :: l, Φ => ∃ φ, Owes3 P ops bef C Ψ f0 Φ k o φ ∧ HM3 Q (k + 1) l (fun i => if i = k then φ else Φ i)
/-- The check of the chain: each of it stands ahead of the next. -/
def chainOk : Bool := (List.range ops.size).all fun i => (List.range i).all fun j => !(C i && C j) || pre bef j i
variable {P n ops bef C Ψ f0}
theorem AtC.eq {t s k : Nat} (a : AtC C t k) (b : AtC C s k) : t = s := by
  obtain ⟨a1, a2, a3⟩ := a
  obtain ⟨b1, b2, b3⟩ := b
  rcases Nat.lt_trichotomy t s with h | h | h
  · rcases b3 with q | q
    · omega
    · have := a2 (s - 1) (by omega) (by omega)
      rw [q] at this
      cases this
  · exact h
  · rcases a3 with q | q
    · omega
    · have := b2 (t - 1) (by omega) (by omega)
      rw [q] at this
      cases this
theorem Owes3.congr {Φ Φ' : Nat → Value → Prop} {k : Nat} {o : Oper} {φ : Value → Prop} (x : Owes3 P ops bef C Ψ f0 Φ k o φ) (h : ∀ j, j < k → Φ' j = Φ j) : Owes3 P ops bef C Ψ f0 Φ' k o φ := by
  have hK : ∀ f, Known3 ops bef C f0 Φ' k f → Known3 ops bef C f0 Φ k f := fun f K => ⟨fun j hc hj o d ho hd => by
    have hlt : j < k := by simp only [pre, Bool.and_eq_true, decide_eq_true_eq] at hj; exact hj.1
    rw [← h j hlt]
    exact K.get j hc hj o d ho hd, K.old⟩
  refine ⟨x.1, ?_⟩
  have h2 := x.2
  split at h2
  · rename_i hc
    rw [if_pos hc]
    exact fun t ht f hh K => h2 t ht f hh (hK f K)
  · rename_i hc
    rw [if_neg hc]
    exact fun f hh K => h2 f hh (hK f K)
theorem HM3.global {Q : (Nat → Value → Prop) → Prop} : ∀ (l : List Oper) (k : Nat) (Φ : Nat → Value → Prop), HM3 P ops bef C Ψ f0 Q k l Φ → ops.toList.drop k = l →
    (∀ i o, i < k → ops[i]? = some o → Owes3 P ops bef C Ψ f0 Φ i o (Φ i)) →
    ∃ Φ, Q Φ ∧ ∀ i o, ops[i]? = some o → Owes3 P ops bef C Ψ f0 Φ i o (Φ i)
  | [], k, Φ, h, hl, hp => by
    refine ⟨Φ, h, fun i o ho => hp i o ?_ ho⟩
    have h1 := (Array.getElem?_eq_some_iff.1 ho).1
    have h2 : ops.toList.length ≤ k := List.drop_eq_nil_iff.1 hl
    simp at h2
    omega
  | o :: l, k, Φ, h, hl, hp => by
    obtain ⟨φ, ho, hr⟩ := h
    have hk : ops[k]? = some o := by
      have := congrArg (·[0]?) hl
      simpa using this
    refine HM3.global l (k + 1) _ hr ?_ ?_
    · have := congrArg (List.drop 1) hl
      rw [List.drop_drop] at this
      simpa using this
    · intro i o' hi ho'
      by_cases hik : i = k
      · subst hik
        rw [hk] at ho'
        cases ho'
        simp only [if_true]
        exact ho.congr fun j hj => by rw [if_neg (by omega)]
      · have := hp i o' (by omega) ho'
        simp only [if_neg hik]
        exact this.congr fun j hj => by rw [if_neg (by omega)]
structure MInv3 (n : Nat) (ops : Array Oper) (bef : Array Nat) (C : Nat → Bool) (Ψ : Nat → St → Heap → Prop) (f0 : St) (w0 : World) (Φ : Nat → Value → Prop) (listed : Array Bool) (a : Act) (w : World) (f : St) : Prop where
  size : listed.size = ops.size
  rep : Rep n f a
  rest : Rest w0 w
  closed : ∀ i, listed.getD i false = true → ∀ j, pre bef j i = true → listed.getD j false = true
  vals : ∀ i o d, ops[i]? = some o → C i = false → listed.getD i false = true → o.dst = some d → Φ i (f d)
  old : ∀ s, (∀ i o, ops[i]? = some o → listed.getD i false = true → o.dst ≠ some s) → f s = f0 s
  now : ∃ t, t ≤ ops.size ∧ (∀ j, j < t → j < ops.size → C j = true → listed.getD j false = true) ∧ (∀ j, t ≤ j → C j = true → listed.getD j false = false) ∧ (t = 0 ∨ C (t - 1) = true) ∧ Ψ t f w.heap
theorem mono_any3 (hB : monoB n ops bef = true) (hC : chainOk ops bef C = true) (hst : ∀ t f h d v i o, ops[i]? = some o → C i = false → o.dst = some d → Ψ t f h → Ψ t (upd f d v) h)
    {Φ : Nat → Value → Prop} (hΦ : ∀ i o, ops[i]? = some o → Owes3 P ops bef C Ψ f0 Φ i o (Φ i)) {w0 : World} {Q' : Exit → Act → World → Prop}
    (hQ : ∀ listed a w f, MInv3 n ops bef C Ψ f0 w0 Φ listed a w f → (∀ i, i < ops.size → listed.getD i false = true) → Q' .normal a w) :
    ∀ (fuel : Nat) (listed : Array Bool) (a : Act) (w : World) (f : St), MInv3 n ops bef C Ψ f0 w0 Φ listed a w f → leftOf listed ops.size = fuel → wpAny P .any ops Q' fuel listed a w := by
  intro fuel
  induction fuel with
  | zero =>
    intro listed a w f J hl
    have hall : ∀ i, i < ops.size → listed.getD i false = true := by
      intro i hi
      have h1 : ((List.range ops.size).filter fun i => !listed.getD i false) = [] := List.length_eq_zero_iff.1 hl
      have h2 := List.filter_eq_nil_iff.1 h1 i (List.mem_range.2 hi)
      simpa using h2
    refine ⟨?_, hQ listed a w f J hall⟩
    apply List.eq_nil_iff_forall_not_mem.2
    intro i hi
    obtain ⟨h1, oi, h2, -⟩ := mem_ready.1 hi
    have hlt := (Array.getElem?_eq_some_iff.1 h2).1
    have h3 := hall i hlt
    have hls : i < listed.size := by rw [J.size]; exact hlt
    simp [hls] at h1 h3
    rw [h1] at h3
    cases h3
  | succ fuel ih =>
    intro listed a w f J hl
    refine ⟨fun hr => ?_, fun i hi => ?_⟩
    · exfalso
      have hne : ((List.range ops.size).filter fun i => !listed.getD i false) ≠ [] := by
        intro e
        unfold leftOf at hl
        rw [e] at hl
        cases hl
      obtain ⟨i, hi⟩ := List.exists_mem_of_ne_nil _ hne
      have key : ∀ m i, i ≤ m → i < ops.size → listed.getD i false = false → False := by
        intro m
        induction m with
        | zero =>
          intro i hi0 hlt hun
          have : i = 0 := by omega
          subst this
          have hls : 0 < listed.size := by rw [J.size]; exact hlt
          have ho : ops[0]? = some ops[0] := by simp [hlt]
          have : 0 ∈ Region.ready .any ops listed := mem_ready.2 ⟨by simpa [hls] using hun, _, ho, fun e he hb => absurd ((mono_spec hB ho).2.1 e he hb) (by omega)⟩
          rw [hr] at this
          cases this
        | succ m ihm =>
          intro i hi0 hlt hun
          have hls : i < listed.size := by rw [J.size]; exact hlt
          have ho : ops[i]? = some ops[i] := by simp [hlt]
          have : i ∈ Region.ready .any ops listed := mem_ready.2 ⟨by simpa [hls] using hun, _, ho, fun e he hb => by
            have hlt' := (mono_spec hB ho).2.1 e he hb
            by_cases hx : listed.getD e.on false = true
            · exact hx
            · exact (ihm e.on (by omega) (by omega) (by simpa using hx)).elim⟩
          rw [hr] at this
          cases this
      obtain ⟨h1, h2⟩ := List.mem_filter.1 hi
      exact key i i (Nat.le_refl _) (List.mem_range.1 h1) (by simpa using h2)
    · obtain ⟨hun, o, ho, hed⟩ := mem_ready.1 hi
      have hlt := (Array.getElem?_eq_some_iff.1 ho).1
      have hls : i < listed.size := by rw [J.size]; exact hlt
      have hun' : listed.getD i false = false := by simp [hls] at hun ⊢; exact hun
      obtain ⟨m1, m2, m3, m4⟩ := mono_spec hB ho
      have hpre : ∀ j, pre bef j i = true → listed.getD j false = true := by
        intro j hj
        obtain ⟨e, he, hb, h1 | h1⟩ := m3 j hj
        · rw [← h1]; exact hed e he hb
        · exact J.closed e.on (hed e he hb) j h1
      have hK : Known3 ops bef C f0 Φ i f := by
        refine ⟨fun j hc hj o' d ho' hd => J.vals j o' d ho' hc (hpre j hj) hd, fun s hs => J.old s fun j o' ho' hlj hd => ?_⟩
        have := J.closed j hlj i (hs j o' ho' hd)
        rw [this] at hun'
        cases hun'
      obtain ⟨hg, how⟩ := hΦ i o ho
      have hset : ∀ j, j ≠ i → (listed.setIfInBounds i true).getD j false = listed.getD j false := fun j hj => by simp [Array.getElem?_setIfInBounds, Ne.symm hj]
      have hseti : (listed.setIfInBounds i true).getD i false = true := by simp [hls]
      have hnext : ∀ (v : Value) (w' : World), Rest w w' → (C i = false → Φ i v) → (∃ t, t ≤ ops.size ∧ (∀ j, j < t → j < ops.size → C j = true → (listed.setIfInBounds i true).getD j false = true) ∧ (∀ j, t ≤ j → C j = true → (listed.setIfInBounds i true).getD j false = false) ∧ (t = 0 ∨ C (t - 1) = true) ∧ Ψ t (updo f o.dst v) w'.heap) → wpAny P .any ops Q' fuel (listed.setIfInBounds i true) (a.put o.dst v) w' := by
        intro v w' hr hv hnow
        refine ih _ _ _ (updo f o.dst v) ?_ (by have := leftOf_set hlt hls hun'; omega)
        refine ⟨by simp [J.size], J.rep.puto o.dst m1 v, J.rest.trans hr, fun i' hi' j hj => ?_, fun i' o' d ho' hc' hi' hd => ?_, fun s hs => ?_, hnow⟩
        · have hlj : listed.getD j false = true := by
            by_cases e : i' = i
            · rw [e] at hj; exact hpre j hj
            · rw [hset i' e] at hi'; exact J.closed i' hi' j hj
          by_cases e : j = i
          · rw [e]; exact hseti
          · rw [hset j e]; exact hlj
        · by_cases e : i' = i
          · subst e
            rw [ho] at ho'
            cases ho'
            rw [hd]
            simp only [updo, upd_eq]
            exact hv hc'
          · rw [hset i' e] at hi'
            have h1 : Φ i' (f d) := J.vals i' o' d ho' hc' hi' hd
            have hne : ∀ d', o.dst = some d' → d ≠ d' := by
              intro d' hd' e2
              subst e2
              rcases Nat.lt_or_gt_of_ne e with hl2 | hl2
              · exact m4 i' o' hl2 ho' d hd' hd
              · exact (mono_spec hB ho').2.2.2 i o hl2 ho d hd hd'
            cases hod : o.dst with
            | none => exact h1
            | some d' => simp only [updo]; rw [upd_ne _ _ _ _ (hne d' hod)]; exact h1
        · have h1 := J.old s fun i' o' ho' hi' => hs i' o' ho' (by
            by_cases e : i' = i
            · rw [e]; exact hseti
            · rw [hset i' e]; exact hi')
          have h2 := hs i o ho hseti
          cases hod : o.dst with
          | none => exact h1
          | some d' => simp only [updo]; rw [upd_ne _ _ _ _ (fun e => h2 (by rw [hod, e]))]; exact h1
      have hrun : ∀ (K : Value → Heap → Prop), HO P o (ev f) w.heap K → (∀ v w', Rest w w' → K v w'.heap → wpAny P .any ops Q' fuel (listed.setIfInBounds i true) (a.put o.dst v) w') → o.wp P a w (wpAny P .any ops Q' fuel (listed.setIfInBounds i true)) Q' := by
        intro K hho hk
        have h1 := hho w rfl
        rw [← J.rep.eval] at h1
        unfold Oper.wp
        generalize (execOp a.eval o).run P w = r at h1
        cases r with
        | halt x w' => simp [Out] at h1
        | ok nx w' =>
          cases nx with
          | value v => exact hk v w' h1.1 h1.2
          | skip => exact hk undef w' h1.1 h1.2
          | enter fn args =>
            simp only [Oper.upon]
            refine (h1.2 w' rfl).mono fun e w'' ⟨v, he, hr2, hkk⟩ => ?_
            subst he
            exact hk v w'' (h1.1.trans hr2) hkk
          | _ => simp [Out] at h1
      obtain ⟨t, tsz, t1, t2, t3, t4⟩ := J.now
      have hgo : o.wp P a w (wpAny P .any ops Q' fuel (listed.setIfInBounds i true)) Q' := by
        by_cases hc : C i = true
        · rw [if_pos hc] at how
          have hti : t ≤ i := by
            rcases Nat.lt_or_ge i t with h | h
            · have := t1 i h hlt hc
              rw [this] at hun'
              cases hun'
            · exact h
          have hno : ∀ j, t ≤ j → j < i → C j = false := by
            intro j hj1 hj2
            cases hcj : C j with
            | false => rfl
            | true =>
              have h1 := t2 j hj1 hcj
              have h2 : pre bef j i = true := by
                unfold chainOk at hC
                have h3 := List.all_eq_true.1 (List.all_eq_true.1 hC i (List.mem_range.2 hlt)) j (List.mem_range.2 hj2)
                simpa [hc, hcj] using h3
              have h3 := hpre j h2
              rw [h1] at h3
              cases h3
          refine hrun _ (how t ⟨hti, hno, t3⟩ f w.heap hK t4) fun v w' hr hk => hnext v w' hr (fun q => by rw [hc] at q; cases q) ⟨i + 1, hlt, fun j hj hjs hcj => ?_, fun j hj hcj => ?_, .inr (by simpa using hc), hk⟩
          · by_cases e : j = i
            · rw [e]; exact hseti
            · rw [hset j e]
              rcases Nat.lt_or_ge j t with h | h
              · exact t1 j h hjs hcj
              · have := hno j h (by omega)
                rw [hcj] at this
                cases this
          · rw [hset j (by omega)]
            exact t2 j (by omega) hcj
        · rw [if_neg hc] at how
          have hcf : C i = false := by simpa using hc
          have hbnd : ∀ c, C c = true → pre bef i c = true → t ≤ c := fun c hcc hpc => Nat.le_of_not_lt fun hlt2 => by
            have := J.closed c (t1 c hlt2 (Nat.lt_of_lt_of_le hlt2 tsz) hcc) i hpc
            rw [this] at hun'
            cases hun'
          refine hrun _ (how f w.heap hK ⟨t, hbnd, t4⟩) fun v w' hr ⟨hh, hk⟩ => hnext v w' hr (fun _ => hk) ⟨t, tsz, fun j hj hjs hcj => ?_, fun j hj hcj => ?_, t3, ?_⟩
          · have e : j ≠ i := fun e => by rw [e, hcf] at hcj; cases hcj
            rw [hset j e]
            exact t1 j hj hjs hcj
          · have e : j ≠ i := fun e => by rw [e, hcf] at hcj; cases hcj
            rw [hset j e]
            exact t2 j hj hcj
          · rw [hh]
            cases hod : o.dst with
            | none => exact t4
            | some d => exact hst t f w.heap d v i o ho hcf hod t4
      unfold wpOp
      simp only [ho]
      rw [if_pos (by unfold Region.wanted; rw [hg])]
      exact .inl hgo
/-- The region. -/
theorem HW.chain {id : Nat} {l : List Oper} {N : St → Heap → Prop} {X : Nat → St → Heap → Prop} {Rt : St → Heap → Prop} {f : St} {h : Heap} (bef : Array Nat) (C : Nat → Bool) (Ψ : Nat → St → Heap → Prop) (hm : P.follows .mixedOrders = true) (hB : monoB n l.toArray bef = true) (hC : chainOk l.toArray bef C = true)
    (h0 : Ψ 0 f h) (hst : ∀ t f h d v i o, l.toArray[i]? = some o → C i = false → o.dst = some d → Ψ t f h → Ψ t (upd f d v) h)
    (k : HM3 P l.toArray bef C Ψ f (fun Φ => ∀ f' h' t, AtC C t l.length → Ψ t f' h' → (∀ (j : Nat) (o : Oper) (d : Nat), l.toArray[j]? = some o → C j = false → o.dst = some d → Φ j (f' d)) → (∀ s : Nat, (∀ (j : Nat) (o : Oper), l.toArray[j]? = some o → o.dst ≠ some s) → f' s = f s) → N f' h') 0 l (fun _ _ => True)) :
    HW P n (.region id l.toArray true) N X Rt f h := by
  intro a w0 w ha hr hw
  obtain ⟨Φ, hN, hΦ⟩ := HM3.global l 0 _ k (by simp) (fun i o hi => by omega)
  refine wp_region_any hm (mono_any3 hB hC hst hΦ (w0 := w0) ?_ _ _ _ _ f ?_ ?_)
  · intro listed a' w' f' J hall
    obtain ⟨t, tsz, t1, t2, t3, t4⟩ := J.now
    refine ⟨f', J.rep, J.rest, hN f' _ t ⟨by simpa using tsz, fun j hj hjl => ?_, t3⟩ t4 (fun j o d ho hc hd => J.vals j o d ho hc (hall j (Array.getElem?_eq_some_iff.1 ho).1) hd) fun s hs => J.old s fun i o ho _ => hs i o ho⟩
    cases hc : C j with
    | false => rfl
    | true =>
      have := t2 j hj hc
      rw [hall j (by simpa using hjl)] at this
      cases this
  · subst hw
    refine ⟨by simp, ha, hr.trans ⟨rfl, rfl, rfl⟩, fun i hi => ?_, fun i o d _ _ hi => ?_, fun s _ => rfl, 0, Nat.zero_le _, fun j hj => by omega, fun j _ _ => ?_, .inl rfl, h0⟩
    · exfalso
      simp [Array.getElem?_replicate] at hi
      split at hi <;> simp at hi
    · exfalso
      simp [Array.getElem?_replicate] at hi
      split at hi <;> simp at hi
    · simp [Array.getElem?_replicate]
      split <;> rfl
  · unfold leftOf
    rw [List.filter_eq_self.2]
    · simp
    · intro i hi
      have := List.mem_range.1 hi
      simp [Array.getElem?_replicate]
      split <;> rfl
end chain
/-- No operation beside the chain writes slot s. -/
def offC (ops : Array Oper) (C : Nat → Bool) (s : Nat) : Bool := (List.range ops.size).all fun i => C i || match (ops[i]?).bind (·.dst) with | some d => !Nat.beq d s | none => true
theorem offC_spec {ops : Array Oper} {C : Nat → Bool} {s : Nat} (h : offC ops C s = true) {i : Nat} {o : Oper} {d : Nat} (ho : ops[i]? = some o) (hc : C i = false) (hd : o.dst = some d) : s ≠ d := by
  intro e
  have := List.all_eq_true.1 h i (List.mem_range.2 (Array.getElem?_eq_some_iff.1 ho).1)
  rw [ho, hc] at this
  simp [hd, e] at this
theorem AtC.of {C : Nat → Bool} {t k : Nat} (h : (Nat.ble t k && ((List.range k).all fun j => !Nat.ble t j || !C j) && (Nat.beq t 0 || C (t - 1))) = true) : AtC C t k := by
  rw [Bool.and_eq_true, Bool.and_eq_true, Bool.or_eq_true] at h
  obtain ⟨⟨h1, h2⟩, h3⟩ := h
  refine ⟨Nat.le_of_ble_eq_true h1, fun j hj1 hj2 => ?_, ?_⟩
  · have := List.all_eq_true.1 h2 j (List.mem_range.2 hj2)
    rw [Nat.ble_eq_true_of_le hj1] at this
    simpa using this
  · rcases h3 with h3 | h3
    · exact .inl (Nat.eq_of_beq_eq_true h3)
    · exact .inr h3
section chainRules
variable {P : Program} {n : Nat} {ops : Array Oper} {bef : Array Nat} {C : Nat → Bool} {Ψ : Nat → St → Heap → Prop} {f0 : St} {Q : (Nat → Value → Prop) → Prop} {k : Nat} {l : List Oper} {Φ : Nat → Value → Prop}
  {d : Nat} {oq : Op} {ty : TypeId} {pos : String} {af : Array Edge}
theorem HM3.still {v : Value} (hc : C k = false) (r : ∀ f h, Known3 ops bef C f0 Φ k f → Runs P ⟨some d, oq, ty, pos, af, none⟩ (ev f) h v)
    (hk : HM3 P ops bef C Ψ f0 Q (k + 1) l (fun i => if i = k then (fun x => x = v) else Φ i)) : HM3 P ops bef C Ψ f0 Q k (⟨some d, oq, ty, pos, af, none⟩ :: l) Φ :=
  ⟨fun x => x = v, ⟨rfl, by rw [if_neg (by rw [hc]; decide)]; exact fun f h K _ => HO.of_runs (r f h K) ⟨rfl, rfl⟩⟩, hk⟩
/-- A still operation that looks at memory: the chain has not come further than to what stands behind it. -/
theorem HM3.look {v : Value} (hc : C k = false) (r : ∀ f h, Known3 ops bef C f0 Φ k f → (∃ t, (∀ c, C c = true → pre bef k c = true → t ≤ c) ∧ Ψ t f h) → Runs P ⟨some d, oq, ty, pos, af, none⟩ (ev f) h v)
    (hk : HM3 P ops bef C Ψ f0 Q (k + 1) l (fun i => if i = k then (fun x => x = v) else Φ i)) : HM3 P ops bef C Ψ f0 Q k (⟨some d, oq, ty, pos, af, none⟩ :: l) Φ :=
  ⟨fun x => x = v, ⟨rfl, by rw [if_neg (by rw [hc]; decide)]; exact fun f h K E => HO.of_runs (r f h K E) ⟨rfl, rfl⟩⟩, hk⟩
/-- A turn that has no slot. -/
theorem HM3.turnN (t : Nat) (hc : C k = true) (ht : AtC C t k) (how : ∀ f h, Known3 ops bef C f0 Φ k f → Ψ t f h → HO P ⟨none, oq, ty, pos, af, none⟩ (ev f) h fun _ h' => Ψ (k + 1) f h')
    (hk : HM3 P ops bef C Ψ f0 Q (k + 1) l (fun i => if i = k then (fun _ => True) else Φ i)) : HM3 P ops bef C Ψ f0 Q k (⟨none, oq, ty, pos, af, none⟩ :: l) Φ :=
  ⟨fun _ => True, ⟨rfl, by rw [if_pos hc]; exact fun t' ht' f h K hΨ => by rw [ht'.eq ht] at hΨ; exact how f h K hΨ⟩, hk⟩
theorem HM3.turn (t : Nat) (hc : C k = true) (ht : AtC C t k) (how : ∀ f h, Known3 ops bef C f0 Φ k f → Ψ t f h → HO P ⟨some d, oq, ty, pos, af, none⟩ (ev f) h fun v h' => ∀ u, u = v → Ψ (k + 1) (upd f d u) h')
    (hk : HM3 P ops bef C Ψ f0 Q (k + 1) l (fun i => if i = k then (fun _ => True) else Φ i)) : HM3 P ops bef C Ψ f0 Q k (⟨some d, oq, ty, pos, af, none⟩ :: l) Φ :=
  ⟨fun _ => True, ⟨rfl, by rw [if_pos hc]; exact fun t' ht' f h K hΨ => by rw [ht'.eq ht] at hΨ; exact (how f h K hΨ).mono fun v h' q => q v rfl⟩, hk⟩
theorem Known3.keep {f : St} (K : Known3 ops bef C f0 Φ k f) {s : Nat} (hn : notW ops s = true) : f s = f0 s := K.old s fun j o hj hd => absurd hd (notW_spec hn hj)
theorem Known3.keepB {f : St} (K : Known3 ops bef C f0 Φ k f) {s : Nat} (hn : preW ops bef k s = true) : f s = f0 s := K.old s fun j o hj hd => by
  have h1 := List.all_eq_true.1 hn j (List.mem_range.2 (Array.getElem?_eq_some_iff.1 hj).1)
  rw [hj] at h1
  simpa [hd] using h1
theorem Known3.at {f : St} (K : Known3 ops bef C f0 Φ k f) (j d : Nat) (hc : C j = false) (hp : pre bef j k = true) (hd : (ops[j]?).bind (·.dst) = some d) : Φ j (f d) := by
  cases ho : ops[j]? with
  | none => rw [ho] at hd; cases hd
  | some o => rw [ho] at hd; exact K.get j hc hp o d ho hd
end chainRules
end Go.Proofs.YtjopikfkgjbcgaaGreatDoor
/-! A region that draws its order in which one operation, q, turns memory that was there, and those ahead of it only grow it; all others leave it as it is. -/
namespace Go.Proofs.YtjopikfkgjbcgaaGreatDoor
set_option linter.unnecessarySimpa false
set_option linter.unusedSimpArgs false
set_option linter.unusedVariables false
open Go.RowKit
section mono
variable (P : Program) (n : Nat) (ops : Array Oper) (bef : Array Nat) (R Rq : Heap → Heap → Prop) (q : Nat) (f0 : St) (h0 : Heap)
/-- What is known when operation k comes up. -/
structure Known2 (Φ : Nat → Value → Heap → Prop) (k : Nat) (f : St) (h : Heap) : Prop where
  grown : (k = q ∨ pre bef k q = true) → R h0 h
  get : ∀ j, pre bef j k = true → ∀ o d, ops[j]? = some o → o.dst = some d → Φ j (f d) h
  old : ∀ s, (∀ j o, ops[j]? = some o → o.dst = some s → pre bef k j = true) → f s = f0 s
/-- What operation k may turn. -/
def Rk (k : Nat) (h h' : Heap) : Prop := if pre bef k q = true then R h h' else if k = q then Rq h h' else h' = h
/-- What operation k owes. -/
def Owes2 (Φ : Nat → Value → Heap → Prop) (k : Nat) (o : Oper) (φ : Value → Heap → Prop) : Prop :=
  ∀ f h, Known2 ops bef R q f0 h0 Φ k f h →
    match o.guard with
    | none => HO P o (ev f) h fun v h' => Rk bef R Rq q k h h' ∧ φ v h'
    | some (g, want) => ∃ og dg b, ops[g]? = some og ∧ og.dst = some dg ∧ Nat.blt dg n = true ∧ f dg = .bool b ∧ if b = want then HO P o (ev f) h fun v h' => Rk bef R Rq q k h h' ∧ φ v h' else φ undef h
def Stable2 (k : Nat) (φ : Value → Heap → Prop) : Prop := k ≠ q → pre bef q k = false → Stable R φ ∧ Stable Rq φ
/-- The operations one by one, in the order of the text. -/
def HM2 (Q : (Nat → Value → Heap → Prop) → Prop) : Nat → List Oper → (Nat → Value → Heap → Prop) → Prop
  | _, [], Φ => Q Φ
  | k, o :: l, Φ => ∃ φ, Stable2 bef R Rq q k φ ∧ Owes2 P n ops bef R Rq q f0 h0 Φ k o φ ∧ HM2 Q (k + 1) l (fun i => if i = k then φ else Φ i)
variable {P n ops bef R Rq q f0 h0}
theorem Owes2.congr {Φ Φ' : Nat → Value → Heap → Prop} {k : Nat} {o : Oper} {φ : Value → Heap → Prop} (x : Owes2 P n ops bef R Rq q f0 h0 Φ k o φ) (h : ∀ j, j < k → Φ' j = Φ j) : Owes2 P n ops bef R Rq q f0 h0 Φ' k o φ := by
  intro f hh K
  refine x f hh ⟨K.grown, fun j hj o d ho hd => ?_, K.old⟩
  have hlt : j < k := by simp only [pre, Bool.and_eq_true, decide_eq_true_eq] at hj; exact hj.1
  rw [← h j hlt]
  exact K.get j hj o d ho hd
theorem HM2.global {Q : (Nat → Value → Heap → Prop) → Prop} : ∀ (l : List Oper) (k : Nat) (Φ : Nat → Value → Heap → Prop), HM2 P n ops bef R Rq q f0 h0 Q k l Φ → ops.toList.drop k = l →
    (∀ i o, i < k → ops[i]? = some o → Stable2 bef R Rq q i (Φ i) ∧ Owes2 P n ops bef R Rq q f0 h0 Φ i o (Φ i)) →
    ∃ Φ, Q Φ ∧ ∀ i o, ops[i]? = some o → Stable2 bef R Rq q i (Φ i) ∧ Owes2 P n ops bef R Rq q f0 h0 Φ i o (Φ i)
  | [], k, Φ, h, hl, hp => by
    refine ⟨Φ, h, fun i o ho => hp i o ?_ ho⟩
    have h1 := (Array.getElem?_eq_some_iff.1 ho).1
    have h2 : ops.toList.length ≤ k := List.drop_eq_nil_iff.1 hl
    simp at h2
    omega
  | o :: l, k, Φ, h, hl, hp => by
    obtain ⟨φ, hs, ho, hr⟩ := h
    have hk : ops[k]? = some o := by
      have := congrArg (·[0]?) hl
      simpa using this
    refine HM2.global l (k + 1) _ hr ?_ ?_
    · have := congrArg (List.drop 1) hl
      rw [List.drop_drop] at this
      simpa using this
    · intro i o' hi ho'
      by_cases hik : i = k
      · subst hik
        rw [hk] at ho'
        cases ho'
        simp only [if_true]
        exact ⟨hs, ho.congr fun j hj => by rw [if_neg (by omega)]⟩
      · have := hp i o' (by omega) ho'
        simp only [if_neg hik]
        exact ⟨this.1, this.2.congr fun j hj => by rw [if_neg (by omega)]⟩
/-- What holds between two operations. -/
structure MInv2 (n : Nat) (ops : Array Oper) (bef : Array Nat) (R : Heap → Heap → Prop) (q : Nat) (f0 : St) (h0 : Heap) (w0 : World) (Φ : Nat → Value → Heap → Prop) (listed : Array Bool) (a : Act) (w : World) (f : St) : Prop where
  size : listed.size = ops.size
  rep : Rep n f a
  rest : Rest w0 w
  grown : listed.getD q false = false → R h0 w.heap
  closed : ∀ i, listed.getD i false = true → ∀ j, pre bef j i = true → listed.getD j false = true
  vals : ∀ i o d, ops[i]? = some o → listed.getD i false = true → o.dst = some d → Φ i (f d) w.heap
  old : ∀ s, (∀ i o, ops[i]? = some o → listed.getD i false = true → o.dst ≠ some s) → f s = f0 s
  turned : listed.getD q false = true → ∃ v, Φ q v w.heap
theorem Rk.refl {k : Nat} (hrf : (∀ a, R a a) ∧ ∀ a, Rq a a) (h : Heap) : Rk bef R Rq q k h h := by
  unfold Rk
  split
  · exact hrf.1 _
  · split
    · exact hrf.2 _
    · rfl
theorem Rk.grow {k : Nat} (hp : pre bef k q = true) {h h' : Heap} (x : R h h') : Rk bef R Rq q k h h' := by unfold Rk; rw [if_pos hp]; exact x
theorem Rk.turn {h h' : Heap} (x : Rq h h') : Rk bef R Rq q q h h' := by
  unfold Rk
  rw [if_neg (by simp [pre]), if_pos rfl]
  exact x
theorem mono_any2 (hB : monoB n ops bef = true) (hrf : ∀ a, R a a) (htr : ∀ a b c, R a b → R b c → R a c) (hrq : ∀ a, Rq a a) {Φ : Nat → Value → Heap → Prop} (hΦ : ∀ i o, ops[i]? = some o → Stable2 bef R Rq q i (Φ i) ∧ Owes2 P n ops bef R Rq q f0 h0 Φ i o (Φ i)) {w0 : World} {Q' : Exit → Act → World → Prop}
    (hQ : ∀ listed a w f, MInv2 n ops bef R q f0 h0 w0 Φ listed a w f → (∀ i, i < ops.size → listed.getD i false = true) → Q' .normal a w) :
    ∀ (fuel : Nat) (listed : Array Bool) (a : Act) (w : World) (f : St), MInv2 n ops bef R q f0 h0 w0 Φ listed a w f → leftOf listed ops.size = fuel → wpAny P .any ops Q' fuel listed a w := by
  intro fuel
  induction fuel with
  | zero =>
    intro listed a w f J hl
    have hall : ∀ i, i < ops.size → listed.getD i false = true := by
      intro i hi
      have h1 : ((List.range ops.size).filter fun i => !listed.getD i false) = [] := List.length_eq_zero_iff.1 hl
      have h2 := List.filter_eq_nil_iff.1 h1 i (List.mem_range.2 hi)
      simpa using h2
    refine ⟨?_, hQ listed a w f J hall⟩
    apply List.eq_nil_iff_forall_not_mem.2
    intro i hi
    obtain ⟨h1, oi, h2, -⟩ := mem_ready.1 hi
    have hlt := (Array.getElem?_eq_some_iff.1 h2).1
    have h3 := hall i hlt
    have hls : i < listed.size := by rw [J.size]; exact hlt
    simp [hls] at h1 h3
    rw [h1] at h3
    cases h3
  | succ fuel ih =>
    intro listed a w f J hl
    refine ⟨fun hr => ?_, fun i hi => ?_⟩
    · exfalso
      have hne : ((List.range ops.size).filter fun i => !listed.getD i false) ≠ [] := by
        intro e
        unfold leftOf at hl
        rw [e] at hl
        cases hl
      obtain ⟨i, hi⟩ := List.exists_mem_of_ne_nil _ hne
      have key : ∀ m i, i ≤ m → i < ops.size → listed.getD i false = false → False := by
        intro m
        induction m with
        | zero =>
          intro i hi0 hlt hun
          have : i = 0 := by omega
          subst this
          have hls : 0 < listed.size := by rw [J.size]; exact hlt
          have ho : ops[0]? = some ops[0] := by simp [hlt]
          have : 0 ∈ Region.ready .any ops listed := mem_ready.2 ⟨by simpa [hls] using hun, _, ho, fun e he hb => absurd ((mono_spec hB ho).2.1 e he hb) (by omega)⟩
          rw [hr] at this
          cases this
        | succ m ihm =>
          intro i hi0 hlt hun
          have hls : i < listed.size := by rw [J.size]; exact hlt
          have ho : ops[i]? = some ops[i] := by simp [hlt]
          have : i ∈ Region.ready .any ops listed := mem_ready.2 ⟨by simpa [hls] using hun, _, ho, fun e he hb => by
            have hlt' := (mono_spec hB ho).2.1 e he hb
            by_cases hx : listed.getD e.on false = true
            · exact hx
            · exact (ihm e.on (by omega) (by omega) (by simpa using hx)).elim⟩
          rw [hr] at this
          cases this
      obtain ⟨h1, h2⟩ := List.mem_filter.1 hi
      exact key i i (Nat.le_refl _) (List.mem_range.1 h1) (by simpa using h2)
    · obtain ⟨hun, o, ho, hed⟩ := mem_ready.1 hi
      have hlt := (Array.getElem?_eq_some_iff.1 ho).1
      have hls : i < listed.size := by rw [J.size]; exact hlt
      have hun' : listed.getD i false = false := by simp [hls] at hun ⊢; exact hun
      obtain ⟨m1, m2, m3, m4⟩ := mono_spec hB ho
      have hpre : ∀ j, pre bef j i = true → listed.getD j false = true := by
        intro j hj
        obtain ⟨e, he, hb, h1 | h1⟩ := m3 j hj
        · rw [← h1]; exact hed e he hb
        · exact J.closed e.on (hed e he hb) j h1
      have hK : Known2 ops bef R q f0 h0 Φ i f w.heap := by
        refine ⟨fun hiq => J.grown ?_, fun j hj o' d ho' hd => J.vals j o' d ho' (hpre j hj) hd, fun s hs => J.old s fun j o' ho' hlj hd => ?_⟩
        · rcases hiq with rfl | hiq
          · exact hun'
          · cases hqq : listed.getD q false with
            | false => rfl
            | true =>
              have := J.closed q hqq i hiq
              rw [this] at hun'
              cases hun'
        · have := J.closed j hlj i (hs j o' ho' hd)
          rw [this] at hun'
          cases hun'
      obtain ⟨hst, how⟩ := hΦ i o ho
      have how := how f w.heap hK
      have hnext : ∀ (v : Value) (w' : World), Rest w w' → Rk bef R Rq q i w.heap w'.heap → Φ i v w'.heap → wpAny P .any ops Q' fuel (listed.setIfInBounds i true) (a.put o.dst v) w' := by
        intro v w' hr hR hv
        have hset : ∀ j, j ≠ i → (listed.setIfInBounds i true).getD j false = listed.getD j false := fun j hj => by simp [Array.getElem?_setIfInBounds, Ne.symm hj]
        have hseti : (listed.setIfInBounds i true).getD i false = true := by simp [hls]
        refine ih _ _ _ (updo f o.dst v) ?_ (by have := leftOf_set hlt hls hun'; omega)
        refine ⟨by simp [J.size], J.rep.puto o.dst m1 v, J.rest.trans hr, ?_, fun i' hi' j hj => ?_, fun i' o' d ho' hi' hd => ?_, fun s hs => ?_, fun hlq => ?_⟩
        · intro hlq
          have hiq : i ≠ q := by
            intro e
            rw [← e, hseti] at hlq
            cases hlq
          rw [hset q (Ne.symm hiq)] at hlq
          unfold Rk at hR
          by_cases hp : pre bef i q = true
          · rw [if_pos hp] at hR
            exact htr _ _ _ (J.grown hlq) hR
          · rw [if_neg hp, if_neg hiq] at hR
            rw [hR]
            exact J.grown hlq
        · have hlj : listed.getD j false = true := by
            by_cases e : i' = i
            · rw [e] at hj; exact hpre j hj
            · rw [hset i' e] at hi'; exact J.closed i' hi' j hj
          by_cases e : j = i
          · rw [e]; exact hseti
          · rw [hset j e]; exact hlj
        · by_cases e : i' = i
          · subst e
            rw [ho] at ho'
            cases ho'
            rw [hd]
            simp only [updo, upd_eq]
            exact hv
          · rw [hset i' e] at hi'
            have h1 : Φ i' (f d) w'.heap := by
              have h0 := J.vals i' o' d ho' hi' hd
              have hst' := (hΦ i' o' ho').1
              unfold Rk at hR
              split at hR
              · rename_i hpq
                have hne : i' ≠ q := by
                  intro e
                  rw [e] at hi'
                  have := J.closed q hi' i hpq
                  rw [this] at hun'
                  cases hun'
                have hne2 : pre bef q i' = false := by
                  cases hpp : pre bef q i' with
                  | false => rfl
                  | true =>
                    have h5 := J.closed i' hi' q hpp
                    have := J.closed q h5 i hpq
                    rw [this] at hun'
                    cases hun'
                exact (hst' hne hne2).1 _ _ _ hR h0
              · split at hR
                · rename_i hiq
                  have hne2 : pre bef q i' = false := by
                    cases hpp : pre bef q i' with
                    | false => rfl
                    | true =>
                      have h5 := J.closed i' hi' q hpp
                      rw [← hiq, hun'] at h5
                      cases h5
                  exact (hst' (fun e' => e (by rw [e', hiq])) hne2).2 _ _ _ hR h0
                · rw [hR]
                  exact h0
            have hne : ∀ d', o.dst = some d' → d ≠ d' := by
              intro d' hd' e2
              subst e2
              rcases Nat.lt_or_gt_of_ne e with hl2 | hl2
              · exact m4 i' o' hl2 ho' d hd' hd
              · exact (mono_spec hB ho').2.2.2 i o hl2 ho d hd hd'
            cases hod : o.dst with
            | none => exact h1
            | some d' => simp only [updo]; rw [upd_ne _ _ _ _ (hne d' hod)]; exact h1
        · have h1 := J.old s fun i' o' ho' hi' => hs i' o' ho' (by
            by_cases e : i' = i
            · rw [e]; exact hseti
            · rw [hset i' e]; exact hi')
          have h2 := hs i o ho hseti
          cases hod : o.dst with
          | none => exact h1
          | some d' => simp only [updo]; rw [upd_ne _ _ _ _ (fun e => h2 (by rw [hod, e]))]; exact h1
        · by_cases e : i = q
          · subst e
            exact ⟨v, hv⟩
          · rw [hset q (fun x => e x.symm)] at hlq
            obtain ⟨u, hu⟩ := J.turned hlq
            have hp : pre bef i q = false := by
              cases hpp : pre bef i q with
              | false => rfl
              | true =>
                have h5 := J.closed q hlq i hpp
                rw [hun'] at h5
                cases h5
            unfold Rk at hR
            rw [hp, if_neg (by decide), if_neg e] at hR
            rw [hR]
            exact ⟨u, hu⟩
      have hrun : (HO P o (ev f) w.heap fun v h' => Rk bef R Rq q i w.heap h' ∧ Φ i v h') → o.wp P a w (wpAny P .any ops Q' fuel (listed.setIfInBounds i true)) Q' := by
        intro hho
        have h1 := hho w rfl
        rw [← J.rep.eval] at h1
        unfold Oper.wp
        generalize (execOp a.eval o).run P w = r at h1
        cases r with
        | halt x w' => simp [Out] at h1
        | ok nx w' =>
          cases nx with
          | value v => exact hnext v w' h1.1 h1.2.1 h1.2.2
          | skip => exact hnext undef w' h1.1 h1.2.1 h1.2.2
          | enter fn args =>
            simp only [Oper.upon]
            refine (h1.2 w' rfl).mono fun e w'' ⟨v, he, hr2, hk⟩ => ?_
            subst he
            exact hnext v w'' (h1.1.trans hr2) hk.1 hk.2
          | _ => simp [Out] at h1
      unfold wpOp
      simp only [ho]
      obtain ⟨dst, op, ty, pos, af, gd⟩ := o
      cases gd with
      | none =>
        rw [if_pos (by rfl)]
        exact .inl (hrun how)
      | some gw =>
        obtain ⟨g, want⟩ := gw
        obtain ⟨og, dg, b, hg1, hg2, hg3, hg4, hg5⟩ := how
        rw [wanted_eq J.rep rfl hg1 hg2 hg3 hg4]
        by_cases hbw : b = want
        · subst hbw
          rw [if_pos (by simp)]
          rw [if_pos rfl] at hg5
          exact .inl (hrun hg5)
        · rw [if_neg (by simpa using hbw)]
          rw [if_neg hbw] at hg5
          exact hnext undef w (Rest.refl _) (Rk.refl ⟨hrf, hrq⟩ _) hg5
/-- The region. -/
theorem HW.last {id : Nat} {l : List Oper} {N : St → Heap → Prop} {X : Nat → St → Heap → Prop} {Rt : St → Heap → Prop} {f : St} {h : Heap} (bef : Array Nat) (R Rq : Heap → Heap → Prop) (q : Nat) (hm : P.follows .mixedOrders = true) (hB : monoB n l.toArray bef = true) (hrf : ∀ a, R a a) (htr : ∀ a b c, R a b → R b c → R a c) (hrq : ∀ a, Rq a a)
    (k : HM2 P n l.toArray bef R Rq q f h (fun Φ => ∀ f' h', (∀ (j : Nat) (o : Oper) (d : Nat), l.toArray[j]? = some o → o.dst = some d → Φ j (f' d) h') → (∀ s : Nat, (∀ (j : Nat) (o : Oper), l.toArray[j]? = some o → o.dst ≠ some s) → f' s = f s) → N f' h') 0 l (fun _ _ _ => True)) :
    HW P n (.region id l.toArray true) N X Rt f h := by
  intro a w0 w ha hr hw
  obtain ⟨Φ, hN, hΦ⟩ := HM2.global l 0 _ k (by simp) (fun i o hi => by omega)
  refine wp_region_any hm (mono_any2 hB hrf htr hrq hΦ (w0 := w0) ?_ _ _ _ _ f ?_ ?_)
  · intro listed a' w' f' J hall
    refine ⟨f', J.rep, J.rest, hN f' _ (fun j o d ho hd => J.vals j o d ho (hall j (Array.getElem?_eq_some_iff.1 ho).1) hd) fun s hs => J.old s fun i o ho _ => hs i o ho⟩
  · subst hw
    refine ⟨by simp, ha, hr.trans ⟨rfl, rfl, rfl⟩, fun _ => hrf _, fun i hi => ?_, fun i o d _ hi => ?_, fun s _ => rfl, fun hi => ?_⟩
    · exfalso
      simp [Array.getElem?_replicate] at hi
      split at hi <;> simp at hi
    · exfalso
      simp [Array.getElem?_replicate] at hi
      split at hi <;> simp at hi
    · exfalso
      simp [Array.getElem?_replicate] at hi
      split at hi <;> simp at hi
  · unfold leftOf
    rw [List.filter_eq_self.2]
    · simp
    · intro i hi
      have := List.mem_range.1 hi
      simp [Array.getElem?_replicate]
      split <;> rfl
/-- The region; and what the operation that turns memory has left. -/
theorem HW.lastQ {id : Nat} {l : List Oper} {N : St → Heap → Prop} {X : Nat → St → Heap → Prop} {Rt : St → Heap → Prop} {f : St} {h : Heap} (bef : Array Nat) (R Rq : Heap → Heap → Prop) (q : Nat) (hql : q < l.length) (hm : P.follows .mixedOrders = true) (hB : monoB n l.toArray bef = true) (hrf : ∀ a, R a a) (htr : ∀ a b c, R a b → R b c → R a c) (hrq : ∀ a, Rq a a)
    (k : HM2 P n l.toArray bef R Rq q f h (fun Φ => ∀ f' h', (∀ (j : Nat) (o : Oper) (d : Nat), l.toArray[j]? = some o → o.dst = some d → Φ j (f' d) h') → (∀ s : Nat, (∀ (j : Nat) (o : Oper), l.toArray[j]? = some o → o.dst ≠ some s) → f' s = f s) → (∃ v, Φ q v h') → N f' h') 0 l (fun _ _ _ => True)) :
    HW P n (.region id l.toArray true) N X Rt f h := by
  intro a w0 w ha hr hw
  obtain ⟨Φ, hN, hΦ⟩ := HM2.global l 0 _ k (by simp) (fun i o hi => by omega)
  refine wp_region_any hm (mono_any2 hB hrf htr hrq hΦ (w0 := w0) ?_ _ _ _ _ f ?_ ?_)
  · intro listed a' w' f' J hall
    refine ⟨f', J.rep, J.rest, hN f' _ (fun j o d ho hd => J.vals j o d ho (hall j (Array.getElem?_eq_some_iff.1 ho).1) hd) (fun s hs => J.old s fun i o ho _ => hs i o ho) (J.turned (hall q (by simpa using hql)))⟩
  · subst hw
    refine ⟨by simp, ha, hr.trans ⟨rfl, rfl, rfl⟩, fun _ => hrf _, fun i hi => ?_, fun i o d _ hi => ?_, fun s _ => rfl, fun hi => ?_⟩
    · exfalso
      simp [Array.getElem?_replicate] at hi
      split at hi <;> simp at hi
    · exfalso
      simp [Array.getElem?_replicate] at hi
      split at hi <;> simp at hi
    · exfalso
      simp [Array.getElem?_replicate] at hi
      split at hi <;> simp at hi
  · unfold leftOf
    rw [List.filter_eq_self.2]
    · simp
    · intro i hi
      have := List.mem_range.1 hi
      simp [Array.getElem?_replicate]
      split <;> rfl
end mono
section lastRules
variable {P : Program} {n : Nat} {ops : Array Oper} {bef : Array Nat} {R Rq : Heap → Heap → Prop} {q : Nat} {f0 : St} {h0 : Heap} {Q : (Nat → Value → Heap → Prop) → Prop} {k : Nat} {l : List Oper} {Φ : Nat → Value → Heap → Prop}
  {d dg j : Nat} {oq : Op} {ty : TypeId} {pos : String} {af : Array Edge} {want : Bool} {oj : Oper}
theorem HM2.one (φ : Value → Heap → Prop) (hst : Stable2 bef R Rq q k φ) (how : ∀ f h, Known2 ops bef R q f0 h0 Φ k f h → HO P ⟨some d, oq, ty, pos, af, none⟩ (ev f) h fun v h' => Rk bef R Rq q k h h' ∧ φ v h')
    (hk : HM2 P n ops bef R Rq q f0 h0 Q (k + 1) l (fun i => if i = k then φ else Φ i)) : HM2 P n ops bef R Rq q f0 h0 Q k (⟨some d, oq, ty, pos, af, none⟩ :: l) Φ := ⟨φ, hst, how, hk⟩
theorem HM2.oneN (φ : Value → Heap → Prop) (hst : Stable2 bef R Rq q k φ) (how : ∀ f h, Known2 ops bef R q f0 h0 Φ k f h → HO P ⟨none, oq, ty, pos, af, none⟩ (ev f) h fun v h' => Rk bef R Rq q k h h' ∧ φ v h')
    (hk : HM2 P n ops bef R Rq q f0 h0 Q (k + 1) l (fun i => if i = k then φ else Φ i)) : HM2 P n ops bef R Rq q f0 h0 Q k (⟨none, oq, ty, pos, af, none⟩ :: l) Φ := ⟨φ, hst, how, hk⟩
theorem HM2.still {v : Value} (hrf : (∀ a, R a a) ∧ ∀ a, Rq a a) (r : ∀ f h, Known2 ops bef R q f0 h0 Φ k f h → Runs P ⟨some d, oq, ty, pos, af, none⟩ (ev f) h v)
    (hk : HM2 P n ops bef R Rq q f0 h0 Q (k + 1) l (fun i => if i = k then (fun x _ => x = v) else Φ i)) : HM2 P n ops bef R Rq q f0 h0 Q k (⟨some d, oq, ty, pos, af, none⟩ :: l) Φ :=
  HM2.one (fun x _ => x = v) (fun _ _ => ⟨fun _ _ _ _ e => e, fun _ _ _ _ e => e⟩) (fun f h K => HO.of_runs (r f h K) ⟨Rk.refl hrf _, rfl⟩) hk
theorem HM2.oneG (φ : Value → Heap → Prop) (hst : Stable2 bef R Rq q k φ) (hj : ops[j]? = some oj) (hdj : oj.dst = some dg) (hdg : Nat.blt dg n = true) (hg : ∀ f h, Known2 ops bef R q f0 h0 Φ k f h → f dg = .bool want)
    (how : ∀ f h, Known2 ops bef R q f0 h0 Φ k f h → HO P ⟨some d, oq, ty, pos, af, some (j, want)⟩ (ev f) h fun v h' => Rk bef R Rq q k h h' ∧ φ v h')
    (hk : HM2 P n ops bef R Rq q f0 h0 Q (k + 1) l (fun i => if i = k then φ else Φ i)) : HM2 P n ops bef R Rq q f0 h0 Q k (⟨some d, oq, ty, pos, af, some (j, want)⟩ :: l) Φ :=
  ⟨φ, hst, fun f h K => ⟨oj, dg, want, hj, hdj, hdg, hg f h K, by rw [if_pos rfl]; exact how f h K⟩, hk⟩
theorem HM2.stillG {v : Value} (hrf : (∀ a, R a a) ∧ ∀ a, Rq a a) (hj : ops[j]? = some oj) (hdj : oj.dst = some dg) (hdg : Nat.blt dg n = true) (hg : ∀ f h, Known2 ops bef R q f0 h0 Φ k f h → f dg = .bool want)
    (r : ∀ f h, Known2 ops bef R q f0 h0 Φ k f h → Runs P ⟨some d, oq, ty, pos, af, some (j, want)⟩ (ev f) h v)
    (hk : HM2 P n ops bef R Rq q f0 h0 Q (k + 1) l (fun i => if i = k then (fun x _ => x = v) else Φ i)) : HM2 P n ops bef R Rq q f0 h0 Q k (⟨some d, oq, ty, pos, af, some (j, want)⟩ :: l) Φ :=
  HM2.oneG (fun x _ => x = v) (fun _ _ => ⟨fun _ _ _ _ e => e, fun _ _ _ _ e => e⟩) hj hdj hdg hg (fun f h K => HO.of_runs (r f h K) ⟨Rk.refl hrf _, rfl⟩) hk
theorem HM2.skipG (hj : ops[j]? = some oj) (hdj : oj.dst = some dg) (hdg : Nat.blt dg n = true) (hg : ∀ f h, Known2 ops bef R q f0 h0 Φ k f h → f dg = .bool (!want))
    (hk : HM2 P n ops bef R Rq q f0 h0 Q (k + 1) l (fun i => if i = k then (fun x _ => x = undef) else Φ i)) : HM2 P n ops bef R Rq q f0 h0 Q k (⟨some d, oq, ty, pos, af, some (j, want)⟩ :: l) Φ :=
  ⟨fun x _ => x = undef, fun _ _ => ⟨fun _ _ _ _ e => e, fun _ _ _ _ e => e⟩, fun f h K => ⟨oj, dg, !want, hj, hdj, hdg, hg f h K, by rw [if_neg (by cases want <;> decide)]⟩, hk⟩
theorem Known2.keep {f : St} {h : Heap} (K : Known2 ops bef R q f0 h0 Φ k f h) {s : Nat} (hn : notW ops s = true) : f s = f0 s := K.old s fun j o hj hd => absurd hd (notW_spec hn hj)
theorem Known2.keepB {f : St} {h : Heap} (K : Known2 ops bef R q f0 h0 Φ k f h) {s : Nat} (hn : preW ops bef k s = true) : f s = f0 s := K.old s fun j o hj hd => by
  have h1 := List.all_eq_true.1 hn j (List.mem_range.2 (Array.getElem?_eq_some_iff.1 hj).1)
  rw [hj] at h1
  simpa [hd] using h1
theorem Known2.at {f : St} {h : Heap} (K : Known2 ops bef R q f0 h0 Φ k f h) (j d : Nat) (hp : pre bef j k = true) (hd : (ops[j]?).bind (·.dst) = some d) : Φ j (f d) h := by
  cases ho : ops[j]? with
  | none => rw [ho] at hd; cases hd
  | some o => rw [ho] at hd; exact K.get j hp o d ho hd
end lastRules
end Go.Proofs.YtjopikfkgjbcgaaGreatDoor
