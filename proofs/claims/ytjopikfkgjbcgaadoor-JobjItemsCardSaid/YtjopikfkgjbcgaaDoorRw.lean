/- Rows of values of one cell: what a slice has; slices that are owned; appends to these. -/
import Derived.Test.YtjopikfkgjbcgaaDoorBytes
import Derived.Test.YtjopikfkgjbcgaaDoorStrs
import Derived.Laws.CopyRow
namespace Go.Proofs.YtjopikfkgjbcgaaDoor
set_option linter.unnecessarySimpa false
set_option linter.unusedSimpArgs false
open Go.RowKit
set_option linter.unusedVariables false
section
variable {α : Type} {gv : α → Value} {z0 : α}
/-- A slice's bytes. -/
def Row (gv : α → Value) (z0 : α) (h : Heap) (a : Option Addr) (xs : List α) : Prop := xs = [] ∨ ∃ sb so, a = some ⟨sb, so, none⟩ ∧ ∀ j, j < xs.length → cellH h sb (so + j) = some (gv (xs.getD j z0))
theorem Row.ext {h h' : Heap} {a : Option Addr} {xs : List α} (x : Row gv z0 h a xs) (k : Ext h h') : Row gv z0 h' a xs := by
  rcases x with x | ⟨sb, so, h1, h2⟩
  · exact .inl x
  · exact .inr ⟨sb, so, h1, fun j hj => by rw [cellH_keep (k.old sb (lt_of_cellH (h2 j hj)))]; exact h2 j hj⟩
/-- Bytes stay while nothing but the blocks from N on is turned, and they lie below. -/
theorem Row.bel {N : Nat} {h h' : Heap} {a : Option Addr} {xs : List α} (x : Row gv z0 h a xs) (k : Bel N h h') (hN : ∀ sb so, a = some ⟨sb, so, none⟩ → sb < N) : Row gv z0 h' a xs := by
  rcases x with x | ⟨sb, so, h1, h2⟩
  · exact .inl x
  · exact .inr ⟨sb, so, h1, fun j hj => by rw [cellH_keep (k.old sb (hN sb so h1))]; exact h2 j hj⟩
theorem Row.mk {M : Nat} {h h' : Heap} {a : Option Addr} {xs : List α} (x : Row gv z0 h a xs) (k : Mk M h h') : Row gv z0 h' a xs := by
  rcases x with x | ⟨sb, so, h1, h2⟩
  · exact .inl x
  · exact .inr ⟨sb, so, h1, fun j hj => k.cell (h2 j hj)⟩
theorem Row.nil (h : Heap) (a : Option Addr) : Row gv z0 h a [] := .inl rfl
theorem row_block {h : Heap} {sb : Nat} {xs : List α} {t : TypeId} {fr : Nat × Nat} (hb : h[sb]? = some (.cells (xs.map gv).toArray t fr)) : Row gv z0 h (some ⟨sb, 0, none⟩) xs :=
  .inr ⟨sb, 0, rfl, fun j hj => by rw [Nat.zero_add]; exact cellH_map z0 hb hj⟩
/-- A slice of bytes that is owned: it lies in a block from 'base' on, at its begin, and nothing else does. -/
def Rs (gv : α → Value) (h : Heap) (base : Nat) (e : TypeId) (a : Option Addr) (cap : Nat) (xs : List α) : Prop := Own h base e 1 (.slice a xs.length cap) xs.length (xs.map gv) ∧ xs.length ≤ cap
theorem Rs.start (h : Heap) (base : Nat) (e : TypeId) : Rs gv h base e none 0 [] := ⟨Own.nil h base e 1, Nat.le_refl _⟩
theorem Rs.byt {h : Heap} {base : Nat} {e : TypeId} {a : Option Addr} {cap : Nat} {xs : List α} (x : Rs gv h base e a cap xs) : Row gv z0 h a xs := by
  rcases x.1.cases with ⟨h1, h2, h3⟩ | ⟨g, c, h1, h2, h3, h4, h5⟩
  · exact .inl (List.map_eq_nil_iff.1 h3)
  · obtain ⟨rfl, _, rfl⟩ := slice_inj h1
    refine .inr ⟨g, 0, rfl, fun j hj => ?_⟩
    rw [Nat.zero_add]
    exact h5 j _ (getD_map gv xs j z0 hj)
theorem Rs.blk {h : Heap} {base : Nat} {e : TypeId} {a : Option Addr} {cap : Nat} {xs : List α} (x : Rs gv h base e a cap xs) : a = none ∨ ∃ g, a = some ⟨g, 0, none⟩ ∧ base ≤ g ∧ g < h.size := by
  rcases x.1.cases with ⟨h1, h2, h3⟩ | ⟨g, c, h1, h2, h3, h4, h5⟩
  · exact .inl (slice_inj h1).1
  · obtain ⟨rfl, _, rfl⟩ := slice_inj h1
    exact .inr ⟨g, rfl, h2, (x.1.lt g rfl).2⟩
/-- The block, as it is. -/
theorem Rs.blkAt {h : Heap} {base : Nat} {e : TypeId} {g : Nat} {cap : Nat} {xs : List α} (x : Rs gv h base e (some ⟨g, 0, none⟩) cap xs) : ∃ cur : List Value, h[g]? = some (.cells cur.toArray e (0, 0)) ∧ cur.length = cap ∧ cur.take xs.length = xs.map gv := by
  rcases x.1.2 with ⟨h1, h2⟩ | ⟨g', cap', cur, h1, hb, hg, hn, hc, hs, ht⟩
  · cases (slice_inj h1).1
  · obtain ⟨e1, _, rfl⟩ := slice_inj h1
    cases e1
    exact ⟨cur.toList, hg, by simpa using hs, by simpa using ht⟩
theorem Rs.of_blk {h : Heap} {base : Nat} {e : TypeId} {g : Nat} {cap : Nat} {xs : List α} {cur : List Value} (hb : h[g]? = some (.cells cur.toArray e (0, 0))) (hl : cur.length = cap) (ht : cur.take xs.length = xs.map gv) (hg : base ≤ g) (hn : xs.length ≤ cap) (hc : cap ≤ maxLen) : Rs gv h base e (some ⟨g, 0, none⟩) cap xs :=
  ⟨⟨by simp, .inr ⟨g, cap, cur.toArray, rfl, hg, hb, hn, hc, by simpa using hl, by simpa using ht⟩⟩, hn⟩
theorem Rs.capLe {h : Heap} {base : Nat} {e : TypeId} {a : Option Addr} {cap : Nat} {xs : List α} (x : Rs gv h base e a cap xs) : cap ≤ maxLen := by
  rcases x.1.cases with ⟨h1, h2, h3⟩ | ⟨g, c, h1, h2, h3, h4, h5⟩
  · rw [(slice_inj h1).2.2]; exact Nat.zero_le _
  · rw [(slice_inj h1).2.2]; exact h4
theorem Rs.ext {h h' : Heap} {base : Nat} {e : TypeId} {a : Option Addr} {cap : Nat} {xs : List α} (x : Rs gv h base e a cap xs) (k : Ext h h') : Rs gv h' base e a cap xs := ⟨x.1.bel k, x.2⟩
theorem Rs.wr {h h' : Heap} {base : Nat} {e : TypeId} {a : Option Addr} {cap : Nat} {xs : List α} {b : Nat} {o : Obj} (x : Rs gv h base e a cap xs) (k : Wr h h' b o) (hb : b < base) : Rs gv h' base e a cap xs :=
  ⟨x.1.keep fun j hj => k.old j (by have := (x.1.lt j hj).1; omega), x.2⟩
theorem Rs.bel {h h' : Heap} {base : Nat} {e : TypeId} {a : Option Addr} {cap : Nat} {xs : List α} {N : Nat} (x : Rs gv h base e a cap xs) (k : Bel N h h') (hN : ∀ sb, a = some ⟨sb, 0, none⟩ → sb < N) : Rs gv h' base e a cap xs :=
  ⟨x.1.keep fun j hj => k.old j (by
    rcases x.blk with e1 | ⟨g, e1, _, _⟩
    · subst e1; cases hj
    · have := hN g e1; subst e1; cases hj; omega), x.2⟩
/-- A slice that is written out, of one block. -/
theorem Rs.lit {h h' : Heap} {base : Nat} {e : TypeId} {xs : List α} (k : Nw h h' (.cells (xs.map gv).toArray e (0, 0))) (hb : base ≤ h.size) (hl : xs.length ≤ maxLen) : Rs gv h' base e (some ⟨h.size, 0, none⟩) xs.length xs :=
  ⟨⟨by simp, .inr ⟨h.size, xs.length, _, rfl, hb, k.new, Nat.le_refl _, hl, by simp, by simp [List.take_of_length_le]⟩⟩, Nat.le_refl _⟩
/-- Owned rows from a lower base. -/
theorem Rs.low {h : Heap} {base base' e : Nat} {a : Option Addr} {cap : Nat} {xs : List α} (x : Rs gv h base e a cap xs) (hb : base' ≤ base) : Rs gv h base' e a cap xs := by
  rcases x.blk with rfl | ⟨g, rfl, hg, _⟩
  · refine ⟨?_, x.2⟩
    rcases x.1.cases with ⟨h1, h2, h3⟩ | ⟨g, c, h1, h2, _⟩
    · rw [h1, h2, h3]; exact Own.nil h base' e 1
    · have := (slice_inj h1).1
      cases this
  · obtain ⟨cur, h1, h2, h3⟩ := x.blkAt
    exact Rs.of_blk h1 h2 h3 (by omega) x.2 x.capLe
theorem Row.at {h : Heap} {a : Option Addr} {xs : List α} (x : Row gv z0 h a xs) {k : Nat} (hk : k < xs.length) : ∃ sb so, a = some ⟨sb, so, none⟩ ∧ cellH h sb (so + k) = some (gv (xs.getD k z0)) := by
  rcases x with rfl | ⟨sb, so, ha, hc⟩
  · cases hk
  · exact ⟨sb, so, ha, hc k hk⟩
theorem Row.take {h : Heap} {a : Option Addr} {xs : List α} (x : Row gv z0 h a xs) (n : Nat) : Row gv z0 h a (xs.take n) := by
  rcases x with rfl | ⟨sb, so, ha, hc⟩
  · exact .inl (by simp)
  · refine .inr ⟨sb, so, ha, fun j hj => ?_⟩
    have hj' : j < xs.length ∧ j < n := by rw [List.length_take] at hj; omega
    rw [hc j hj'.1]
    rw [List.getD_eq_getElem?_getD, List.getD_eq_getElem?_getD, List.getElem?_take, if_pos hj'.2]
theorem Row.drop {h : Heap} {a a' : Option Addr} {xs : List α} {cap : Nat} (x : Row gv z0 h a xs) (k : Nat) (hc : xs.length ≤ cap) (hk : k ≤ xs.length) (ha : (if cap = k then a else a.map (·.add (k * 1))) = a') : Row gv z0 h a' (xs.drop k) := by
  subst ha
  by_cases hl : k = xs.length
  · exact .inl (List.drop_of_length_le (by omega))
  · rcases x with rfl | ⟨sb, so, ha, hcell⟩
    · exact .inl (by simp)
    · rw [if_neg (by omega)]
      subst ha
      refine .inr ⟨sb, so + k, by rw [Option.map_some, addr_add, Nat.mul_one], fun j hj => ?_⟩
      rw [List.length_drop] at hj
      rw [show so + k + j = so + (k + j) by omega, hcell (k + j) (by omega), List.getD_eq_getElem?_getD, List.getD_eq_getElem?_getD, List.getElem?_drop]
theorem GrA.belR {N base : Nat} {h0 h h' : Heap} {e : TypeId} {a : Option Addr} {cap : Nat} {xs : List α} (k : GrA h h' a) (x : Bel N h0 h) (y : Rs gv h base e a cap xs) (hb : N ≤ base) (hN : N ≤ h0.size) : Bel N h0 h' := by
  refine Bel.gr x k hN fun j hj => ?_
  have := (y.1.lt j (by cases a <;> exact hj)).1
  omega
/-- Another block stays. -/
theorem GrA.oldR {base : Nat} {h h' : Heap} {e : TypeId} {a : Option Addr} {cap : Nat} {xs : List α} (k : GrA h h' a) (y : Rs gv h base e a cap xs) {j : Nat} (hj : j < base) (hs : j < h.size) : h'[j]? = h[j]? :=
  Gr.old k j hs (fun e => by have := (y.1.lt j (by cases a <;> exact e.symm)).1; omega)
section
variable {P : Program} {ρ : Operand → Value} {h : Heap} {d : Option Tmp} {ty : TypeId} {pos : String} {af : Array Edge} {gd : Option (Nat × Bool)} {K : Value → Heap → Prop} {T T2 : TypeId} {x y : Operand}
/-- Append bytes to a slice that is owned. -/
theorem HO.rapp {base e kb : Nat} {a sa : Option Addr} {cap sc m : Nat} {xs ys : List α} {z : Value} (hu : P.underlying T = some (.slice e)) (hi : (P.info? e).map (fun i => (i.zero, i.size, i.bytes)) = some (some z, 1, kb)) (hzs : z.cells.size = 1) (hone : ∀ x, (gv x).oneCell' = true)
    {n : Nat} (hx : ρ x = .slice a n cap) (hy : ρ y = .slice sa m sc) (hn : n = xs.length) (hm : m = ys.length) (hown : Rs gv h base e a cap xs) (hsrc : Row gv z0 h sa ys) (hlen : (xs.length + ys.length) * kb ≤ 140737488355328) (hml : xs.length + ys.length ≤ maxLen) (hbase : base ≤ h.size)
    (k : ∀ a' cap' h', Rs gv h' base e a' cap' (xs ++ ys) → GrA h h' a → (a' = a ∨ a' = some ⟨h.size, 0, none⟩ ∨ a' = none) → K (.slice a' (xs ++ ys).length cap') h') : HO P ⟨d, .call { callee := .builtin .append, args := #[x, y], argTypes := #[T, T] }, ty, pos, af, gd⟩ ρ h K := by
  subst hn
  subst hm
  rcases hsrc with hnil | ⟨sb, so, hsa, hc⟩
  · subst hnil
    intro w hw
    subst hw
    cases hq : P.info? e with
    | none => simp [hq] at hi
    | some i =>
      have hs : Src P i.size T (.slice sa 0 sc) 0 [] w := ⟨.inl ⟨e, hu⟩, fun w' => rfl, by cases sa <;> simp [Builtin.firstCells, loadCells] <;> rfl, by cases sa <;> simp [Builtin.firstCells, loadCells] <;> rfl, by simp, by simp⟩
      have h1 := run_append_nothing w T T ty e i hu hq a xs.length cap hown.2 (.slice sa 0 sc) hs
      have : (execOp ρ ⟨d, .call { callee := .builtin .append, args := #[x, y], argTypes := #[T, T] }, ty, pos, af, gd⟩).run P w = .ok (.value (.slice a xs.length cap)) w := by
        simp [BigFrame.execOp_builtin, BigFrame.builtin_append, hx, hy, Sem.run_bind] at h1 ⊢
        rw [h1]
        rfl
      rw [this]
      refine ⟨Rest.refl _, ?_⟩
      have := k a cap w.heap (by simpa using hown) ⟨Nat.le_refl _, fun _ _ _ => rfl⟩ (.inl rfl)
      simpa using this
  · subst hsa
    have hown1 := hown.1
    refine HO.append (news := ys.map gv) hu hi hzs (by decide) hx hy hown1 (by simp) (fun j u hj => ?_) (one_map gv hone _) hml hlen hbase fun v' h' o g hat => ?_
    · have hj' : j < ys.length := by simpa using (List.getElem?_eq_some_iff.1 hj).1
      rw [hc j hj', ← hj, getD_map gv ys j z0 hj']
    · have hg : GrA h h' a := by cases a <;> exact g
      rcases o.cases with ⟨h1, h2, h3⟩ | ⟨g', c, h1, h2, h3, h4, h5⟩
      · obtain ⟨rfl, _, _⟩ := (⟨h1, h2, h3⟩ : _ ∧ _ ∧ _)
        have he : xs ++ ys = [] := by
          rw [← List.map_append] at h3
          exact List.map_eq_nil_iff.1 h3
        have := k none 0 h' (by rw [he]; exact Rs.start _ _ _) hg (.inr (.inr rfl))
        rw [he] at this
        exact this
      · subst h1
        have := k (some ⟨g', 0, none⟩) c h' ⟨by rw [List.map_append, List.length_append]; exact o, by simpa using h3⟩ hg (by
          rcases hat with q | q
          · left
            rcases hown.blk with r | ⟨g0, r, _, _⟩
            · subst r; cases q
            · subst r; cases q; rfl
          · right; left; cases q; rfl)
        rw [List.length_append] at this
        exact this
/-- Append bytes to a slice that is owned. -/
theorem HO.rapp1 {base e kb : Nat} {a sa : Option Addr} {cap sc m : Nat} {xs ys : List α} {z : Value} (hu : P.underlying T = some (.slice e)) (hi : (P.info? e).map (fun i => (i.zero, i.size, i.bytes)) = some (some z, 1, kb)) (hzs : z.cells.size = 1) (hone : ∀ x, (gv x).oneCell' = true)
    {n : Nat} (hx : ρ x = .slice a n cap) (hy : ρ y = .slice sa m sc) (hn : n = xs.length) (hm : m = ys.length) (hown : Rs gv h base e a cap xs) (hsrc : Row gv z0 h sa ys) (hlen : (xs.length + ys.length) * kb ≤ 140737488355328) (hml : xs.length + ys.length ≤ maxLen) (hbase : base ≤ h.size)
    (k : ∀ a' cap' h', Rs gv h' base e a' cap' (xs ++ ys) → GrA h h' a → K (.slice a' (xs ++ ys).length cap') h') : HO P ⟨d, .call { callee := .builtin .append, args := #[x, y], argTypes := #[T, T] }, ty, pos, af, gd⟩ ρ h K :=
  HO.rapp hu hi hzs hone hx hy hn hm hown hsrc hlen hml hbase fun a' cap' h' B G _ => k a' cap' h' B G
/-- 'make([]T, n)', T of one cell. -/
theorem HO.makeR {e n kb : Nat} {z : Value} (hu : P.underlying T = some (.slice e)) (hi : (P.info? e).map (fun i => (i.zero, i.size, i.bytes)) = some (some z, 1, kb)) (hz1 : z.cells = #[z]) (hx : ρ x = .int .i64 (n : Int)) (hy : ρ y = .int .i64 (n : Int)) (hn : n * kb ≤ 140737488355328) (hn2 : n ≤ 140737488355328)
    (k : ∀ h', Nw h h' (.cells (List.replicate n z).toArray e (0, 0)) → K (.slice (some ⟨h.size, 0, none⟩) n n) h') : HO P ⟨d, .makeSlice T x y, ty, pos, af, gd⟩ ρ h K := by
  intro w hw
  subst hw
  cases hq : P.info? e with
  | none => simp [hq] at hi
  | some i =>
    simp [hq] at hi
    obtain ⟨hz, hs', hby⟩ := hi
    have h1 := run_make (P := P) w T e i _ hu hq hz .i64 .i64 n n (by omega) (Int.le_refl _) (by rw [hby]; have h9 : ((n * kb : Nat) : Int) ≤ 140737488355328 := (by omega); rw [Int.natCast_mul, Int.mul_comm] at h9; omega) (by omega)
    rw [hs'] at h1
    simp only [Int.toNat_natCast, Nat.mul_one] at h1
    have e1 : madeCells z.cells n = (List.replicate n z).toArray := by
      apply Array.toList_inj.1
      rw [hz1, toList_madeCells_one]
    rw [e1] at h1
    have : (execOp ρ ⟨d, .makeSlice T x y, ty, pos, af, gd⟩).run P w = .ok (.value (.slice (some ⟨w.heap.size, 0, none⟩) n n)) (w.alloc (.cells (List.replicate n z).toArray e)) := by
      simp only [execOp, hx, hy, Sem.run_bind, h1]
      rfl
    rw [this]
    refine ⟨⟨rfl, rfl, rfl⟩, ?_⟩
    rw [heap_alloc]
    exact k _ (Nw.push _ _)
/-- 'clear(s)', s a slice into a block that is known whole. -/
theorem HO.clearR {e b o n c : Nat} {z : Value} {l : List Value} {t : TypeId} (hu : P.underlying T = some (.slice e)) (hv : ∀ w, (zeroValue e).run P w = .ok z w) (hz : z.cells = #[z]) (h1 : z.oneCell' = true) (hx : ρ x = .slice (some ⟨b, o, none⟩) n c) (hb : h[b]? = some (.cells l.toArray t (0, 0))) (hfit : o + n ≤ l.length)
    (k : ∀ h', Wr h h' b (.cells (l.take o ++ List.replicate n z ++ l.drop (o + n)).toArray t (0, 0)) → K (.tuple #[]) h') : HO P ⟨d, .call { callee := .builtin .clear, args := #[x], argTypes := #[T] }, ty, pos, af, gd⟩ ρ h K := by
  intro w hw
  subst hw
  have hrun : (Builtin.clear_ #[T] ty #[.slice (some ⟨b, o, none⟩) n c]).run P w = .ok (.tuple #[]) (w.setRow b (l.take o ++ List.replicate n z ++ l.drop (o + n)).toArray) := by
    cases n with
    | zero =>
      have e : (l.take o ++ List.replicate 0 z ++ l.drop (o + 0)).toArray = l.toArray := by simp
      rw [e, setRow_self w b l.toArray t (0, 0) hb]
      simp [Builtin.clear_, run_underlying hu]
    | succ m =>
      have hzc : (Builtin.zeroCells z.cells (m + 1)).toList = List.replicate (m + 1) z := by
        rw [hz]
        simp [Builtin.zeroCells]
        apply List.ext_getElem
        · simp
        · intro i h1 h2
          simp [Nat.mod_one]
      have hst := run_storeCells_at P b o t (List.replicate (m + 1) z) 0 l.toArray w hb (by simpa using hfit) (by intro v hv'; rw [List.eq_of_mem_replicate hv']; exact h1)
      simp only [Nat.add_zero, List.length_replicate] at hst
      simp [Builtin.clear_, run_underlying hu, hv, hzc, hst]
  have : (execOp ρ ⟨d, .call { callee := .builtin .clear, args := #[x], argTypes := #[T] }, ty, pos, af, gd⟩).run P w = .ok (.value (.tuple #[])) (w.setRow b (l.take o ++ List.replicate n z ++ l.drop (o + n)).toArray) := by
    simp [BigFrame.execOp_builtin, BigFrame.builtin_clear, hx, Sem.run_bind] at hrun ⊢
    rw [hrun]
    rfl
  rw [this]
  exact ⟨⟨rfl, rfl, rfl⟩, k _ (wr_setRow hb)⟩
theorem Runs.maxI {ats : Array TypeId} {k k' : IntKind} {a b c : Int} (hx : ρ x = .int k a) (hy : ρ y = .int k' b) (hc : (if b > a then b else a) = c) : Runs P ⟨d, .call { callee := .builtin .max, args := #[x, y], argTypes := ats }, ty, pos, af, gd⟩ ρ h (.int k c) := fun w _ => by
  subst hc
  simp [BigFrame.execOp_builtin, BigFrame.builtin_max, hx, hy, Builtin.max_, Builtin.max2, Sem.run_bind]
theorem Runs.lssS {xs ys : List UInt8} {t : Bool} (hx : ρ x = .string (strOf xs)) (hy : ρ y = .string (strOf ys)) (hc : Op.bytesLess xs ys = t) : Runs P ⟨d, .binOp .lss T x y T2, ty, pos, af, gd⟩ ρ h (.bool t) := fun w _ => by
  subst hc
  have e1 := strOf_toList xs
  have e2 := strOf_toList ys
  simp [execOp, hx, hy, eqGuard, binOp, Op.stringOp, e1, e2]
theorem Runs.gtrS {xs ys : List UInt8} {t : Bool} (hx : ρ x = .string (strOf xs)) (hy : ρ y = .string (strOf ys)) (hc : (!(Op.bytesLess xs ys || xs == ys)) = t) : Runs P ⟨d, .binOp .gtr T x y T2, ty, pos, af, gd⟩ ρ h (.bool t) := fun w _ => by
  subst hc
  have e1 := strOf_toList xs
  have e2 := strOf_toList ys
  simp [execOp, hx, hy, eqGuard, binOp, Op.stringOp, e1, e2]
end
end
end Go.Proofs.YtjopikfkgjbcgaaDoor
