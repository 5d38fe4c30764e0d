/- 'copy' of bytes and of a string into a block of bytes. -/
import Derived.Test.YtfogkggkjmkdiaaDoorStrs
import Derived.Laws.IdiomCopy
import Derived.Lib.BufferWrite
import Derived.Laws.IdiomStrings
namespace Go.Proofs.YtfogkggkjmkdiaaDoor
set_option linter.unnecessarySimpa false
open Go.RowKit
set_option linter.unusedSimpArgs false
set_option linter.unusedVariables false
theorem one_B8 (ys : List UInt8) : ∀ v ∈ ys.map B8, v.oneCell' = true := one_map B8 (fun _ => rfl) ys
/-- Bytes laid over others from a place on. -/
def over (xs : List UInt8) (o : Nat) (ys : List UInt8) : List UInt8 := xs.take o ++ ys ++ xs.drop (o + ys.length)
theorem over_len (xs : List UInt8) (o : Nat) (ys : List UInt8) (h : o + ys.length ≤ xs.length) : (over xs o ys).length = xs.length := by
  simp [over]; omega
theorem over_nil (xs : List UInt8) (o : Nat) : over xs o [] = xs := by simp [over]
theorem over_map (xs : List UInt8) (o : Nat) (ys : List UInt8) : (over xs o ys).map B8 = (xs.map B8).take o ++ ys.map B8 ++ (xs.map B8).drop (o + (ys.map B8).length) := by
  simp [over, List.map_append, List.map_take, List.map_drop]
section
variable {P : Program} {ρ : Operand → Value} {h : Heap} {d : Option Tmp} {ty : TypeId} {pos : String} {af : Array Edge} {gd : Option (Nat × Bool)} {K : Value → Heap → Prop} {T T2 : TypeId} {x y : Operand}
theorem HO.copyB {e b o dLen dCap sCap n : Nat} {a : Option Addr} {xs ys : List UInt8} {t : TypeId} (hu : P.underlying T = some (.slice e)) (hs : (P.info? e).map (·.size) = some 1) (hx : ρ x = .slice (some ⟨b, o, none⟩) dLen dCap) (hy : ρ y = .slice a n sCap) (hn : n = ys.length) (hsrc : Byt h a ys)
    (hb : h[b]? = some (.cells (xs.map B8).toArray t (0, 0))) (hd : o + dLen ≤ xs.length)
    (k : ∀ h', Wr h h' b (.cells ((over xs o (ys.take dLen)).map B8).toArray t (0, 0)) → K (.int .i64 ((min ys.length dLen : Nat) : Int)) h') : HO P ⟨d, .call { callee := .builtin .copy, args := #[x, y], argTypes := #[T, T2] }, ty, pos, af, gd⟩ ρ h K := by
  subst hn
  by_cases h0 : ys = []
  · subst h0
    intro w hw
    subst hw
    have h2 := run_copy_none (P := P) w T T2 ty e (some ⟨b, o, none⟩) a dLen dCap 0 sCap hu hs (Nat.zero_min _)
    have : (execOp ρ ⟨d, .call { callee := .builtin .copy, args := #[x, y], argTypes := #[T, T2] }, ty, pos, af, gd⟩).run P w = .ok (.value (goInt 0)) w := by
      simp [BigFrame.execOp_builtin, BigFrame.builtin_copy, hx, hy, Sem.run_bind] at h2 ⊢
      rw [h2]
      rfl
    rw [this]
    refine ⟨Rest.refl _, ?_⟩
    have hk := k w.heap ⟨rfl, by simpa [over_nil] using hb, fun _ _ => rfl⟩
    simpa [goInt] using hk
  · obtain ⟨sb, so, ha, hc⟩ := hsrc.resolve_left h0
    subst ha
    have hl : ((ys.take dLen).map B8).length = Nat.min ys.length dLen := by simp [Nat.min_comm]
    refine HO.copy (cs := (ys.take dLen).map B8) hu hs hx hy hb hl (fun j v hj => ?_) (by rw [hl, List.length_map]; have h9 : Nat.min ys.length dLen ≤ dLen := Nat.min_le_right _ _; omega) (one_B8 _) (fun h' w => ?_)
    · have hlt : j < ys.length ∧ j < dLen := by
        have := (List.getElem?_eq_some_iff.1 hj).1
        rw [hl] at this
        exact ⟨Nat.lt_of_lt_of_le this (Nat.min_le_left _ _), Nat.lt_of_lt_of_le this (Nat.min_le_right _ _)⟩
      rw [hc j hlt.1]
      rw [List.getElem?_map, List.getElem?_take, if_pos hlt.2, List.getElem?_eq_getElem hlt.1] at hj
      rw [← hj]
      simp [List.getElem?_eq_getElem hlt.1]
    · have hk := k h' (by rw [over_map]; exact w)
      rw [hl]
      exact hk
theorem HO.copyS {e b o dLen dCap : Nat} {xs ys : List UInt8} {t : TypeId} (hu : P.underlying T = some (.slice e)) (hs : (P.info? e).map (·.size) = some 1) (hx : ρ x = .slice (some ⟨b, o, none⟩) dLen dCap) (hy : ρ y = .string (strOf ys))
    (hb : h[b]? = some (.cells (xs.map B8).toArray t (0, 0))) (hd : o + ys.length ≤ xs.length) (hle : ys.length ≤ dLen)
    (k : ∀ h', Wr h h' b (.cells ((over xs o ys).map B8).toArray t (0, 0)) → K (.int .i64 (ys.length : Int)) h') : HO P ⟨d, .call { callee := .builtin .copy, args := #[x, y], argTypes := #[T, T2] }, ty, pos, af, gd⟩ ρ h K := by
  intro w hw
  subst hw
  have hz : (strOf ys).size = ys.length := strOf_size ys
  have h2 := Go.Lib.run_copy_row_string (P := P) w T T2 ty e b o dLen dCap (strOf ys) _ t hu hs hb (by rw [hz]; exact hle) (by rw [hz]; simpa using hd)
  have ec : Go.Lib.byteCells (strOf ys).data.toList = ys.map B8 := rfl
  rw [hz, ec] at h2
  have : (execOp ρ ⟨d, .call { callee := .builtin .copy, args := #[x, y], argTypes := #[T, T2] }, ty, pos, af, gd⟩).run P w = .ok (.value (goInt ys.length)) (w.setRow b ((over xs o ys).map B8).toArray) := by
    rw [over_map, List.length_map]
    simp [BigFrame.execOp_builtin, BigFrame.builtin_copy, hx, hy, Sem.run_bind] at h2 ⊢
    rw [h2]
    rfl
  rw [this]
  exact ⟨⟨rfl, rfl, rfl⟩, k _ (wr_setRow hb)⟩
/-- '[]byte(s)'. -/
theorem HO.ofStr {e : TypeId} {xs : List UInt8} (hs : P.underlying T = some .string) (hu : P.underlying T2 = some (.slice e)) (he : P.underlying e = some (.int .u8)) (hx : ρ x = .string (strOf xs))
    (k : ∀ cap h' zs, Nw h h' (.cells (xs.map B8 ++ zs).toArray e (0, 0)) ∨ Nw h h' (.cells (xs.map B8 ++ zs).toArray e ((xs.map B8 ++ zs).length, (xs.map B8 ++ zs).length + 1)) → xs.length ≤ cap → K (.slice (some ⟨h.size, 0, none⟩) xs.length cap) h') : HO P ⟨d, .convert T T2 x, ty, pos, af, gd⟩ ρ h K := by
  intro w hw
  subst hw
  have h1 := run_bytes_of_string (P := P) w T T2 e (strOf xs) hs hu he
  rw [strOf_size] at h1
  generalize hgc : grownCap w xs.length 0 e = gc at h1
  have hge : xs.length ≤ gc := hgc ▸ grownCap_ge w _ _ e
  have hA : bytesRow (strOf xs) gc = (xs.map B8 ++ List.replicate (gc - xs.length) (Value.int .u8 0)).toArray := by
    apply Array.toList_inj.1
    unfold bytesRow
    rw [strOf_size]
    simp [strOf]
  rw [hA] at h1
  have : (execOp ρ ⟨d, .convert T T2 x, ty, pos, af, gd⟩).run P w = .ok (.value (.slice (some ⟨w.heap.size, 0, none⟩) xs.length gc)) (w.drew.alloc (.cells (xs.map B8 ++ List.replicate (gc - xs.length) (Value.int .u8 0)).toArray e ((xs.map B8 ++ List.replicate (gc - xs.length) (Value.int .u8 0)).toArray.size, (xs.map B8 ++ List.replicate (gc - xs.length) (Value.int .u8 0)).toArray.size + 1))) := by
    simp only [execOp, hx, Sem.run_bind, h1]
    rfl
  rw [this]
  refine ⟨⟨rfl, rfl, rfl⟩, ?_⟩
  exact k gc _ (List.replicate (gc - xs.length) (Value.int .u8 0)) (.inr (by
    have := Nw.push w.heap (.cells (xs.map B8 ++ List.replicate (gc - xs.length) (Value.int .u8 0)).toArray e ((xs.map B8 ++ List.replicate (gc - xs.length) (Value.int .u8 0)).toArray.size, (xs.map B8 ++ List.replicate (gc - xs.length) (Value.int .u8 0)).toArray.size + 1))
    rw [List.size_toArray] at this
    exact this)) hge
end
end Go.Proofs.YtfogkggkjmkdiaaDoor
