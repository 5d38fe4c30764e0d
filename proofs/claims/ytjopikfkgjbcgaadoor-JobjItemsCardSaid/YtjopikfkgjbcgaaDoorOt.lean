/- The small case: onionskinlaw12.small. -/
import Derived.Test.YtjopikfkgjbcgaaDoorOs
namespace Go.Proofs.YtjopikfkgjbcgaaDoor
set_option linter.unnecessarySimpa false
set_option linter.unusedSimpArgs false
set_option linter.unusedVariables false
open Go.RowKit
theorem Js.cells {h : Heap} {base : Nat} {a : Option Addr} {cap : Nat} {l : List JV} (x : Js h base a cap l) (hl : l ≠ []) : ∃ g, a = some ⟨g, 0, none⟩ ∧ ∀ (k : Nat) (y : JV), l[k]? = some y → ∀ i v, (encJ y)[i]? = some v → cellH h g (k * 4 + i) = some v := by
  rcases x.blk with ⟨_, q⟩ | ⟨g, rfl, _, _⟩
  · exact absurd q hl
  · refine ⟨g, rfl, fun k y hy i v hv => ?_⟩
    have hk := (List.getElem?_eq_some_iff.1 hy).1
    obtain ⟨sb, so, e, hc⟩ := x.jvs.at hk
    cases e
    have := hc i v (by rw [List.getD_eq_getElem?_getD, hy]; exact hv)
    rwa [Nat.zero_add] at this
theorem it5 : Lib.itoa (-5) = [45, 53] := by simp [Lib.itoa, Lib.decDigits]
theorem it1 : Lib.itoa 1 = [49] := by simp [Lib.itoa, Lib.decDigits]
theorem mx : mendO [120] = [120] := by decide +kernel
theorem my : mendO [121] = [121] := by decide +kernel
def i5L : List JV := [(3, [], [45, 53], 0)]
def i1L : List JV := [(3, [], [49], 0)]
def txL : List JV := [(4, [], [120], 0)]
def tyL : List JV := [(4, [], [121], 0)]
theorem i5e : intO (-5) = i5L := by unfold intO; rw [it5]; rfl
theorem i1e : intO 1 = i1L := by unfold intO; rw [it1]; rfl
theorem txe : textO [120] = txL := by unfold textO; rw [mx]; rfl
theorem tye : textO [121] = tyL := by unfold textO; rw [my]; rfl
def lL : List JV := [(5, [], [], 2), (4, [], [120], 0), (3, [], [49], 0)]
theorem lLe : listO [txL, i1L] = lL := by decide +kernel
def oL : List JV := [(6, [], [], 2), (3, [97], [45, 53], 0), (5, [98], [], 2), (4, [], [120], 0), (3, [], [49], 0)]
theorem oLe : objectO [[97], [98]] [i5L, lL] = oL := by decide +kernel
theorem e0e : listO [] = [(5, [], [], 0)] := by decide +kernel
theorem get_b : getO oL 0 [98] = 2 := by decide +kernel
theorem item_1 : itemO oL 2 1 = 4 := by decide +kernel
theorem cut_2 : cutO oL 2 = lL := by decide +kernel
def dL : List JV := [(6, [], [], 2), (4, [97], [121], 0), (5, [98], [], 2), (4, [], [120], 0), (3, [], [49], 0)]
theorem set_a : setO oL [97] tyL = dL := by decide +kernel
def eL : List JV := [(6, [], [], 3), (3, [97], [45, 53], 0), (5, [98], [], 2), (4, [], [120], 0), (3, [], [49], 0), (5, [99], [], 0)]
theorem set_c : setO oL [99] [(5, [], [], 0)] = eL := by decide +kernel
def fL : List JV := [(6, [], [], 1), (3, [97], [45, 53], 0)]
theorem drop_b : dropO oL [98] = fL := by decide +kernel
theorem obj_aa : objectO [[97], [97]] [i1L, i1L] = [] := by decide +kernel
theorem get_x : getO oL 0 [120] = -1 := by decide +kernel
theorem get_2 : getO oL 2 [] = -1 := by decide +kernel
theorem item_n : itemO [] 0 0 = -1 := by decide +kernel
theorem okL (l : List JV) (h : (l.all fun x => decide (x.2.1.length ≤ 140737488355328) && decide (x.2.2.1.length ≤ 140737488355328) && decide (x.2.2.2 ≤ 9223372036854775807)) = true) : OkJ l := fun x hx => by
  have := List.all_eq_true.1 h x hx
  simp only [Bool.and_eq_true, decide_eq_true_eq] at this
  exact ⟨this.1.1, this.1.2, this.2⟩
theorem jvss2 {h h' : Heap} {p q : RowJ} (w : Nw h h' (.cells ([p, q].map rowV).toArray 22 (0, 0))) (hp : Jvs h p.1 p.2.2 ∧ p.2.2.length ≤ p.2.1) (hq : Jvs h q.1 q.2.2 ∧ q.2.2.length ≤ q.2.1) : Jvss h' (some ⟨h.size, 0, none⟩) [p, q] :=
  jvss_block w.new fun x hx => by
    simp only [List.mem_cons, List.not_mem_nil, or_false] at hx
    rcases hx with rfl | rfl
    · exact ⟨hp.1.ext w.ext, hp.2⟩
    · exact ⟨hq.1.ext w.ext, hq.2⟩
end Go.Proofs.YtjopikfkgjbcgaaDoor
