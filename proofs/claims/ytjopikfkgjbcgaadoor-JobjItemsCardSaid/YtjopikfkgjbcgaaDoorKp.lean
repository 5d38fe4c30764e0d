/- The tables that are laid, as the walks take them. -/
import Derived.Test.YtjopikfkgjbcgaaDoorKa
import Derived.Test.YtjopikfkgjbcgaaDoorRows
import Derived.Lib.LaidU8T
import Derived.Lib.LaidTab
namespace Go.Proofs.YtjopikfkgjbcgaaDoor
set_option linter.unnecessarySimpa false
set_option linter.unusedSimpArgs false
set_option linter.unusedVariables false
open Go.RowKit
theorem plc_of_world (w : World) (q : Lib.Utf8Tabs 0 1 w ∧ Lib.TabIs Tryd.prog w "internal/strconv.uint64pow10" .u64 Lib.pow10Tab) : Plc w.heap := fun w' hw => by
  refine ⟨⟨fun c hc => ?_, fun i hi => ⟨?_, ?_⟩⟩, ?_⟩
  · have := q.1.1 c hc
    rw [cell_cellH] at this ⊢
    rw [hw]; exact this
  · have := (q.1.2 i hi).1
    rw [cell_cellH] at this ⊢
    rw [hw]; exact this
  · have := (q.1.2 i hi).2
    rw [cell_cellH] at this ⊢
    rw [hw]; exact this
  · have h2 := q.2
    unfold Lib.TabIs World.var? at h2 ⊢
    rw [gpow, Option.bind_some] at h2 ⊢
    simp only [hw]
    exact h2
theorem first_data : Rows.laid_unicode_utf8_first = Go.Lib.firstData := by kernel_rfl
theorem accept_data : (Rows.laid_unicode_utf8_acceptRanges : DataW Unit) = Go.Lib.acceptData := by kernel_rfl
theorem pow_data : (Rows.laid_internal_strconv_uint64pow10 : DataW Unit) = Lib.tabData .u64 Lib.pow10Tab := by kernel_rfl
theorem plc_of_laid {l : List (String × DataW Unit)} {w : World} (h : laidMet Tryd.prog l w) (m1 : ("unicode/utf8.first", Rows.laid_unicode_utf8_first) ∈ l) (m2 : ("unicode/utf8.acceptRanges", Rows.laid_unicode_utf8_acceptRanges) ∈ l) (m3 : ("internal/strconv.uint64pow10", Rows.laid_internal_strconv_uint64pow10) ∈ l) : Plc w.heap := by
  have r1 := Go.Lib.laidMet.reads h m1
  have r2 := Go.Lib.laidMet.reads h m2
  have r3 := Go.Lib.laidMet.reads h m3
  rw [first_data] at r1
  rw [accept_data] at r2
  rw [pow_data] at r3
  refine plc_of_world w ⟨utf8Tabs_of_readsT (U8Types.of196 Tryd.lays196) ⟨by kernel_rfl, by kernel_rfl, by kernel_rfl, by kernel_rfl, by kernel_rfl, by kernel_rfl, by kernel_rfl⟩ r1 r2, ?_⟩
  obtain ⟨g, t, cs, fuel, p, hg, hty, hvar, hd⟩ := r3
  obtain rfl : g = 2 := Option.some.inj (hg.symm.trans gpow)
  have ht0 : (Tryd.prog.globals[2]?).map (·.type) = some 119 := by kernel_rfl
  obtain rfl : t = 119 := Option.some.inj (hty.symm.trans ht0)
  unfold Lib.TabIs
  rw [hvar, ← Lib.cells_of_tab Tryd.underlying119 Tryd.underlying93 (by kernel_rfl) (by kernel_rfl) hd]
end Go.Proofs.YtjopikfkgjbcgaaDoor
