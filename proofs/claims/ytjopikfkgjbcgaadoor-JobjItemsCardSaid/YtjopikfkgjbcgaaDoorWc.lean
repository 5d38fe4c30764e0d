/- Values held against each other; Same; slices.Clone; named, both. -/
import Derived.Test.YtjopikfkgjbcgaaDoorWb
namespace Go.Proofs.YtjopikfkgjbcgaaDoor
set_option linter.unnecessarySimpa false
set_option linter.unusedSimpArgs false
set_option linter.unusedVariables false
open Go.RowKit
theorem eg37 : Tryd.prog.eqGuardType Tryd.prog.depth 37 = false := by kernel_rfl
theorem sih37 : Tryd.prog.stoodInHeld 37 = false := by kernel_rfl
theorem strOf_beq (a b : List UInt8) : ((strOf a).toList == (strOf b).toList) = (a == b) := by
  rw [strOf_toList, strOf_toList]
section
variable {ρ : Operand → Value} {h : Heap} {d : Option Tmp} {ty : TypeId} {pos : String} {af : Array Edge} {gd : Option (Nat × Bool)} {K : Value → Heap → Prop} {a b : Operand} {T2 : TypeId}
theorem eqv_J (x y : JV) : (eqv (I64 x.1) (I64 y.1) && (eqv (.string (strOf x.2.1)) (.string (strOf y.2.1)) && (eqv (.string (strOf x.2.2.1)) (.string (strOf y.2.2.1)) && eqv (I64 x.2.2.2) (I64 y.2.2.2)))) = (x == y) := by
  obtain ⟨x1, x2, x3, x4⟩ := x
  obtain ⟨y1, y2, y3, y4⟩ := y
  simp only [eqv, strOf_beq]
  rfl
theorem Runs.neqStruct {P : Program} {T : TypeId} {fs : Array Field} {cs ds : List Value} {t : Bool} (hu : P.underlying T = some (.struct fs)) (hp : P.stoodInHeld T = false) (hg : P.eqGuardType P.depth T = false) (hx : ρ a = .agg cs.toArray) (hy : ρ b = .agg ds.toArray) (hok : (fs.toList.all fun F => fieldOk P cs.toArray ds.toArray F) = true)
    (hc : (!(fs.toList.all fun F => eqv (cs.toArray.getD F.offset undef) (ds.toArray.getD F.offset undef))) = t) : Runs P ⟨d, .binOp .neq T a b T2, ty, pos, af, gd⟩ ρ h (.bool t) := fun w _ => by
  subst hc
  have hf : P.fieldsOf T = fs := by simp [Program.fieldsOf, hu]
  have h1 := run_eqGuard_agg (P := P) w .neq T a b cs.toArray ds.toArray hg
  have h2 : (binOp .neq T (.agg cs.toArray) (.agg ds.toArray)).run P w = .ok (.bool (!(fs.toList.all fun F => eqv (cs.toArray.getD F.offset undef) (ds.toArray.getD F.offset undef)))) w := by
    rw [run_neq_struct, run_equalIn_struct (P := P) w 9999 T cs.toArray ds.toArray (by rw [hf]; exact hu) hp, hf, eqFields_plain 9998 w fs.toList hok]
    rfl
  simp only [execOp, hx, hy, Sem.run_bind, h1, Result.andThen_ok, h2]
  rfl
set_option maxRecDepth 10000 in
theorem Runs.neqJ {x y : JV} {t : Bool} (hx : ρ a = .agg (encJ x).toArray) (hy : ρ b = .agg (encJ y).toArray) (hc : (!(x == y)) = t) : Runs Tryd.prog ⟨d, .binOp .neq 37 a b T2, ty, pos, af, gd⟩ ρ h (.bool t) := by
  refine Runs.neqStruct Tryd.underlying37 sih37 eg37 hx hy (by kernel_rfl) ?_
  rw [← hc, ← eqv_J x y]
  simp [encJ]
end
end Go.Proofs.YtjopikfkgjbcgaaDoor
