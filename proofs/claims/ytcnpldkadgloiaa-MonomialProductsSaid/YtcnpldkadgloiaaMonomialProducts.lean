/-
  The law MonomialProducts returns true for every argument. Conditions: none.
-/
import Derived.Test.YtcnpldkadgloiaaMonomialProductsW
import Derived.Test.YtcnpldkadgloiaaRows
import Derived.JoinedOf
import Derived.Handed
set_option maxRecDepth 100000
set_option linter.unusedVariables false
namespace Go.Proofs.Ytcnpldkadgloiaa.monomialProducts
open Go.Am Go.ChangeShapes Go.WideShapes Go.ChangeAt

theorem own : ownKnob Try.prog.godebug = none := by kernel_rfl

theorem runs : ∀ av, Args [(.arr 8 (.int .u16)), (.arr 8 (.int .u16)), (.arr 8 (.int .u16))] av → ∃ n m', run Try.cx n 5 av ⟨[], 0⟩ = some (boolA true, m') := by
  intro av h
  obtain _ | ⟨gx, lx, h⟩ := h
  obtain _ | ⟨gy, ly, h⟩ := h
  obtain _ | ⟨gz, lz, h⟩ := h
  cases h
  obtain ⟨x, hx, ex⟩ := raw16 gx
  obtain ⟨y, hy, ey⟩ := raw16 gy
  obtain ⟨z, hz, ez⟩ := raw16 gz
  rw [ex, ey, ez]
  exact run_of_gets (l_products hx hy hz)

theorem tys : AllIs Try.prog [(.arr 8 (.int .u16)), (.arr 8 (.int .u16)), (.arr 8 (.int .u16))] [24, 24, 24] :=
  .cons (by unfold Is; exact ⟨22, by kernel_rfl, (by unfold Is; kernel_rfl), by kernel_rfl, by kernel_rfl⟩) (.cons (by unfold Is; exact ⟨22, by kernel_rfl, (by unfold Is; kernel_rfl), by kernel_rfl, by kernel_rfl⟩) (.cons (by unfold Is; exact ⟨22, by kernel_rfl, (by unfold Is; kernel_rfl), by kernel_rfl, by kernel_rfl⟩) (.nil)))

theorem contract (H : Type) (enc : TypeId × Value → H) (W : World) (base : Nat) (args : Array Value) (ds gs : List (DataW H)) (before : List MemPlace)
    (hval : ∀ (j : Nat) t v, Try.f5.params[j]? = some t → args[j]? = some v → Value.okWide Try.prog W .any base t v)
    (hW : DataW.Whole enc Try.prog Try.f5.params.toList Rows.monomialProductsSpec.vars false W args.toList ds gs before) :
    Calls Try.prog 5 args W fun e W' => ∃ v, e = .returned v ∧ Rows.monomialProductsSpec.post enc Try.prog Try.f5 false true false false W args v W' :=
  law_contract (Γ := Try.cx) (fn := Try.f5) Try.cxOk (τs := [(.arr 8 (.int .u16)), (.arr 8 (.int .u16)), (.arr 8 (.int .u16))]) (tb := 4) rfl
    (fun ds h => by match ds, h with | [_, _, _], _ => rfl)
    rfl (by kernel_rfl) tys (by kernel_rfl)
    (fun t ht => by have h : t ∈ [24, 24, 24] := ht; simp only [List.mem_cons, List.not_mem_nil, or_false] at h; rcases h with rfl | rfl | rfl <;> exact ⟨by kernel_rfl, of_decide_eq_true (by kernel_rfl)⟩)
    runs W base args ds gs before hval hW

theorem lifted (os : Os) (started : os.Started) (H : Type) (enc : TypeId × Value → H) :
    ReturnsInHanded {} Try.checked os 5 .any (Rows.monomialProductsSpec.pre6 enc Try.prog Try.f5 Rows.monomialProductsRow.domain false) (Rows.monomialProductsSpec.post enc Try.prog Try.f5 false true false false) := by
  refine returnsInHanded_of_change (C := Try.checked) own started (by kernel_rfl) Try.func5
    (ChangeSpec.witness6 (enc := enc) (C := Try.checked) false ⟨#[], #[.agg #[.int .u16 0, .int .u16 0, .int .u16 0, .int .u16 0, .int .u16 0, .int .u16 0, .int .u16 0, .int .u16 0], .agg #[.int .u16 0, .int .u16 0, .int .u16 0, .int .u16 0, .int .u16 0, .int .u16 0, .int .u16 0, .int .u16 0], .agg #[.int .u16 0, .int .u16 0, .int .u16 0, .int .u16 0, .int .u16 0, .int .u16 0, .int .u16 0, .int .u16 0]], []⟩ 8 (by kernel_rfl) (by kernel_rfl) (by kernel_rfl) (by kernel_rfl)) ?_
  intro W base args ds gs before hval hW _ _
  exact contract H enc W base args ds gs before hval hW

theorem proved : Rows.MonomialProductsSaid :=
  OpenClaim.holds_of_wide 5 Try.f5 rfl rfl rfl rfl rfl rfl rfl ⟨rfl, rfl, rfl, rfl, rfl⟩ rfl rfl rfl rfl rfl (by kernel_rfl) Try.func5 (by kernel_rfl)
    (of_decide_eq_true (by kernel_rfl)) (by unfold Func.isWrapper; first | (rw [if_pos (by decide +kernel)]; kernel_rfl) | (rw [if_neg (by decide +kernel)]; exact ⟨rfl, rfl⟩))
    (fun os started H enc _ => lifted os started H enc)

end Go.Proofs.Ytcnpldkadgloiaa.monomialProducts
