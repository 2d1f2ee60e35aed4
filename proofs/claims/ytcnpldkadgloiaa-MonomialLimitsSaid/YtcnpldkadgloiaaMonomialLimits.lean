/-
  The law MonomialLimits returns true for every argument. Conditions: none.
-/
import Derived.Test.YtcnpldkadgloiaaLim
import Derived.Test.YtcnpldkadgloiaaRaw
import Derived.Test.YtcnpldkadgloiaaRows
import Derived.JoinedOf
import Derived.Handed
set_option maxRecDepth 100000
set_option linter.unusedVariables false
namespace Go.Proofs.Ytcnpldkadgloiaa.monomialLimits
open Go.Am Go.ChangeShapes Go.WideShapes Go.ChangeAt

theorem own : ownKnob Try.prog.godebug = none := by kernel_rfl

theorem runs : ∀ av, Args [(.arr 8 (.int .i64)), (.arr 2 (.int .i64))] av → ∃ n m', run Try.cx n 4 av ⟨[], 0⟩ = some (boolA true, m') := by
  intro av h
  obtain _ | ⟨g0, l0, h⟩ := h
  obtain _ | ⟨g1, l1, h⟩ := h
  cases h
  obtain ⟨a, e0, _⟩ := raw_open g0
  obtain ⟨xs, rfl, hl, hg⟩ := g1
  obtain ⟨b, h1, _⟩ := arr_open 2 xs hl hg
  have e1 : TyD.av (.arr 2 (.int .i64)) xs.flatten = .ag [J (b 0), J (b 1)] := by
    simp only [TyD.av, h1]
    rfl
  rw [e0, e1]
  exact run_of_gets (l_limits a (b 0) (b 1))

theorem tys : AllIs Try.prog [(.arr 8 (.int .i64)), (.arr 2 (.int .i64))] [27, 40] :=
  .cons (by unfold Is; exact ⟨3, by kernel_rfl, (by unfold Is; kernel_rfl), by kernel_rfl, by kernel_rfl⟩) (.cons (by unfold Is; exact ⟨3, by kernel_rfl, (by unfold Is; kernel_rfl), by kernel_rfl, by kernel_rfl⟩) (.nil))

theorem contract (H : Type) (enc : TypeId × Value → H) (W : World) (base : Nat) (args : Array Value) (ds gs : List (DataW H)) (before : List MemPlace)
    (hval : ∀ (j : Nat) t v, Try.f4.params[j]? = some t → args[j]? = some v → Value.okWide Try.prog W .any base t v)
    (hW : DataW.Whole enc Try.prog Try.f4.params.toList Rows.monomialLimitsSpec.vars false W args.toList ds gs before) :
    Calls Try.prog 4 args W fun e W' => ∃ v, e = .returned v ∧ Rows.monomialLimitsSpec.post enc Try.prog Try.f4 false true false false W args v W' :=
  law_contract (Γ := Try.cx) (fn := Try.f4) Try.cxOk (τs := [(.arr 8 (.int .i64)), (.arr 2 (.int .i64))]) (tb := 4) rfl
    (fun ds h => by match ds, h with | [_, _], _ => rfl)
    rfl (by kernel_rfl) tys (by kernel_rfl)
    (fun t ht => by have h : t ∈ [27, 40] := ht; simp only [List.mem_cons, List.not_mem_nil, or_false] at h; rcases h with rfl | rfl <;> exact ⟨by kernel_rfl, of_decide_eq_true (by kernel_rfl)⟩)
    runs W base args ds gs before hval hW

theorem lifted (os : Os) (started : os.Started) (H : Type) (enc : TypeId × Value → H) :
    ReturnsInHanded {} Try.checked os 4 .any (Rows.monomialLimitsSpec.pre6 enc Try.prog Try.f4 Rows.monomialLimitsRow.domain false) (Rows.monomialLimitsSpec.post enc Try.prog Try.f4 false true false false) := by
  refine returnsInHanded_of_change (C := Try.checked) own started (by kernel_rfl) Try.func4
    (ChangeSpec.witness6 (enc := enc) (C := Try.checked) false ⟨#[], #[.agg #[.int .i64 0, .int .i64 0, .int .i64 0, .int .i64 0, .int .i64 0, .int .i64 0, .int .i64 0, .int .i64 0], .agg #[.int .i64 0, .int .i64 0]], []⟩ 8 (by kernel_rfl) (by kernel_rfl) (by kernel_rfl) (by kernel_rfl)) ?_
  intro W base args ds gs before hval hW _ _
  exact contract H enc W base args ds gs before hval hW

theorem proved : Rows.MonomialLimitsSaid :=
  OpenClaim.holds_of_wide 4 Try.f4 rfl rfl rfl rfl rfl rfl rfl ⟨rfl, rfl, rfl, rfl, rfl⟩ rfl rfl rfl rfl rfl (by kernel_rfl) Try.func4 (by kernel_rfl)
    (of_decide_eq_true (by kernel_rfl)) (by unfold Func.isWrapper; first | (rw [if_pos (by decide +kernel)]; kernel_rfl) | (rw [if_neg (by decide +kernel)]; exact ⟨rfl, rfl⟩))
    (fun os started H enc _ => lifted os started H enc)

end Go.Proofs.Ytcnpldkadgloiaa.monomialLimits
