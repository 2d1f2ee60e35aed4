/-
  The law MonomialAll returns true for every argument. Conditions: none.
-/
import Derived.Test.YtcnpldkadgloiaaAlc
import Derived.Test.YtcnpldkadgloiaaRows
import Derived.JoinedOf
import Derived.Handed
set_option maxRecDepth 100000
set_option linter.unusedVariables false
namespace Go.Proofs.Ytcnpldkadgloiaa.monomialAll
open Go.Am Go.ChangeShapes Go.WideShapes Go.ChangeAt

theorem own : ownKnob Try.prog.godebug = none := by kernel_rfl

theorem runs : ∀ av, Args [(.int .u8), (.int .u8), (.arr 8 (.int .u16))] av → ∃ n m', run Try.cx n 10 av ⟨[], 0⟩ = some (boolA true, m') := by
  intro av h
  obtain _ | ⟨g0, l0, h⟩ := h
  obtain _ | ⟨g1, l1, h⟩ := h
  obtain _ | ⟨g2, l2, h⟩ := h
  cases h
  obtain ⟨a, rfl, a1, a2⟩ := g0
  obtain ⟨b, rfl, b1, b2⟩ := g1
  obtain ⟨y, hy, e2⟩ := raw16 g2
  rw [e2]
  exact run_of_gets (l_all hy ⟨a1, a2⟩ ⟨b1, b2⟩)

theorem tys : AllIs Try.prog [(.int .u8), (.int .u8), (.arr 8 (.int .u16))] [5, 5, 24] :=
  .cons (by unfold Is; kernel_rfl) (.cons (by unfold Is; kernel_rfl) (.cons (by unfold Is; exact ⟨22, by kernel_rfl, (by unfold Is; kernel_rfl), by kernel_rfl, by kernel_rfl⟩) (.nil)))

theorem contract (H : Type) (enc : TypeId × Value → H) (W : World) (base : Nat) (args : Array Value) (ds gs : List (DataW H)) (before : List MemPlace)
    (hval : ∀ (j : Nat) t v, Try.f10.params[j]? = some t → args[j]? = some v → Value.okWide Try.prog W .any base t v)
    (hW : DataW.Whole enc Try.prog Try.f10.params.toList Rows.monomialAllSpec.vars false W args.toList ds gs before) :
    Calls Try.prog 10 args W fun e W' => ∃ v, e = .returned v ∧ Rows.monomialAllSpec.post enc Try.prog Try.f10 false true false false W args v W' :=
  law_contract (Γ := Try.cx) (fn := Try.f10) Try.cxOk (τs := [(.int .u8), (.int .u8), (.arr 8 (.int .u16))]) (tb := 4) rfl
    (fun ds h => by match ds, h with | [_, _, _], _ => rfl)
    rfl (by kernel_rfl) tys (by kernel_rfl)
    (fun t ht => by have h : t ∈ [5, 5, 24] := ht; simp only [List.mem_cons, List.not_mem_nil, or_false] at h; rcases h with rfl | rfl | rfl <;> exact ⟨by kernel_rfl, of_decide_eq_true (by kernel_rfl)⟩)
    runs W base args ds gs before hval hW

theorem lifted (os : Os) (started : os.Started) (H : Type) (enc : TypeId × Value → H) :
    ReturnsInHanded {} Try.checked os 10 .any (Rows.monomialAllSpec.pre6 enc Try.prog Try.f10 Rows.monomialAllRow.domain false) (Rows.monomialAllSpec.post enc Try.prog Try.f10 false true false false) := by
  refine returnsInHanded_of_change (C := Try.checked) own started (by kernel_rfl) Try.func10
    (ChangeSpec.witness6 (enc := enc) (C := Try.checked) false ⟨#[], #[.int .u8 0, .int .u8 0, .agg #[.int .u16 0, .int .u16 0, .int .u16 0, .int .u16 0, .int .u16 0, .int .u16 0, .int .u16 0, .int .u16 0]], []⟩ 8 (by kernel_rfl) (by kernel_rfl) (by kernel_rfl) (by kernel_rfl)) ?_
  intro W base args ds gs before hval hW _ _
  exact contract H enc W base args ds gs before hval hW

theorem proved : Rows.MonomialAllSaid :=
  OpenClaim.holds_of_wide 10 Try.f10 rfl rfl rfl rfl rfl rfl rfl ⟨rfl, rfl, rfl, rfl, rfl⟩ rfl rfl rfl rfl rfl (by kernel_rfl) Try.func10 (by kernel_rfl)
    (of_decide_eq_true (by kernel_rfl)) (by unfold Func.isWrapper; first | (rw [if_pos (by decide +kernel)]; kernel_rfl) | (rw [if_neg (by decide +kernel)]; exact ⟨rfl, rfl⟩))
    (fun os started H enc _ => lifted os started H enc)

end Go.Proofs.Ytcnpldkadgloiaa.monomialAll
