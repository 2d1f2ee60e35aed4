/-
  The law ModularSmall returns true for every argument. Conditions: none.
-/
import Derived.Test.YtgkjdfojogemhaaWsl
import Derived.Test.YtgkjdfojogemhaaRows
import Derived.JoinedOf
import Derived.Handed
set_option maxRecDepth 100000
set_option linter.unusedVariables false
namespace Go.Proofs.Ytgkjdfojogemhaa.modularSmall
open Go.Am Go.ChangeShapes Go.WideShapes Go.ChangeAt

theorem own : ownKnob Try.prog.godebug = none := by kernel_rfl

theorem runs : ∀ av, Args [(.int .i16), (.int .u8)] av → ∃ n m', run Try.cx n 9 av ⟨[], 0⟩ = some (boolA true, m') := by
  intro av h
  obtain _ | ⟨g0, l0, h⟩ := h
  obtain _ | ⟨g1, l1, h⟩ := h
  cases h
  obtain ⟨n, rfl, n1, n2⟩ := g0
  obtain ⟨m, rfl, m1, m2⟩ := g1
  simp only [IntKind.min, IntKind.max, IntKind.signed, IntKind.bits] at n1 n2 m1 m2
  obtain ⟨m', rfl⟩ : ∃ m' : Nat, m = m' := ⟨m.toNat, by simp at m1; omega⟩
  exact run_of_gets (W.l_small (by simp at n1; omega) (by simp at n2; omega) (by simp at m2; omega))

theorem tys : AllIs Try.prog [(.int .i16), (.int .u8)] [63, 5] :=
  .cons (by unfold Is; kernel_rfl) (.cons (by unfold Is; kernel_rfl) (.nil))

theorem contract (H : Type) (enc : TypeId × Value → H) (W : World) (base : Nat) (args : Array Value) (ds gs : List (DataW H)) (before : List MemPlace)
    (hval : ∀ (j : Nat) t v, Try.f9.params[j]? = some t → args[j]? = some v → Value.okWide Try.prog W .any base t v)
    (hW : DataW.Whole enc Try.prog Try.f9.params.toList Rows.modularSmallSpec.vars false W args.toList ds gs before) :
    Calls Try.prog 9 args W fun e W' => ∃ v, e = .returned v ∧ Rows.modularSmallSpec.post enc Try.prog Try.f9 false true false false W args v W' :=
  law_contract (Γ := Try.cx) (fn := Try.f9) Try.cxOk (τs := [(.int .i16), (.int .u8)]) (tb := 4) rfl
    (fun ds h => by match ds, h with | [_, _], _ => rfl)
    rfl (by kernel_rfl) tys (by kernel_rfl)
    (fun t ht => by have h : t ∈ [63, 5] := ht; simp only [List.mem_cons, List.not_mem_nil, or_false] at h; rcases h with rfl | rfl <;> exact ⟨by kernel_rfl, of_decide_eq_true (by kernel_rfl)⟩)
    runs W base args ds gs before hval hW

theorem lifted (os : Os) (started : os.Started) (H : Type) (enc : TypeId × Value → H) :
    ReturnsInHanded {} Try.checked os 9 .any (Rows.modularSmallSpec.pre6 enc Try.prog Try.f9 Rows.modularSmallRow.domain false) (Rows.modularSmallSpec.post enc Try.prog Try.f9 false true false false) := by
  refine returnsInHanded_of_change (C := Try.checked) own started (by kernel_rfl) Try.func9
    (ChangeSpec.witness6 (enc := enc) (C := Try.checked) false ⟨#[], #[.int .i16 0, .int .u8 0], []⟩ 8 (by kernel_rfl) (by kernel_rfl) (by kernel_rfl) (by kernel_rfl)) ?_
  intro W base args ds gs before hval hW _ _
  exact contract H enc W base args ds gs before hval hW

theorem proved : Rows.ModularSmallSaid :=
  OpenClaim.holds_of_wide 9 Try.f9 rfl rfl rfl rfl rfl rfl rfl ⟨rfl, rfl, rfl, rfl, rfl⟩ rfl rfl rfl rfl rfl (by kernel_rfl) Try.func9 (by kernel_rfl)
    (of_decide_eq_true (by kernel_rfl)) (by unfold Func.isWrapper; first | (rw [if_pos (by decide +kernel)]; kernel_rfl) | (rw [if_neg (by decide +kernel)]; exact ⟨rfl, rfl⟩))
    (fun os started H enc _ => lifted os started H enc)

end Go.Proofs.Ytgkjdfojogemhaa.modularSmall
