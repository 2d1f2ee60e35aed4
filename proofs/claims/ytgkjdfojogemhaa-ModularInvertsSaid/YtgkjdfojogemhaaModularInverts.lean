/-
  The law ModularInverts returns true for every argument. Conditions: none.
-/
import Derived.Test.YtgkjdfojogemhaaInvd
import Derived.Test.YtgkjdfojogemhaaRows
import Derived.JoinedOf
import Derived.Handed
set_option maxRecDepth 100000
set_option linter.unusedVariables false
namespace Go.Proofs.Ytgkjdfojogemhaa.modularInverts
open Go.Am Go.ChangeShapes Go.WideShapes Go.ChangeAt

theorem own : ownKnob Try.prog.godebug = none := by kernel_rfl

theorem runs : ∀ av, Args [(.int .u32), (.int .u64), (.int .u64)] av → ∃ n m', run Try.cx n 5 av ⟨[], 0⟩ = some (boolA true, m') := by
  intro av h
  obtain _ | ⟨g0, l0, h⟩ := h
  obtain _ | ⟨g1, l1, h⟩ := h
  obtain _ | ⟨g2, l2, h⟩ := h
  cases h
  obtain ⟨n, rfl, n1, n2⟩ := g0
  obtain ⟨a, rfl, a1, a2⟩ := g1
  obtain ⟨b, rfl, b1, b2⟩ := g2
  simp only [IntKind.min, IntKind.max, IntKind.signed, IntKind.bits] at n1 n2 a1 a2 b1 b2
  obtain ⟨n', rfl⟩ : ∃ n' : Nat, n = n' := ⟨n.toNat, by simp at n1; omega⟩
  obtain ⟨a', rfl⟩ : ∃ a' : Nat, a = a' := ⟨a.toNat, by simp at a1; omega⟩
  obtain ⟨b', rfl⟩ : ∃ b' : Nat, b = b' := ⟨b.toNat, by simp at b1; omega⟩
  exact run_of_gets (l_inverts (by simp at n2; omega) (by simp at a2; omega) (by simp at b2; omega))

theorem tys : AllIs Try.prog [(.int .u32), (.int .u64), (.int .u64)] [22, 23, 23] :=
  .cons (by unfold Is; kernel_rfl) (.cons (by unfold Is; kernel_rfl) (.cons (by unfold Is; kernel_rfl) (.nil)))

theorem contract (H : Type) (enc : TypeId × Value → H) (W : World) (base : Nat) (args : Array Value) (ds gs : List (DataW H)) (before : List MemPlace)
    (hval : ∀ (j : Nat) t v, Try.f5.params[j]? = some t → args[j]? = some v → Value.okWide Try.prog W .any base t v)
    (hW : DataW.Whole enc Try.prog Try.f5.params.toList Rows.modularInvertsSpec.vars false W args.toList ds gs before) :
    Calls Try.prog 5 args W fun e W' => ∃ v, e = .returned v ∧ Rows.modularInvertsSpec.post enc Try.prog Try.f5 false true false false W args v W' :=
  law_contract (Γ := Try.cx) (fn := Try.f5) Try.cxOk (τs := [(.int .u32), (.int .u64), (.int .u64)]) (tb := 4) rfl
    (fun ds h => by match ds, h with | [_, _, _], _ => rfl)
    rfl (by kernel_rfl) tys (by kernel_rfl)
    (fun t ht => by have h : t ∈ [22, 23, 23] := ht; simp only [List.mem_cons, List.not_mem_nil, or_false] at h; rcases h with rfl | rfl | rfl <;> exact ⟨by kernel_rfl, of_decide_eq_true (by kernel_rfl)⟩)
    runs W base args ds gs before hval hW

theorem lifted (os : Os) (started : os.Started) (H : Type) (enc : TypeId × Value → H) :
    ReturnsInHanded {} Try.checked os 5 .any (Rows.modularInvertsSpec.pre6 enc Try.prog Try.f5 Rows.modularInvertsRow.domain false) (Rows.modularInvertsSpec.post enc Try.prog Try.f5 false true false false) := by
  refine returnsInHanded_of_change (C := Try.checked) own started (by kernel_rfl) Try.func5
    (ChangeSpec.witness6 (enc := enc) (C := Try.checked) false ⟨#[], #[.int .u32 0, .int .u64 0, .int .u64 0], []⟩ 8 (by kernel_rfl) (by kernel_rfl) (by kernel_rfl) (by kernel_rfl)) ?_
  intro W base args ds gs before hval hW _ _
  exact contract H enc W base args ds gs before hval hW

theorem proved : Rows.ModularInvertsSaid :=
  OpenClaim.holds_of_wide 5 Try.f5 rfl rfl rfl rfl rfl rfl rfl ⟨rfl, rfl, rfl, rfl, rfl⟩ rfl rfl rfl rfl rfl (by kernel_rfl) Try.func5 (by kernel_rfl)
    (of_decide_eq_true (by kernel_rfl)) (by unfold Func.isWrapper; first | (rw [if_pos (by decide +kernel)]; kernel_rfl) | (rw [if_neg (by decide +kernel)]; exact ⟨rfl, rfl⟩))
    (fun os started H enc _ => lifted os started H enc)

end Go.Proofs.Ytgkjdfojogemhaa.modularInverts
