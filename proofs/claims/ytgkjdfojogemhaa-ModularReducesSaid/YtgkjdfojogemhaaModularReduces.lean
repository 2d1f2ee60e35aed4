/-
  The law ModularReduces returns true for every argument. Conditions: none.
-/
import Derived.Test.YtgkjdfojogemhaaWnn
import Derived.Test.YtgkjdfojogemhaaRows
import Derived.JoinedOf
import Derived.Handed
set_option maxRecDepth 100000
set_option linter.unusedVariables false
namespace Go.Proofs.Ytgkjdfojogemhaa.modularReduces
open Go.Am Go.ChangeShapes Go.WideShapes Go.ChangeAt

theorem own : ownKnob Try.prog.godebug = none := by kernel_rfl

theorem runs : ∀ av, Args [(.int .u32), (.cons (.int .i8) (.cons (.int .i8) (.cons (.int .u8) .nil))), (.cons (.int .i8) (.cons (.int .i8) (.cons (.int .u8) .nil)))] av → ∃ n m', run Try.cx n 6 av ⟨[], 0⟩ = some (boolA true, m') := by
  intro av h
  obtain _ | ⟨g0, l0, h⟩ := h
  obtain _ | ⟨g1, l1, h⟩ := h
  obtain _ | ⟨g2, l2, h⟩ := h
  cases h
  obtain ⟨n, rfl, n1, n2⟩ := g0
  obtain ⟨_, _, rfl, ⟨na, rfl, a1, a2⟩, ⟨_, _, rfl, ⟨da, rfl, a3, a4⟩, ⟨_, _, rfl, ⟨ka, rfl, a5, a6⟩, rfl⟩⟩⟩ := g1
  obtain ⟨_, _, rfl, ⟨nb, rfl, b1, b2⟩, ⟨_, _, rfl, ⟨db, rfl, b3, b4⟩, ⟨_, _, rfl, ⟨kb, rfl, b5, b6⟩, rfl⟩⟩⟩ := g2
  simp only [IntKind.min, IntKind.max, IntKind.signed, IntKind.bits] at n1 n2 a1 a2 a3 a4 a5 a6 b1 b2 b3 b4 b5 b6
  obtain ⟨n', rfl⟩ : ∃ n' : Nat, n = n' := ⟨n.toNat, by simp at n1; omega⟩
  obtain ⟨ka', rfl⟩ : ∃ n' : Nat, ka = n' := ⟨ka.toNat, by simp at a5; omega⟩
  obtain ⟨kb', rfl⟩ : ∃ n' : Nat, kb = n' := ⟨kb.toNat, by simp at b5; omega⟩
  exact run_of_gets (W.l_reduces (by simp at n2; omega) (by simp at a1; omega) (by simp at a2; omega) (by simp at a3; omega) (by simp at a4; omega) (by simp at a6; omega) (by simp at b1; omega) (by simp at b2; omega) (by simp at b3; omega) (by simp at b4; omega) (by simp at b6; omega))

theorem tys : AllIs Try.prog [(.int .u32), (.cons (.int .i8) (.cons (.int .i8) (.cons (.int .u8) .nil))), (.cons (.int .i8) (.cons (.int .i8) (.cons (.int .u8) .nil)))] [22, 26, 26] :=
  .cons (by unfold Is; kernel_rfl) (.cons (by unfold Is; exact ⟨⟨"N", 24, 0, false, "", "", 0⟩, [⟨"D", 24, 1, false, "", "", 1⟩, ⟨"K", 5, 2, false, "", "", 2⟩], by kernel_rfl, rfl, by unfold Is; kernel_rfl, by kernel_rfl, by unfold IsF; exact ⟨_, _, rfl, rfl, by unfold Is; kernel_rfl, by kernel_rfl, by unfold IsF; exact ⟨_, _, rfl, rfl, by unfold Is; kernel_rfl, by kernel_rfl, by unfold IsF; rfl⟩⟩, by kernel_rfl⟩) (.cons (by unfold Is; exact ⟨⟨"N", 24, 0, false, "", "", 0⟩, [⟨"D", 24, 1, false, "", "", 1⟩, ⟨"K", 5, 2, false, "", "", 2⟩], by kernel_rfl, rfl, by unfold Is; kernel_rfl, by kernel_rfl, by unfold IsF; exact ⟨_, _, rfl, rfl, by unfold Is; kernel_rfl, by kernel_rfl, by unfold IsF; exact ⟨_, _, rfl, rfl, by unfold Is; kernel_rfl, by kernel_rfl, by unfold IsF; rfl⟩⟩, by kernel_rfl⟩) (.nil)))

theorem contract (H : Type) (enc : TypeId × Value → H) (W : World) (base : Nat) (args : Array Value) (ds gs : List (DataW H)) (before : List MemPlace)
    (hval : ∀ (j : Nat) t v, Try.f6.params[j]? = some t → args[j]? = some v → Value.okWide Try.prog W .any base t v)
    (hW : DataW.Whole enc Try.prog Try.f6.params.toList Rows.modularReducesSpec.vars false W args.toList ds gs before) :
    Calls Try.prog 6 args W fun e W' => ∃ v, e = .returned v ∧ Rows.modularReducesSpec.post enc Try.prog Try.f6 false true false false W args v W' :=
  law_contract (Γ := Try.cx) (fn := Try.f6) Try.cxOk (τs := [(.int .u32), (.cons (.int .i8) (.cons (.int .i8) (.cons (.int .u8) .nil))), (.cons (.int .i8) (.cons (.int .i8) (.cons (.int .u8) .nil)))]) (tb := 4) rfl
    (fun ds h => by match ds, h with | [_, _, _], _ => rfl)
    rfl (by kernel_rfl) tys (by kernel_rfl)
    (fun t ht => by have h : t ∈ [22, 26, 26] := ht; simp only [List.mem_cons, List.not_mem_nil, or_false] at h; rcases h with rfl | rfl | rfl <;> exact ⟨by kernel_rfl, of_decide_eq_true (by kernel_rfl)⟩)
    runs W base args ds gs before hval hW

theorem lifted (os : Os) (started : os.Started) (H : Type) (enc : TypeId × Value → H) :
    ReturnsInHanded {} Try.checked os 6 .any (Rows.modularReducesSpec.pre6 enc Try.prog Try.f6 Rows.modularReducesRow.domain false) (Rows.modularReducesSpec.post enc Try.prog Try.f6 false true false false) := by
  refine returnsInHanded_of_change (C := Try.checked) own started (by kernel_rfl) Try.func6
    (ChangeSpec.witness6 (enc := enc) (C := Try.checked) false ⟨#[], #[.int .u32 0, .agg #[.int .i8 0, .int .i8 0, .int .u8 0], .agg #[.int .i8 0, .int .i8 0, .int .u8 0]], []⟩ 8 (by kernel_rfl) (by kernel_rfl) (by kernel_rfl) (by kernel_rfl)) ?_
  intro W base args ds gs before hval hW _ _
  exact contract H enc W base args ds gs before hval hW

theorem proved : Rows.ModularReducesSaid :=
  OpenClaim.holds_of_wide 6 Try.f6 rfl rfl rfl rfl rfl rfl rfl ⟨rfl, rfl, rfl, rfl, rfl⟩ rfl rfl rfl rfl rfl (by kernel_rfl) Try.func6 (by kernel_rfl)
    (of_decide_eq_true (by kernel_rfl)) (by unfold Func.isWrapper; first | (rw [if_pos (by decide +kernel)]; kernel_rfl) | (rw [if_neg (by decide +kernel)]; exact ⟨rfl, rfl⟩))
    (fun os started H enc _ => lifted os started H enc)

end Go.Proofs.Ytgkjdfojogemhaa.modularReduces
