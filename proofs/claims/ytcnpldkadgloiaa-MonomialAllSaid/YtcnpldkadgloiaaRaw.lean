/-
  Arguments that are arrays of eight numbers. Conditions: none.
-/
import Derived.Test.YtcnpldkadgloiaaMonc
set_option maxRecDepth 100000
set_option maxHeartbeats 20000000
set_option linter.unusedSimpArgs false
set_option linter.unusedVariables false
namespace Go.Proofs.Ytcnpldkadgloiaa
open Go.Am

theorem arr_open {k : IntKind} : ∀ (n : Nat) (xs : List (List D)), xs.length = n → (∀ x ∈ xs, Go.Am.Good (.int k) x) → ∃ a : Nat → Int, xs.flatten = (List.range n).map (fun i => .v (.int k (a i))) ∧ ∀ i, i < n → k.min ≤ a i ∧ a i ≤ k.max
  | 0, xs, h, _ => by
    have : xs = [] := List.eq_nil_of_length_eq_zero h
    subst this
    exact ⟨fun _ => 0, rfl, fun i hi => absurd hi (Nat.not_lt_zero i)⟩
  | n + 1, xs, h, hg => by
    have hne : xs ≠ [] := fun e => by rw [e] at h; simp at h
    obtain ⟨ys, y, rfl⟩ : ∃ ys y, xs = ys ++ [y] := ⟨xs.dropLast, xs.getLast hne, (List.dropLast_concat_getLast hne).symm⟩
    obtain ⟨a, h1, h2⟩ := arr_open n ys (by simpa using h) fun x hx => hg x (List.mem_append_left _ hx)
    obtain ⟨v, hv, hv1, hv2⟩ := hg y (List.mem_append_right _ List.mem_cons_self)
    refine ⟨fun i => if i = n then v else a i, ?_, fun i hi => ?_⟩
    · rw [List.flatten_append, h1, hv, List.range_succ, List.map_append]
      simp only [List.flatten_cons, List.flatten_nil, List.append_nil, List.map_cons, List.map_nil, if_true]
      congr 1
      refine List.map_congr_left fun i hi => ?_
      have : i ≠ n := by have := List.mem_range.mp hi; omega
      simp [this]
    · by_cases hin : i = n
      · simp [hin, hv1, hv2]
      · simp only [if_neg hin]; exact h2 i (by omega)

theorem raw_open {k : IntKind} {ds : List D} (h : Go.Am.Good (.arr 8 (.int k)) ds) : ∃ a : Nat → Int, TyD.av (.arr 8 (.int k)) ds = .ag [intA k (a 0), intA k (a 1), intA k (a 2), intA k (a 3), intA k (a 4), intA k (a 5), intA k (a 6), intA k (a 7)] ∧ ∀ i, i < 8 → k.min ≤ a i ∧ a i ≤ k.max := by
  obtain ⟨xs, rfl, hl, hg⟩ := h
  obtain ⟨a, h1, h2⟩ := arr_open 8 xs hl hg
  refine ⟨a, ?_, h2⟩
  simp only [TyD.av, h1]
  rfl

theorem raw16 {ds : List D} (h : Go.Am.Good (.arr 8 (.int .u16)) ds) : ∃ a : Nat → Int, InR a ∧ TyD.av (.arr 8 (.int .u16)) ds = .ag [intA .u16 (a 0), intA .u16 (a 1), intA .u16 (a 2), intA .u16 (a 3), intA .u16 (a 4), intA .u16 (a 5), intA .u16 (a 6), intA .u16 (a 7)] := by
  obtain ⟨a, h1, h2⟩ := raw_open h
  refine ⟨a, fun i hi => ?_, h1⟩
  have := h2 i hi
  simpa [IntKind.min, IntKind.max, IntKind.signed, IntKind.bits] using this

end Go.Proofs.Ytcnpldkadgloiaa
