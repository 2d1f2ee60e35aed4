/-
  The law MonomialLimits: the run of its loop. Conditions: none.
-/
import Derived.Test.YtcnpldkadgloiaaFill
import Derived.Test.YtcnpldkadgloiaaMonb
set_option maxRecDepth 100000
set_option maxHeartbeats 20000000
set_option linter.unusedSimpArgs false
set_option linter.unusedVariables false
namespace Go.Proofs.Ytcnpldkadgloiaa
open Go.Am

noncomputable def limB : Code := match Try.f4.body with
  | some (.seq _ (.seq _ (.seq _ (.seq _ (.seq (.seq _ (.block _ (.loop b))) _))))) => b
  | _ => .skip

abbrev Lm (a : Nat → Int) (p q : Int) : Mem := ⟨[.row (Mc a) 0 .ow none, .row [J p, J q] 1 .ow none], 2⟩
abbrev Lw (a : Nat → Int) (p q : Int) (want : Bool) (j : Nat) (l : List AV) : St := ⟨[Ag a, .ag [J p, J q], .ptr 0 0 0, .ptr 1 1 0, No, Yes, boolA want, J j, U, U, U, Yes, Yes, No] ++ l ++ us 64, Lm a p q⟩

theorem lim_round {a : Nat → Int} {p q : Int} {want : Bool} {j : Nat} {K : Out → St → Prop} (hj : j < 8) (x14 x15 x16 x17 x18 x19 x20 x21 x22 x23 x24 x25 x26 x27 x28 x29 x30 : AV)
    (h : ∀ x14 x15 x16 x17 x18 x19 x20 x21 x22 x23 x24 x25 x26 x27 x28 x29 x30, EvK Try.cx 4 (.loop limB) (Lw a p q (want && decide (a j ≥ 0) && decide (a j ≤ 65535)) (j + 1) [x14, x15, x16, x17, x18, x19, x20, x21, x22, x23, x24, x25, x26, x27, x28, x29, x30]) K) :
    EvK Try.cx 4 (.loop limB) (Lw a p q want j [x14, x15, x16, x17, x18, x19, x20, x21, x22, x23, x24, x25, x26, x27, x28, x29, x30]) K := by
  have : j = 0 ∨ j = 1 ∨ j = 2 ∨ j = 3 ∨ j = 4 ∨ j = 5 ∨ j = 6 ∨ j = 7 := by omega
  clear hj
  rcases this with rfl | rfl | rfl | rfl | rfl | rfl | rfl | rfl
  · refine ev_loop ?_
    refine ev_seq ?_
    refine ev_seq ?_
    refine ev_reg (by kernel_rfl) ?_
    refine rs_all (s1 := Lw a p q want 0 [J 0, Yes, x16, x17, x18, x19, x20, x21, x22, x23, x24, x25, x26, x27, x28, x29, x30]) (fun cf => by kernel_rfl) ?_
    refine ev_true (by kernel_rfl) ?_
    refine ev_skip ?_
    refine ev_seq ?_
    refine ev_block ?_
    refine ev_reg (by kernel_rfl) ?_
    cases want with
    | false =>
      refine rs_all (s1 := Lw a p q false 0 [J 0, Yes, x16, x17, No, No, U, U, U, U, No, No, U, U, U, U, No]) (fun cf => by kernel_rfl) ?_
      refine ev_reg (by kernel_rfl) ?_
      refine rs_all (s1 := Lw a p q false (0 + 1) [J 0, Yes, J 0, J (0 + 1), No, No, U, U, U, U, No, No, U, U, U, U, No]) (fun cf => by kernel_rfl) ?_
      exact h _ _ _ _ _ _ _ _ _ _ _ _ _ _ _ _ _
    | true =>
      refine rs_take 6 (s1 := Lw a p q true 0 [J 0, Yes, x16, x17, Yes, Yes, J 0, .ptr 0 0 0, J (a 0), boolA (decide (a 0 ≥ 0)), x24, x25, x26, x27, x28, x29, x30]) (fun cf => by kernel_rfl) ?_
      generalize decide (a 0 ≥ 0) = b1 at h ⊢
      cases b1 with
      | false =>
        refine rs_all (s1 := Lw a p q false 0 [J 0, Yes, x16, x17, Yes, Yes, J 0, .ptr 0 0 0, J (a 0), No, No, No, U, U, U, U, No]) (fun cf => by kernel_rfl) ?_
        refine ev_reg (by kernel_rfl) ?_
        refine rs_all (s1 := Lw a p q false (0 + 1) [J 0, Yes, J 0, J (0 + 1), Yes, Yes, J 0, .ptr 0 0 0, J (a 0), No, No, No, U, U, U, U, No]) (fun cf => by kernel_rfl) ?_
        exact h _ _ _ _ _ _ _ _ _ _ _ _ _ _ _ _ _
      | true =>
        refine rs_all (s1 := Lw a p q (decide (a 0 ≤ 65535)) 0 [J 0, Yes, x16, x17, Yes, Yes, J 0, .ptr 0 0 0, J (a 0), Yes, Yes, Yes, J 0, .ptr 0 0 0, J (a 0), boolA (decide (a 0 ≤ 65535)), boolA (decide (a 0 ≤ 65535))]) (fun cf => by kernel_rfl) ?_
        refine ev_reg (by kernel_rfl) ?_
        refine rs_all (s1 := Lw a p q (decide (a 0 ≤ 65535)) (0 + 1) [J 0, Yes, J 0, J (0 + 1), Yes, Yes, J 0, .ptr 0 0 0, J (a 0), Yes, Yes, Yes, J 0, .ptr 0 0 0, J (a 0), boolA (decide (a 0 ≤ 65535)), boolA (decide (a 0 ≤ 65535))]) (fun cf => by kernel_rfl) ?_
        exact h _ _ _ _ _ _ _ _ _ _ _ _ _ _ _ _ _
  · refine ev_loop ?_
    refine ev_seq ?_
    refine ev_seq ?_
    refine ev_reg (by kernel_rfl) ?_
    refine rs_all (s1 := Lw a p q want 1 [J 1, Yes, x16, x17, x18, x19, x20, x21, x22, x23, x24, x25, x26, x27, x28, x29, x30]) (fun cf => by kernel_rfl) ?_
    refine ev_true (by kernel_rfl) ?_
    refine ev_skip ?_
    refine ev_seq ?_
    refine ev_block ?_
    refine ev_reg (by kernel_rfl) ?_
    cases want with
    | false =>
      refine rs_all (s1 := Lw a p q false 1 [J 1, Yes, x16, x17, No, No, U, U, U, U, No, No, U, U, U, U, No]) (fun cf => by kernel_rfl) ?_
      refine ev_reg (by kernel_rfl) ?_
      refine rs_all (s1 := Lw a p q false (1 + 1) [J 1, Yes, J 1, J (1 + 1), No, No, U, U, U, U, No, No, U, U, U, U, No]) (fun cf => by kernel_rfl) ?_
      exact h _ _ _ _ _ _ _ _ _ _ _ _ _ _ _ _ _
    | true =>
      refine rs_take 6 (s1 := Lw a p q true 1 [J 1, Yes, x16, x17, Yes, Yes, J 1, .ptr 0 0 1, J (a 1), boolA (decide (a 1 ≥ 0)), x24, x25, x26, x27, x28, x29, x30]) (fun cf => by kernel_rfl) ?_
      generalize decide (a 1 ≥ 0) = b1 at h ⊢
      cases b1 with
      | false =>
        refine rs_all (s1 := Lw a p q false 1 [J 1, Yes, x16, x17, Yes, Yes, J 1, .ptr 0 0 1, J (a 1), No, No, No, U, U, U, U, No]) (fun cf => by kernel_rfl) ?_
        refine ev_reg (by kernel_rfl) ?_
        refine rs_all (s1 := Lw a p q false (1 + 1) [J 1, Yes, J 1, J (1 + 1), Yes, Yes, J 1, .ptr 0 0 1, J (a 1), No, No, No, U, U, U, U, No]) (fun cf => by kernel_rfl) ?_
        exact h _ _ _ _ _ _ _ _ _ _ _ _ _ _ _ _ _
      | true =>
        refine rs_all (s1 := Lw a p q (decide (a 1 ≤ 65535)) 1 [J 1, Yes, x16, x17, Yes, Yes, J 1, .ptr 0 0 1, J (a 1), Yes, Yes, Yes, J 1, .ptr 0 0 1, J (a 1), boolA (decide (a 1 ≤ 65535)), boolA (decide (a 1 ≤ 65535))]) (fun cf => by kernel_rfl) ?_
        refine ev_reg (by kernel_rfl) ?_
        refine rs_all (s1 := Lw a p q (decide (a 1 ≤ 65535)) (1 + 1) [J 1, Yes, J 1, J (1 + 1), Yes, Yes, J 1, .ptr 0 0 1, J (a 1), Yes, Yes, Yes, J 1, .ptr 0 0 1, J (a 1), boolA (decide (a 1 ≤ 65535)), boolA (decide (a 1 ≤ 65535))]) (fun cf => by kernel_rfl) ?_
        exact h _ _ _ _ _ _ _ _ _ _ _ _ _ _ _ _ _
  · refine ev_loop ?_
    refine ev_seq ?_
    refine ev_seq ?_
    refine ev_reg (by kernel_rfl) ?_
    refine rs_all (s1 := Lw a p q want 2 [J 2, Yes, x16, x17, x18, x19, x20, x21, x22, x23, x24, x25, x26, x27, x28, x29, x30]) (fun cf => by kernel_rfl) ?_
    refine ev_true (by kernel_rfl) ?_
    refine ev_skip ?_
    refine ev_seq ?_
    refine ev_block ?_
    refine ev_reg (by kernel_rfl) ?_
    cases want with
    | false =>
      refine rs_all (s1 := Lw a p q false 2 [J 2, Yes, x16, x17, No, No, U, U, U, U, No, No, U, U, U, U, No]) (fun cf => by kernel_rfl) ?_
      refine ev_reg (by kernel_rfl) ?_
      refine rs_all (s1 := Lw a p q false (2 + 1) [J 2, Yes, J 2, J (2 + 1), No, No, U, U, U, U, No, No, U, U, U, U, No]) (fun cf => by kernel_rfl) ?_
      exact h _ _ _ _ _ _ _ _ _ _ _ _ _ _ _ _ _
    | true =>
      refine rs_take 6 (s1 := Lw a p q true 2 [J 2, Yes, x16, x17, Yes, Yes, J 2, .ptr 0 0 2, J (a 2), boolA (decide (a 2 ≥ 0)), x24, x25, x26, x27, x28, x29, x30]) (fun cf => by kernel_rfl) ?_
      generalize decide (a 2 ≥ 0) = b1 at h ⊢
      cases b1 with
      | false =>
        refine rs_all (s1 := Lw a p q false 2 [J 2, Yes, x16, x17, Yes, Yes, J 2, .ptr 0 0 2, J (a 2), No, No, No, U, U, U, U, No]) (fun cf => by kernel_rfl) ?_
        refine ev_reg (by kernel_rfl) ?_
        refine rs_all (s1 := Lw a p q false (2 + 1) [J 2, Yes, J 2, J (2 + 1), Yes, Yes, J 2, .ptr 0 0 2, J (a 2), No, No, No, U, U, U, U, No]) (fun cf => by kernel_rfl) ?_
        exact h _ _ _ _ _ _ _ _ _ _ _ _ _ _ _ _ _
      | true =>
        refine rs_all (s1 := Lw a p q (decide (a 2 ≤ 65535)) 2 [J 2, Yes, x16, x17, Yes, Yes, J 2, .ptr 0 0 2, J (a 2), Yes, Yes, Yes, J 2, .ptr 0 0 2, J (a 2), boolA (decide (a 2 ≤ 65535)), boolA (decide (a 2 ≤ 65535))]) (fun cf => by kernel_rfl) ?_
        refine ev_reg (by kernel_rfl) ?_
        refine rs_all (s1 := Lw a p q (decide (a 2 ≤ 65535)) (2 + 1) [J 2, Yes, J 2, J (2 + 1), Yes, Yes, J 2, .ptr 0 0 2, J (a 2), Yes, Yes, Yes, J 2, .ptr 0 0 2, J (a 2), boolA (decide (a 2 ≤ 65535)), boolA (decide (a 2 ≤ 65535))]) (fun cf => by kernel_rfl) ?_
        exact h _ _ _ _ _ _ _ _ _ _ _ _ _ _ _ _ _
  · refine ev_loop ?_
    refine ev_seq ?_
    refine ev_seq ?_
    refine ev_reg (by kernel_rfl) ?_
    refine rs_all (s1 := Lw a p q want 3 [J 3, Yes, x16, x17, x18, x19, x20, x21, x22, x23, x24, x25, x26, x27, x28, x29, x30]) (fun cf => by kernel_rfl) ?_
    refine ev_true (by kernel_rfl) ?_
    refine ev_skip ?_
    refine ev_seq ?_
    refine ev_block ?_
    refine ev_reg (by kernel_rfl) ?_
    cases want with
    | false =>
      refine rs_all (s1 := Lw a p q false 3 [J 3, Yes, x16, x17, No, No, U, U, U, U, No, No, U, U, U, U, No]) (fun cf => by kernel_rfl) ?_
      refine ev_reg (by kernel_rfl) ?_
      refine rs_all (s1 := Lw a p q false (3 + 1) [J 3, Yes, J 3, J (3 + 1), No, No, U, U, U, U, No, No, U, U, U, U, No]) (fun cf => by kernel_rfl) ?_
      exact h _ _ _ _ _ _ _ _ _ _ _ _ _ _ _ _ _
    | true =>
      refine rs_take 6 (s1 := Lw a p q true 3 [J 3, Yes, x16, x17, Yes, Yes, J 3, .ptr 0 0 3, J (a 3), boolA (decide (a 3 ≥ 0)), x24, x25, x26, x27, x28, x29, x30]) (fun cf => by kernel_rfl) ?_
      generalize decide (a 3 ≥ 0) = b1 at h ⊢
      cases b1 with
      | false =>
        refine rs_all (s1 := Lw a p q false 3 [J 3, Yes, x16, x17, Yes, Yes, J 3, .ptr 0 0 3, J (a 3), No, No, No, U, U, U, U, No]) (fun cf => by kernel_rfl) ?_
        refine ev_reg (by kernel_rfl) ?_
        refine rs_all (s1 := Lw a p q false (3 + 1) [J 3, Yes, J 3, J (3 + 1), Yes, Yes, J 3, .ptr 0 0 3, J (a 3), No, No, No, U, U, U, U, No]) (fun cf => by kernel_rfl) ?_
        exact h _ _ _ _ _ _ _ _ _ _ _ _ _ _ _ _ _
      | true =>
        refine rs_all (s1 := Lw a p q (decide (a 3 ≤ 65535)) 3 [J 3, Yes, x16, x17, Yes, Yes, J 3, .ptr 0 0 3, J (a 3), Yes, Yes, Yes, J 3, .ptr 0 0 3, J (a 3), boolA (decide (a 3 ≤ 65535)), boolA (decide (a 3 ≤ 65535))]) (fun cf => by kernel_rfl) ?_
        refine ev_reg (by kernel_rfl) ?_
        refine rs_all (s1 := Lw a p q (decide (a 3 ≤ 65535)) (3 + 1) [J 3, Yes, J 3, J (3 + 1), Yes, Yes, J 3, .ptr 0 0 3, J (a 3), Yes, Yes, Yes, J 3, .ptr 0 0 3, J (a 3), boolA (decide (a 3 ≤ 65535)), boolA (decide (a 3 ≤ 65535))]) (fun cf => by kernel_rfl) ?_
        exact h _ _ _ _ _ _ _ _ _ _ _ _ _ _ _ _ _
  · refine ev_loop ?_
    refine ev_seq ?_
    refine ev_seq ?_
    refine ev_reg (by kernel_rfl) ?_
    refine rs_all (s1 := Lw a p q want 4 [J 4, Yes, x16, x17, x18, x19, x20, x21, x22, x23, x24, x25, x26, x27, x28, x29, x30]) (fun cf => by kernel_rfl) ?_
    refine ev_true (by kernel_rfl) ?_
    refine ev_skip ?_
    refine ev_seq ?_
    refine ev_block ?_
    refine ev_reg (by kernel_rfl) ?_
    cases want with
    | false =>
      refine rs_all (s1 := Lw a p q false 4 [J 4, Yes, x16, x17, No, No, U, U, U, U, No, No, U, U, U, U, No]) (fun cf => by kernel_rfl) ?_
      refine ev_reg (by kernel_rfl) ?_
      refine rs_all (s1 := Lw a p q false (4 + 1) [J 4, Yes, J 4, J (4 + 1), No, No, U, U, U, U, No, No, U, U, U, U, No]) (fun cf => by kernel_rfl) ?_
      exact h _ _ _ _ _ _ _ _ _ _ _ _ _ _ _ _ _
    | true =>
      refine rs_take 6 (s1 := Lw a p q true 4 [J 4, Yes, x16, x17, Yes, Yes, J 4, .ptr 0 0 4, J (a 4), boolA (decide (a 4 ≥ 0)), x24, x25, x26, x27, x28, x29, x30]) (fun cf => by kernel_rfl) ?_
      generalize decide (a 4 ≥ 0) = b1 at h ⊢
      cases b1 with
      | false =>
        refine rs_all (s1 := Lw a p q false 4 [J 4, Yes, x16, x17, Yes, Yes, J 4, .ptr 0 0 4, J (a 4), No, No, No, U, U, U, U, No]) (fun cf => by kernel_rfl) ?_
        refine ev_reg (by kernel_rfl) ?_
        refine rs_all (s1 := Lw a p q false (4 + 1) [J 4, Yes, J 4, J (4 + 1), Yes, Yes, J 4, .ptr 0 0 4, J (a 4), No, No, No, U, U, U, U, No]) (fun cf => by kernel_rfl) ?_
        exact h _ _ _ _ _ _ _ _ _ _ _ _ _ _ _ _ _
      | true =>
        refine rs_all (s1 := Lw a p q (decide (a 4 ≤ 65535)) 4 [J 4, Yes, x16, x17, Yes, Yes, J 4, .ptr 0 0 4, J (a 4), Yes, Yes, Yes, J 4, .ptr 0 0 4, J (a 4), boolA (decide (a 4 ≤ 65535)), boolA (decide (a 4 ≤ 65535))]) (fun cf => by kernel_rfl) ?_
        refine ev_reg (by kernel_rfl) ?_
        refine rs_all (s1 := Lw a p q (decide (a 4 ≤ 65535)) (4 + 1) [J 4, Yes, J 4, J (4 + 1), Yes, Yes, J 4, .ptr 0 0 4, J (a 4), Yes, Yes, Yes, J 4, .ptr 0 0 4, J (a 4), boolA (decide (a 4 ≤ 65535)), boolA (decide (a 4 ≤ 65535))]) (fun cf => by kernel_rfl) ?_
        exact h _ _ _ _ _ _ _ _ _ _ _ _ _ _ _ _ _
  · refine ev_loop ?_
    refine ev_seq ?_
    refine ev_seq ?_
    refine ev_reg (by kernel_rfl) ?_
    refine rs_all (s1 := Lw a p q want 5 [J 5, Yes, x16, x17, x18, x19, x20, x21, x22, x23, x24, x25, x26, x27, x28, x29, x30]) (fun cf => by kernel_rfl) ?_
    refine ev_true (by kernel_rfl) ?_
    refine ev_skip ?_
    refine ev_seq ?_
    refine ev_block ?_
    refine ev_reg (by kernel_rfl) ?_
    cases want with
    | false =>
      refine rs_all (s1 := Lw a p q false 5 [J 5, Yes, x16, x17, No, No, U, U, U, U, No, No, U, U, U, U, No]) (fun cf => by kernel_rfl) ?_
      refine ev_reg (by kernel_rfl) ?_
      refine rs_all (s1 := Lw a p q false (5 + 1) [J 5, Yes, J 5, J (5 + 1), No, No, U, U, U, U, No, No, U, U, U, U, No]) (fun cf => by kernel_rfl) ?_
      exact h _ _ _ _ _ _ _ _ _ _ _ _ _ _ _ _ _
    | true =>
      refine rs_take 6 (s1 := Lw a p q true 5 [J 5, Yes, x16, x17, Yes, Yes, J 5, .ptr 0 0 5, J (a 5), boolA (decide (a 5 ≥ 0)), x24, x25, x26, x27, x28, x29, x30]) (fun cf => by kernel_rfl) ?_
      generalize decide (a 5 ≥ 0) = b1 at h ⊢
      cases b1 with
      | false =>
        refine rs_all (s1 := Lw a p q false 5 [J 5, Yes, x16, x17, Yes, Yes, J 5, .ptr 0 0 5, J (a 5), No, No, No, U, U, U, U, No]) (fun cf => by kernel_rfl) ?_
        refine ev_reg (by kernel_rfl) ?_
        refine rs_all (s1 := Lw a p q false (5 + 1) [J 5, Yes, J 5, J (5 + 1), Yes, Yes, J 5, .ptr 0 0 5, J (a 5), No, No, No, U, U, U, U, No]) (fun cf => by kernel_rfl) ?_
        exact h _ _ _ _ _ _ _ _ _ _ _ _ _ _ _ _ _
      | true =>
        refine rs_all (s1 := Lw a p q (decide (a 5 ≤ 65535)) 5 [J 5, Yes, x16, x17, Yes, Yes, J 5, .ptr 0 0 5, J (a 5), Yes, Yes, Yes, J 5, .ptr 0 0 5, J (a 5), boolA (decide (a 5 ≤ 65535)), boolA (decide (a 5 ≤ 65535))]) (fun cf => by kernel_rfl) ?_
        refine ev_reg (by kernel_rfl) ?_
        refine rs_all (s1 := Lw a p q (decide (a 5 ≤ 65535)) (5 + 1) [J 5, Yes, J 5, J (5 + 1), Yes, Yes, J 5, .ptr 0 0 5, J (a 5), Yes, Yes, Yes, J 5, .ptr 0 0 5, J (a 5), boolA (decide (a 5 ≤ 65535)), boolA (decide (a 5 ≤ 65535))]) (fun cf => by kernel_rfl) ?_
        exact h _ _ _ _ _ _ _ _ _ _ _ _ _ _ _ _ _
  · refine ev_loop ?_
    refine ev_seq ?_
    refine ev_seq ?_
    refine ev_reg (by kernel_rfl) ?_
    refine rs_all (s1 := Lw a p q want 6 [J 6, Yes, x16, x17, x18, x19, x20, x21, x22, x23, x24, x25, x26, x27, x28, x29, x30]) (fun cf => by kernel_rfl) ?_
    refine ev_true (by kernel_rfl) ?_
    refine ev_skip ?_
    refine ev_seq ?_
    refine ev_block ?_
    refine ev_reg (by kernel_rfl) ?_
    cases want with
    | false =>
      refine rs_all (s1 := Lw a p q false 6 [J 6, Yes, x16, x17, No, No, U, U, U, U, No, No, U, U, U, U, No]) (fun cf => by kernel_rfl) ?_
      refine ev_reg (by kernel_rfl) ?_
      refine rs_all (s1 := Lw a p q false (6 + 1) [J 6, Yes, J 6, J (6 + 1), No, No, U, U, U, U, No, No, U, U, U, U, No]) (fun cf => by kernel_rfl) ?_
      exact h _ _ _ _ _ _ _ _ _ _ _ _ _ _ _ _ _
    | true =>
      refine rs_take 6 (s1 := Lw a p q true 6 [J 6, Yes, x16, x17, Yes, Yes, J 6, .ptr 0 0 6, J (a 6), boolA (decide (a 6 ≥ 0)), x24, x25, x26, x27, x28, x29, x30]) (fun cf => by kernel_rfl) ?_
      generalize decide (a 6 ≥ 0) = b1 at h ⊢
      cases b1 with
      | false =>
        refine rs_all (s1 := Lw a p q false 6 [J 6, Yes, x16, x17, Yes, Yes, J 6, .ptr 0 0 6, J (a 6), No, No, No, U, U, U, U, No]) (fun cf => by kernel_rfl) ?_
        refine ev_reg (by kernel_rfl) ?_
        refine rs_all (s1 := Lw a p q false (6 + 1) [J 6, Yes, J 6, J (6 + 1), Yes, Yes, J 6, .ptr 0 0 6, J (a 6), No, No, No, U, U, U, U, No]) (fun cf => by kernel_rfl) ?_
        exact h _ _ _ _ _ _ _ _ _ _ _ _ _ _ _ _ _
      | true =>
        refine rs_all (s1 := Lw a p q (decide (a 6 ≤ 65535)) 6 [J 6, Yes, x16, x17, Yes, Yes, J 6, .ptr 0 0 6, J (a 6), Yes, Yes, Yes, J 6, .ptr 0 0 6, J (a 6), boolA (decide (a 6 ≤ 65535)), boolA (decide (a 6 ≤ 65535))]) (fun cf => by kernel_rfl) ?_
        refine ev_reg (by kernel_rfl) ?_
        refine rs_all (s1 := Lw a p q (decide (a 6 ≤ 65535)) (6 + 1) [J 6, Yes, J 6, J (6 + 1), Yes, Yes, J 6, .ptr 0 0 6, J (a 6), Yes, Yes, Yes, J 6, .ptr 0 0 6, J (a 6), boolA (decide (a 6 ≤ 65535)), boolA (decide (a 6 ≤ 65535))]) (fun cf => by kernel_rfl) ?_
        exact h _ _ _ _ _ _ _ _ _ _ _ _ _ _ _ _ _
  · refine ev_loop ?_
    refine ev_seq ?_
    refine ev_seq ?_
    refine ev_reg (by kernel_rfl) ?_
    refine rs_all (s1 := Lw a p q want 7 [J 7, Yes, x16, x17, x18, x19, x20, x21, x22, x23, x24, x25, x26, x27, x28, x29, x30]) (fun cf => by kernel_rfl) ?_
    refine ev_true (by kernel_rfl) ?_
    refine ev_skip ?_
    refine ev_seq ?_
    refine ev_block ?_
    refine ev_reg (by kernel_rfl) ?_
    cases want with
    | false =>
      refine rs_all (s1 := Lw a p q false 7 [J 7, Yes, x16, x17, No, No, U, U, U, U, No, No, U, U, U, U, No]) (fun cf => by kernel_rfl) ?_
      refine ev_reg (by kernel_rfl) ?_
      refine rs_all (s1 := Lw a p q false (7 + 1) [J 7, Yes, J 7, J (7 + 1), No, No, U, U, U, U, No, No, U, U, U, U, No]) (fun cf => by kernel_rfl) ?_
      exact h _ _ _ _ _ _ _ _ _ _ _ _ _ _ _ _ _
    | true =>
      refine rs_take 6 (s1 := Lw a p q true 7 [J 7, Yes, x16, x17, Yes, Yes, J 7, .ptr 0 0 7, J (a 7), boolA (decide (a 7 ≥ 0)), x24, x25, x26, x27, x28, x29, x30]) (fun cf => by kernel_rfl) ?_
      generalize decide (a 7 ≥ 0) = b1 at h ⊢
      cases b1 with
      | false =>
        refine rs_all (s1 := Lw a p q false 7 [J 7, Yes, x16, x17, Yes, Yes, J 7, .ptr 0 0 7, J (a 7), No, No, No, U, U, U, U, No]) (fun cf => by kernel_rfl) ?_
        refine ev_reg (by kernel_rfl) ?_
        refine rs_all (s1 := Lw a p q false (7 + 1) [J 7, Yes, J 7, J (7 + 1), Yes, Yes, J 7, .ptr 0 0 7, J (a 7), No, No, No, U, U, U, U, No]) (fun cf => by kernel_rfl) ?_
        exact h _ _ _ _ _ _ _ _ _ _ _ _ _ _ _ _ _
      | true =>
        refine rs_all (s1 := Lw a p q (decide (a 7 ≤ 65535)) 7 [J 7, Yes, x16, x17, Yes, Yes, J 7, .ptr 0 0 7, J (a 7), Yes, Yes, Yes, J 7, .ptr 0 0 7, J (a 7), boolA (decide (a 7 ≤ 65535)), boolA (decide (a 7 ≤ 65535))]) (fun cf => by kernel_rfl) ?_
        refine ev_reg (by kernel_rfl) ?_
        refine rs_all (s1 := Lw a p q (decide (a 7 ≤ 65535)) (7 + 1) [J 7, Yes, J 7, J (7 + 1), Yes, Yes, J 7, .ptr 0 0 7, J (a 7), Yes, Yes, Yes, J 7, .ptr 0 0 7, J (a 7), boolA (decide (a 7 ≤ 65535)), boolA (decide (a 7 ≤ 65535))]) (fun cf => by kernel_rfl) ?_
        exact h _ _ _ _ _ _ _ _ _ _ _ _ _ _ _ _ _

theorem lim_end {a : Nat → Int} {p q : Int} {want : Bool} {K : Out → St → Prop} (x14 x15 x16 x17 x18 x19 x20 x21 x22 x23 x24 x25 x26 x27 x28 x29 x30 : AV) (h : ∀ x14 x15 x16 x17 x18 x19 x20 x21 x22 x23 x24 x25 x26 x27 x28 x29 x30, K (.exit 0) (Lw a p q want 8 [x14, x15, x16, x17, x18, x19, x20, x21, x22, x23, x24, x25, x26, x27, x28, x29, x30])) :
    EvK Try.cx 4 (.loop limB) (Lw a p q want 8 [x14, x15, x16, x17, x18, x19, x20, x21, x22, x23, x24, x25, x26, x27, x28, x29, x30]) K := by
  refine ev_loop ?_
  refine ev_seq ?_
  refine ev_seq ?_
  refine ev_reg (by kernel_rfl) ?_
  refine rs_all (s1 := Lw a p q want 8 [J 8, No, x16, x17, x18, x19, x20, x21, x22, x23, x24, x25, x26, x27, x28, x29, x30]) (fun cf => by kernel_rfl) ?_
  refine ev_false (by kernel_rfl) ?_
  refine ev_exit ?_
  exact h _ _ _ _ _ _ _ _ _ _ _ _ _ _ _ _ _

theorem lim_loop {a : Nat → Int} {p q : Int} {K : Out → St → Prop} (x14 x15 x16 x17 x18 x19 x20 x21 x22 x23 x24 x25 x26 x27 x28 x29 x30 : AV) (h : ∀ x14 x15 x16 x17 x18 x19 x20 x21 x22 x23 x24 x25 x26 x27 x28 x29 x30, K (.exit 0) (Lw a p q (validB a) 8 [x14, x15, x16, x17, x18, x19, x20, x21, x22, x23, x24, x25, x26, x27, x28, x29, x30])) :
    EvK Try.cx 4 (.loop limB) (Lw a p q true 0 [x14, x15, x16, x17, x18, x19, x20, x21, x22, x23, x24, x25, x26, x27, x28, x29, x30]) K := by
  have e : ((((((((true && decide (a 0 ≥ 0) && decide (a 0 ≤ 65535)) && decide (a 1 ≥ 0) && decide (a 1 ≤ 65535)) && decide (a 2 ≥ 0) && decide (a 2 ≤ 65535)) && decide (a 3 ≥ 0) && decide (a 3 ≤ 65535)) && decide (a 4 ≥ 0) && decide (a 4 ≤ 65535)) && decide (a 5 ≥ 0) && decide (a 5 ≤ 65535)) && decide (a 6 ≥ 0) && decide (a 6 ≤ 65535)) && decide (a 7 ≥ 0) && decide (a 7 ≤ 65535)) = validB a := by
    rw [Bool.eq_iff_iff]
    simp only [validB, Bool.true_and, Bool.and_eq_true, decide_eq_true_eq]
    omega
  refine lim_round (by decide) x14 x15 x16 x17 x18 x19 x20 x21 x22 x23 x24 x25 x26 x27 x28 x29 x30 fun x14 x15 x16 x17 x18 x19 x20 x21 x22 x23 x24 x25 x26 x27 x28 x29 x30 => ?_
  refine lim_round (by decide) x14 x15 x16 x17 x18 x19 x20 x21 x22 x23 x24 x25 x26 x27 x28 x29 x30 fun x14 x15 x16 x17 x18 x19 x20 x21 x22 x23 x24 x25 x26 x27 x28 x29 x30 => ?_
  refine lim_round (by decide) x14 x15 x16 x17 x18 x19 x20 x21 x22 x23 x24 x25 x26 x27 x28 x29 x30 fun x14 x15 x16 x17 x18 x19 x20 x21 x22 x23 x24 x25 x26 x27 x28 x29 x30 => ?_
  refine lim_round (by decide) x14 x15 x16 x17 x18 x19 x20 x21 x22 x23 x24 x25 x26 x27 x28 x29 x30 fun x14 x15 x16 x17 x18 x19 x20 x21 x22 x23 x24 x25 x26 x27 x28 x29 x30 => ?_
  refine lim_round (by decide) x14 x15 x16 x17 x18 x19 x20 x21 x22 x23 x24 x25 x26 x27 x28 x29 x30 fun x14 x15 x16 x17 x18 x19 x20 x21 x22 x23 x24 x25 x26 x27 x28 x29 x30 => ?_
  refine lim_round (by decide) x14 x15 x16 x17 x18 x19 x20 x21 x22 x23 x24 x25 x26 x27 x28 x29 x30 fun x14 x15 x16 x17 x18 x19 x20 x21 x22 x23 x24 x25 x26 x27 x28 x29 x30 => ?_
  refine lim_round (by decide) x14 x15 x16 x17 x18 x19 x20 x21 x22 x23 x24 x25 x26 x27 x28 x29 x30 fun x14 x15 x16 x17 x18 x19 x20 x21 x22 x23 x24 x25 x26 x27 x28 x29 x30 => ?_
  refine lim_round (by decide) x14 x15 x16 x17 x18 x19 x20 x21 x22 x23 x24 x25 x26 x27 x28 x29 x30 fun x14 x15 x16 x17 x18 x19 x20 x21 x22 x23 x24 x25 x26 x27 x28 x29 x30 => ?_
  rw [e]
  exact lim_end x14 x15 x16 x17 x18 x19 x20 x21 x22 x23 x24 x25 x26 x27 x28 x29 x30 h

noncomputable def limR : Code := match Try.f4.body with
  | some (.seq _ (.seq _ (.seq _ (.seq _ (.seq _ r))))) => r
  | _ => .skip
noncomputable def limT : Code := match limR with
  | .seq _ r => r
  | _ => .skip

def fitsB (p q : Int) : Bool := decide (p ≥ 0) && decide (p ≤ 8) && decide (q ≥ 0) && decide (q ≤ 12)
abbrev Lg (a : Nat → Int) (p q : Int) (v : Bool) (f : AV) (l : List AV) : St := ⟨[Ag a, .ag [J p, J q], .ptr 0 0 0, .ptr 1 1 0, No, Yes, boolA v, J 8, f, U, U, Yes, Yes, No] ++ l ++ us 46, Lm a p q⟩

theorem lim_nine {a : Nat → Int} {p q : Int} {v : Bool} {K : Out → St → Prop} (x14 x15 x16 x17 x18 x19 x20 x21 x22 x23 x24 x25 x26 x27 x28 x29 x30 : AV) (h : ∀ y31 y32 y33 y34 y35 y36 y37 y38 y39 y40 y41 y42 y43 y44 y45 y46 y47 y48 : AV, EvK Try.cx 4 limT (Lg a p q v (boolA (fitsB p q)) [x14, x15, x16, x17, x18, x19, x20, x21, x22, x23, x24, x25, x26, x27, x28, x29, x30, y31, y32, y33, y34, y35, y36, y37, y38, y39, y40, y41, y42, y43, y44, y45, y46, y47, y48]) K) :
    EvK Try.cx 4 limR (Lw a p q v 8 [x14, x15, x16, x17, x18, x19, x20, x21, x22, x23, x24, x25, x26, x27, x28, x29, x30]) K := by
  refine ev_seq ?_
  refine ev_reg (by kernel_rfl) ?_
  unfold fitsB at h
  refine rs_take 4 (s1 := Lg a p q v U [x14, x15, x16, x17, x18, x19, x20, x21, x22, x23, x24, x25, x26, x27, x28, x29, x30, .ptr 1 1 0, J p, boolA (decide (p ≥ 0)), boolA (decide (p ≥ 0)), U, U, U, U, U, U, U, U, U, U, U, U, U, U]) (fun cf => by kernel_rfl) ?_
  generalize decide (p ≥ 0) = b0 at h ⊢
  cases b0 with
  | false =>
    refine rs_all (s1 := Lg a p q v No [x14, x15, x16, x17, x18, x19, x20, x21, x22, x23, x24, x25, x26, x27, x28, x29, x30, .ptr 1 1 0, J p, No, No, U, U, U, No, No, U, U, U, No, No, U, U, U, No]) (fun cf => by kernel_rfl) ?_
    exact h _ _ _ _ _ _ _ _ _ _ _ _ _ _ _ _ _ _
  | true =>
    refine rs_take 5 (s1 := Lg a p q v U [x14, x15, x16, x17, x18, x19, x20, x21, x22, x23, x24, x25, x26, x27, x28, x29, x30, .ptr 1 1 0, J p, Yes, Yes, .ptr 1 1 0, J p, boolA (decide (p ≤ 8)), boolA (decide (p ≤ 8)), boolA (decide (p ≤ 8)), U, U, U, U, U, U, U, U, U]) (fun cf => by kernel_rfl) ?_
    generalize decide (p ≤ 8) = b1 at h ⊢
    cases b1 with
    | false =>
      refine rs_all (s1 := Lg a p q v No [x14, x15, x16, x17, x18, x19, x20, x21, x22, x23, x24, x25, x26, x27, x28, x29, x30, .ptr 1 1 0, J p, Yes, Yes, .ptr 1 1 0, J p, No, No, No, U, U, U, No, No, U, U, U, No]) (fun cf => by kernel_rfl) ?_
      exact h _ _ _ _ _ _ _ _ _ _ _ _ _ _ _ _ _ _
    | true =>
      refine rs_take 5 (s1 := Lg a p q v U [x14, x15, x16, x17, x18, x19, x20, x21, x22, x23, x24, x25, x26, x27, x28, x29, x30, .ptr 1 1 0, J p, Yes, Yes, .ptr 1 1 0, J p, Yes, Yes, Yes, .ptr 1 1 1, J q, boolA (decide (q ≥ 0)), boolA (decide (q ≥ 0)), boolA (decide (q ≥ 0)), U, U, U, U]) (fun cf => by kernel_rfl) ?_
      generalize decide (q ≥ 0) = b2 at h ⊢
      cases b2 with
      | false =>
        refine rs_all (s1 := Lg a p q v No [x14, x15, x16, x17, x18, x19, x20, x21, x22, x23, x24, x25, x26, x27, x28, x29, x30, .ptr 1 1 0, J p, Yes, Yes, .ptr 1 1 0, J p, Yes, Yes, Yes, .ptr 1 1 1, J q, No, No, No, U, U, U, No]) (fun cf => by kernel_rfl) ?_
        exact h _ _ _ _ _ _ _ _ _ _ _ _ _ _ _ _ _ _
      | true =>
        refine rs_all (s1 := Lg a p q v (boolA (decide (q ≤ 12))) [x14, x15, x16, x17, x18, x19, x20, x21, x22, x23, x24, x25, x26, x27, x28, x29, x30, .ptr 1 1 0, J p, Yes, Yes, .ptr 1 1 0, J p, Yes, Yes, Yes, .ptr 1 1 1, J q, Yes, Yes, Yes, .ptr 1 1 1, J q, boolA (decide (q ≤ 12)), boolA (decide (q ≤ 12))]) (fun cf => by kernel_rfl) ?_
        exact h _ _ _ _ _ _ _ _ _ _ _ _ _ _ _ _ _ _

theorem lim_no {a : Nat → Int} {p q : Int} (h : p < 0 ∨ p > 8 ∨ q < 0 ∨ q > 12) {v : Bool} (hv : validB a = v) (x14 x15 x16 x17 x18 x19 x20 x21 x22 x23 x24 x25 x26 x27 x28 x29 x30 y31 y32 y33 y34 y35 y36 y37 y38 y39 y40 y41 y42 y43 y44 y45 y46 y47 y48 : AV) : EvK Try.cx 4 limT (Lg a p q v No [x14, x15, x16, x17, x18, x19, x20, x21, x22, x23, x24, x25, x26, x27, x28, x29, x30, y31, y32, y33, y34, y35, y36, y37, y38, y39, y40, y41, y42, y43, y44, y45, y46, y47, y48]) fun o s => (o = .normal ∨ o = .ret) ∧ ∃ r0, resA Try.cx Try.f4 s = some r0 ∧ snapR s.m r0 = some Yes := by
  have gv := g_valid a
  rw [hv] at gv
  have ev : (!(v == v)) = false := by simp
  refine ev_seq ?_
  refine ev_seq ?_
  refine ev_reg (by kernel_rfl) ?_
  refine rs_take 1 (s1 := (⟨[Ag a, .ag [J p, J q], .ptr 0 0 0, .ptr 1 1 0, No, Yes, boolA v, J 8, No, U, U, Yes, Yes, No, x14, x15, x16, x17, x18, x19, x20, x21, x22, x23, x24, x25, x26, x27, x28, x29, x30, y31, y32, y33, y34, y35, y36, y37, y38, y39, y40, y41, y42, y43, y44, y45, y46, y47, y48, Ag a] ++ us 45, Lm a p q⟩ : St)) (fun cf => by kernel_rfl) ?_
  refine rs_pure (g := 29) (bs := [Ag a]) (ow := false) (r := boolA v) (s1 := (⟨[Ag a, .ag [J p, J q], .ptr 0 0 0, .ptr 1 1 0, No, Yes, boolA v, J 8, No, U, U, Yes, Yes, No, x14, x15, x16, x17, x18, x19, x20, x21, x22, x23, x24, x25, x26, x27, x28, x29, x30, y31, y32, y33, y34, y35, y36, y37, y38, y39, y40, y41, y42, y43, y44, y45, y46, y47, y48, Ag a, boolA v] ++ us 44, Lm a p q⟩ : St)) (by kernel_rfl) gv (by kernel_rfl) (by kernel_rfl) ?_
  refine rs_take 2 (s1 := (⟨[Ag a, .ag [J p, J q], .ptr 0 0 0, .ptr 1 1 0, No, Yes, boolA v, J 8, No, U, U, Yes, Yes, No, x14, x15, x16, x17, x18, x19, x20, x21, x22, x23, x24, x25, x26, x27, x28, x29, x30, y31, y32, y33, y34, y35, y36, y37, y38, y39, y40, y41, y42, y43, y44, y45, y46, y47, y48, Ag a, boolA v, boolA v, boolA (!(v == v))] ++ us 42, Lm a p q⟩ : St)) (fun cf => by kernel_rfl) ?_
  rw [ev]
  refine rs_all (s1 := (⟨[Ag a, .ag [J p, J q], .ptr 0 0 0, .ptr 1 1 0, No, Yes, boolA v, J 8, No, U, U, Yes, Yes, No, x14, x15, x16, x17, x18, x19, x20, x21, x22, x23, x24, x25, x26, x27, x28, x29, x30, y31, y32, y33, y34, y35, y36, y37, y38, y39, y40, y41, y42, y43, y44, y45, y46, y47, y48, Ag a, boolA v, boolA v, No, No, No, No, U, U, U, U, U, U, No, No] ++ us 31, Lm a p q⟩ : St)) (fun cf => by kernel_rfl) ?_
  refine ev_false (by kernel_rfl) ?_
  refine ev_skip ?_
  refine ev_seq ?_
  refine ev_reg (by kernel_rfl) ?_
  refine rs_take 4 (s1 := (⟨[Ag a, .ag [J p, J q], .ptr 0 0 0, .ptr 1 1 0, No, Yes, boolA v, J 8, No, U, U, Yes, Yes, No, x14, x15, x16, x17, x18, x19, x20, x21, x22, x23, x24, x25, x26, x27, x28, x29, x30, y31, y32, y33, y34, y35, y36, y37, y38, y39, y40, y41, y42, y43, y44, y45, y46, y47, y48, Ag a, boolA v, boolA v, No, No, No, No, U, U, U, U, U, U, No, No, U, U, U, U, U, U, U, U, .ptr 1 1 0, J p, .ptr 1 1 1, J q] ++ us 19, Lm a p q⟩ : St)) (fun cf => by kernel_rfl) ?_
  refine rs_pure (g := 30) (bs := [J p, J q]) (ow := false) (r := .tu [.d (.v (.slice none 0 0)), J 1]) (s1 := (⟨[Ag a, .ag [J p, J q], .ptr 0 0 0, .ptr 1 1 0, No, Yes, boolA v, J 8, No, U, U, Yes, Yes, No, x14, x15, x16, x17, x18, x19, x20, x21, x22, x23, x24, x25, x26, x27, x28, x29, x30, y31, y32, y33, y34, y35, y36, y37, y38, y39, y40, y41, y42, y43, y44, y45, y46, y47, y48, Ag a, boolA v, boolA v, No, No, No, No, U, U, U, U, U, U, No, No, U, U, U, U, U, U, U, U, .ptr 1 1 0, J p, .ptr 1 1 1, J q, .tu [.d (.v (.slice none 0 0)), J 1]] ++ us 18, Lm a p q⟩ : St)) (by kernel_rfl) (g_all_no h) (by kernel_rfl) (by kernel_rfl) ?_
  refine rs_all (s1 := (⟨[Ag a, .ag [J p, J q], .ptr 0 0 0, .ptr 1 1 0, No, Yes, boolA v, J 8, No, .d (.v (.slice none 0 0)), J 1, Yes, Yes, No, x14, x15, x16, x17, x18, x19, x20, x21, x22, x23, x24, x25, x26, x27, x28, x29, x30, y31, y32, y33, y34, y35, y36, y37, y38, y39, y40, y41, y42, y43, y44, y45, y46, y47, y48, Ag a, boolA v, boolA v, No, No, No, No, U, U, U, U, U, U, No, No, U, U, U, U, U, U, U, .tu [.d (.v (.slice none 0 0)), J 1], .ptr 1 1 0, J p, .ptr 1 1 1, J q, .tu [.d (.v (.slice none 0 0)), J 1], .d (.v (.slice none 0 0)), J 1] ++ us 16, Lm a p q⟩ : St)) (fun cf => by kernel_rfl) ?_
  refine ev_seq ?_
  refine ev_seq ?_
  refine ev_reg (by kernel_rfl) ?_
  refine rs_all (s1 := (⟨[Ag a, .ag [J p, J q], .ptr 0 0 0, .ptr 1 1 0, No, Yes, boolA v, J 8, No, .d (.v (.slice none 0 0)), J 1, Yes, Yes, No, x14, x15, x16, x17, x18, x19, x20, x21, x22, x23, x24, x25, x26, x27, x28, x29, x30, y31, y32, y33, y34, y35, y36, y37, y38, y39, y40, y41, y42, y43, y44, y45, y46, y47, y48, Ag a, boolA v, boolA v, No, No, No, No, U, U, U, U, U, U, No, No, U, U, U, U, U, U, U, .tu [.d (.v (.slice none 0 0)), J 1], .ptr 1 1 0, J p, .ptr 1 1 1, J q, .tu [.d (.v (.slice none 0 0)), J 1], .d (.v (.slice none 0 0)), J 1, No] ++ us 15, Lm a p q⟩ : St)) (fun cf => by kernel_rfl) ?_
  refine ev_false (by kernel_rfl) ?_
  refine ev_skip ?_
  refine ev_seq ?_
  refine ev_reg (by kernel_rfl) ?_
  refine rs_all (s1 := (⟨[Ag a, .ag [J p, J q], .ptr 0 0 0, .ptr 1 1 0, Yes, Yes, boolA v, J 8, No, .d (.v (.slice none 0 0)), J 1, Yes, Yes, No, x14, x15, x16, x17, x18, x19, x20, x21, x22, x23, x24, x25, x26, x27, x28, x29, x30, y31, y32, y33, y34, y35, y36, y37, y38, y39, y40, y41, y42, y43, y44, y45, y46, y47, y48, Ag a, boolA v, boolA v, No, No, No, No, U, U, U, U, U, U, No, No, U, U, U, U, U, U, U, .tu [.d (.v (.slice none 0 0)), J 1], .ptr 1 1 0, J p, .ptr 1 1 1, J q, .tu [.d (.v (.slice none 0 0)), J 1], .d (.v (.slice none 0 0)), J 1, No, U, U, U, U, U, Yes, Yes, J 1, Yes, Yes, Yes, .d (.v (.slice none 0 0)), J 0, Yes, Yes] ++ us 0, Lm a p q⟩ : St)) (fun cf => by kernel_rfl) ?_
  refine ev_ret ?_
  exact leaf (r0 := Yes) (.inr rfl) (by kernel_rfl) (by kernel_rfl) rfl

theorem lim_yes {a : Nat → Int} {p q : Int} (h : 0 ≤ p ∧ p ≤ 8 ∧ 0 ≤ q ∧ q ≤ 12) {v : Bool} (hv : validB a = v) (x14 x15 x16 x17 x18 x19 x20 x21 x22 x23 x24 x25 x26 x27 x28 x29 x30 y31 y32 y33 y34 y35 y36 y37 y38 y39 y40 y41 y42 y43 y44 y45 y46 y47 y48 : AV) : EvK Try.cx 4 limT (Lg a p q v Yes [x14, x15, x16, x17, x18, x19, x20, x21, x22, x23, x24, x25, x26, x27, x28, x29, x30, y31, y32, y33, y34, y35, y36, y37, y38, y39, y40, y41, y42, y43, y44, y45, y46, y47, y48]) fun o s => (o = .normal ∨ o = .ret) ∧ ∃ r0, resA Try.cx Try.f4 s = some r0 ∧ snapR s.m r0 = some Yes := by
  have gv := g_valid a
  rw [hv] at gv
  obtain ⟨L, c, ga⟩ : ∃ L c, Gets Try.cx 30 [J p, J q] (.tu [.d (.sl false L c), J 0]) := by
    have g := g_all_ok (n := p.toNat) (d := q.toNat) (by omega) (by omega)
    rw [Int.toNat_of_nonneg h.1, Int.toNat_of_nonneg h.2.2.1] at g
    exact ⟨_, _, g⟩
  have ev : (!(v == v)) = false := by simp
  refine ev_seq ?_
  refine ev_seq ?_
  refine ev_reg (by kernel_rfl) ?_
  refine rs_take 1 (s1 := (⟨[Ag a, .ag [J p, J q], .ptr 0 0 0, .ptr 1 1 0, No, Yes, boolA v, J 8, Yes, U, U, Yes, Yes, No, x14, x15, x16, x17, x18, x19, x20, x21, x22, x23, x24, x25, x26, x27, x28, x29, x30, y31, y32, y33, y34, y35, y36, y37, y38, y39, y40, y41, y42, y43, y44, y45, y46, y47, y48, Ag a] ++ us 45, Lm a p q⟩ : St)) (fun cf => by kernel_rfl) ?_
  refine rs_pure (g := 29) (bs := [Ag a]) (ow := false) (r := boolA v) (s1 := (⟨[Ag a, .ag [J p, J q], .ptr 0 0 0, .ptr 1 1 0, No, Yes, boolA v, J 8, Yes, U, U, Yes, Yes, No, x14, x15, x16, x17, x18, x19, x20, x21, x22, x23, x24, x25, x26, x27, x28, x29, x30, y31, y32, y33, y34, y35, y36, y37, y38, y39, y40, y41, y42, y43, y44, y45, y46, y47, y48, Ag a, boolA v] ++ us 44, Lm a p q⟩ : St)) (by kernel_rfl) gv (by kernel_rfl) (by kernel_rfl) ?_
  refine rs_take 2 (s1 := (⟨[Ag a, .ag [J p, J q], .ptr 0 0 0, .ptr 1 1 0, No, Yes, boolA v, J 8, Yes, U, U, Yes, Yes, No, x14, x15, x16, x17, x18, x19, x20, x21, x22, x23, x24, x25, x26, x27, x28, x29, x30, y31, y32, y33, y34, y35, y36, y37, y38, y39, y40, y41, y42, y43, y44, y45, y46, y47, y48, Ag a, boolA v, boolA v, boolA (!(v == v))] ++ us 42, Lm a p q⟩ : St)) (fun cf => by kernel_rfl) ?_
  rw [ev]
  refine rs_all (s1 := (⟨[Ag a, .ag [J p, J q], .ptr 0 0 0, .ptr 1 1 0, No, Yes, boolA v, J 8, Yes, U, U, Yes, Yes, No, x14, x15, x16, x17, x18, x19, x20, x21, x22, x23, x24, x25, x26, x27, x28, x29, x30, y31, y32, y33, y34, y35, y36, y37, y38, y39, y40, y41, y42, y43, y44, y45, y46, y47, y48, Ag a, boolA v, boolA v, No, No, Yes, Yes, .ptr 1 1 0, J p, .ptr 1 1 1, J q, J (IntKind.wrap .i64 (p + q)), boolA (decide (IntKind.wrap .i64 (p + q) > 14)), boolA (decide (IntKind.wrap .i64 (p + q) > 14)), boolA (decide (IntKind.wrap .i64 (p + q) > 14))] ++ us 31, Lm a p q⟩ : St)) (fun cf => by kernel_rfl) ?_
  cases hb : decide (IntKind.wrap .i64 (p + q) > 14) with
  | true =>
    refine ev_true (by kernel_rfl) ?_
    refine ev_seq ?_
    refine ev_reg (by kernel_rfl) ?_
    refine rs_take 1 (s1 := (⟨[Ag a, .ag [J p, J q], .ptr 0 0 0, .ptr 1 1 0, No, Yes, boolA v, J 8, Yes, U, U, Yes, Yes, No, x14, x15, x16, x17, x18, x19, x20, x21, x22, x23, x24, x25, x26, x27, x28, x29, x30, y31, y32, y33, y34, y35, y36, y37, y38, y39, y40, y41, y42, y43, y44, y45, y46, y47, y48, Ag a, boolA v, boolA v, No, No, Yes, Yes, .ptr 1 1 0, J p, .ptr 1 1 1, J q, J (IntKind.wrap .i64 (p + q)), Yes, Yes, Yes, Ag a] ++ us 30, Lm a p q⟩ : St)) (fun cf => by kernel_rfl) ?_
    refine rs_pure (g := 29) (bs := [Ag a]) (ow := false) (r := boolA v) (s1 := (⟨[Ag a, .ag [J p, J q], .ptr 0 0 0, .ptr 1 1 0, No, Yes, boolA v, J 8, Yes, U, U, Yes, Yes, No, x14, x15, x16, x17, x18, x19, x20, x21, x22, x23, x24, x25, x26, x27, x28, x29, x30, y31, y32, y33, y34, y35, y36, y37, y38, y39, y40, y41, y42, y43, y44, y45, y46, y47, y48, Ag a, boolA v, boolA v, No, No, Yes, Yes, .ptr 1 1 0, J p, .ptr 1 1 1, J q, J (IntKind.wrap .i64 (p + q)), Yes, Yes, Yes, Ag a, boolA v] ++ us 29, Lm a p q⟩ : St)) (by kernel_rfl) gv (by kernel_rfl) (by kernel_rfl) ?_
    refine rs_take 2 (s1 := (⟨[Ag a, .ag [J p, J q], .ptr 0 0 0, .ptr 1 1 0, No, Yes, boolA v, J 8, Yes, U, U, Yes, Yes, No, x14, x15, x16, x17, x18, x19, x20, x21, x22, x23, x24, x25, x26, x27, x28, x29, x30, y31, y32, y33, y34, y35, y36, y37, y38, y39, y40, y41, y42, y43, y44, y45, y46, y47, y48, Ag a, boolA v, boolA v, No, No, Yes, Yes, .ptr 1 1 0, J p, .ptr 1 1 1, J q, J (IntKind.wrap .i64 (p + q)), Yes, Yes, Yes, Ag a, boolA v, boolA v, boolA (v == v)] ++ us 27, Lm a p q⟩ : St)) (fun cf => by kernel_rfl) ?_
    have ew : (v == v) = true := by simp
    rw [ew]
    refine rs_all (s1 := (⟨[Ag a, .ag [J p, J q], .ptr 0 0 0, .ptr 1 1 0, Yes, Yes, boolA v, J 8, Yes, U, U, Yes, Yes, No, x14, x15, x16, x17, x18, x19, x20, x21, x22, x23, x24, x25, x26, x27, x28, x29, x30, y31, y32, y33, y34, y35, y36, y37, y38, y39, y40, y41, y42, y43, y44, y45, y46, y47, y48, Ag a, boolA v, boolA v, No, No, Yes, Yes, .ptr 1 1 0, J p, .ptr 1 1 1, J q, J (IntKind.wrap .i64 (p + q)), Yes, Yes, Yes, Ag a, boolA v, boolA v, Yes, Yes, Yes, Yes] ++ us 24, Lm a p q⟩ : St)) (fun cf => by kernel_rfl) ?_
    refine ev_ret ?_
    exact leaf (r0 := Yes) (.inr rfl) (by kernel_rfl) (by kernel_rfl) rfl
  | false =>
    refine ev_false (by kernel_rfl) ?_
    refine ev_skip ?_
    refine ev_seq ?_
    refine ev_reg (by kernel_rfl) ?_
    refine rs_take 4 (s1 := (⟨[Ag a, .ag [J p, J q], .ptr 0 0 0, .ptr 1 1 0, No, Yes, boolA v, J 8, Yes, U, U, Yes, Yes, No, x14, x15, x16, x17, x18, x19, x20, x21, x22, x23, x24, x25, x26, x27, x28, x29, x30, y31, y32, y33, y34, y35, y36, y37, y38, y39, y40, y41, y42, y43, y44, y45, y46, y47, y48, Ag a, boolA v, boolA v, No, No, Yes, Yes, .ptr 1 1 0, J p, .ptr 1 1 1, J q, J (IntKind.wrap .i64 (p + q)), No, No, No, U, U, U, U, U, U, U, U, .ptr 1 1 0, J p, .ptr 1 1 1, J q] ++ us 19, Lm a p q⟩ : St)) (fun cf => by kernel_rfl) ?_
    refine rs_pure (g := 30) (bs := [J p, J q]) (ow := false) (r := .tu [.d (.sl false L c), J 0]) (s1 := (⟨[Ag a, .ag [J p, J q], .ptr 0 0 0, .ptr 1 1 0, No, Yes, boolA v, J 8, Yes, U, U, Yes, Yes, No, x14, x15, x16, x17, x18, x19, x20, x21, x22, x23, x24, x25, x26, x27, x28, x29, x30, y31, y32, y33, y34, y35, y36, y37, y38, y39, y40, y41, y42, y43, y44, y45, y46, y47, y48, Ag a, boolA v, boolA v, No, No, Yes, Yes, .ptr 1 1 0, J p, .ptr 1 1 1, J q, J (IntKind.wrap .i64 (p + q)), No, No, No, U, U, U, U, U, U, U, U, .ptr 1 1 0, J p, .ptr 1 1 1, J q, .tu [.d (.sl false L c), J 0]] ++ us 18, Lm a p q⟩ : St)) (by kernel_rfl) ga (by kernel_rfl) (by kernel_rfl) ?_
    refine rs_all (s1 := (⟨[Ag a, .ag [J p, J q], .ptr 0 0 0, .ptr 1 1 0, No, Yes, boolA v, J 8, Yes, .d (.sl false L c), J 0, Yes, Yes, No, x14, x15, x16, x17, x18, x19, x20, x21, x22, x23, x24, x25, x26, x27, x28, x29, x30, y31, y32, y33, y34, y35, y36, y37, y38, y39, y40, y41, y42, y43, y44, y45, y46, y47, y48, Ag a, boolA v, boolA v, No, No, Yes, Yes, .ptr 1 1 0, J p, .ptr 1 1 1, J q, J (IntKind.wrap .i64 (p + q)), No, No, No, U, U, U, U, U, U, U, .tu [.d (.sl false L c), J 0], .ptr 1 1 0, J p, .ptr 1 1 1, J q, .tu [.d (.sl false L c), J 0], .d (.sl false L c), J 0] ++ us 16, Lm a p q⟩ : St)) (fun cf => by kernel_rfl) ?_
    refine ev_seq ?_
    refine ev_seq ?_
    refine ev_reg (by kernel_rfl) ?_
    refine rs_all (s1 := (⟨[Ag a, .ag [J p, J q], .ptr 0 0 0, .ptr 1 1 0, No, Yes, boolA v, J 8, Yes, .d (.sl false L c), J 0, Yes, Yes, No, x14, x15, x16, x17, x18, x19, x20, x21, x22, x23, x24, x25, x26, x27, x28, x29, x30, y31, y32, y33, y34, y35, y36, y37, y38, y39, y40, y41, y42, y43, y44, y45, y46, y47, y48, Ag a, boolA v, boolA v, No, No, Yes, Yes, .ptr 1 1 0, J p, .ptr 1 1 1, J q, J (IntKind.wrap .i64 (p + q)), No, No, No, U, U, U, U, U, U, U, .tu [.d (.sl false L c), J 0], .ptr 1 1 0, J p, .ptr 1 1 1, J q, .tu [.d (.sl false L c), J 0], .d (.sl false L c), J 0, Yes] ++ us 15, Lm a p q⟩ : St)) (fun cf => by kernel_rfl) ?_
    refine ev_true (by kernel_rfl) ?_
    refine ev_seq ?_
    refine ev_reg (by kernel_rfl) ?_
    refine rs_all (s1 := (⟨[Ag a, .ag [J p, J q], .ptr 0 0 0, .ptr 1 1 0, Yes, Yes, boolA v, J 8, Yes, .d (.sl false L c), J 0, Yes, Yes, No, x14, x15, x16, x17, x18, x19, x20, x21, x22, x23, x24, x25, x26, x27, x28, x29, x30, y31, y32, y33, y34, y35, y36, y37, y38, y39, y40, y41, y42, y43, y44, y45, y46, y47, y48, Ag a, boolA v, boolA v, No, No, Yes, Yes, .ptr 1 1 0, J p, .ptr 1 1 1, J q, J (IntKind.wrap .i64 (p + q)), No, No, No, U, U, U, U, U, U, U, .tu [.d (.sl false L c), J 0], .ptr 1 1 0, J p, .ptr 1 1 1, J q, .tu [.d (.sl false L c), J 0], .d (.sl false L c), J 0, Yes, Yes, Yes, J 0, Yes, Yes] ++ us 10, Lm a p q⟩ : St)) (fun cf => by kernel_rfl) ?_
    refine ev_ret ?_
    exact leaf (r0 := Yes) (.inr rfl) (by kernel_rfl) (by kernel_rfl) rfl


theorem l_limits (a : Nat → Int) (p q : Int) : Gets Try.cx 4 [Ag a, .ag [J p, J q]] Yes := by
  refine gets_of (fn := Try.f4) (by kernel_rfl) rfl ?_
  show EvK _ _ _ ⟨[Ag a, .ag [J p, J q]] ++ us 93, ⟨[], 0⟩⟩ _
  refine ev_seq ?_
  refine ev_reg (by kernel_rfl) ?_
  refine rs_all (s1 := ⟨[Ag a, .ag [J p, J q], .ptr 0 0 0, .ptr 1 1 0, No] ++ us 90, Lm a p q⟩) (fun cf => by kernel_rfl) ?_
  refine ev_seq ?_
  refine ev_reg (by kernel_rfl) ?_
  refine rs_pure (g := 11) (bs := []) (ow := false) (r := Yes) (s1 := ⟨[Ag a, .ag [J p, J q], .ptr 0 0 0, .ptr 1 1 0, No, U, U, U, U, U, U, Yes] ++ us 83, Lm a p q⟩) (by kernel_rfl) g_sanity (by kernel_rfl) (by kernel_rfl) ?_
  refine rs_all (s1 := ⟨[Ag a, .ag [J p, J q], .ptr 0 0 0, .ptr 1 1 0, No, Yes, U, U, U, U, U, Yes] ++ us 83, Lm a p q⟩) (fun cf => by kernel_rfl) ?_
  refine ev_seq ?_
  refine ev_seq ?_
  refine ev_reg (by kernel_rfl) ?_
  refine rs_all (s1 := ⟨[Ag a, .ag [J p, J q], .ptr 0 0 0, .ptr 1 1 0, No, Yes, U, U, U, U, U, Yes, Yes, No] ++ us 81, Lm a p q⟩) (fun cf => by kernel_rfl) ?_
  refine ev_false (by kernel_rfl) ?_
  refine ev_skip ?_
  refine ev_seq ?_
  refine ev_reg (by kernel_rfl) ?_
  refine rs_all (s1 := ⟨[Ag a, .ag [J p, J q], .ptr 0 0 0, .ptr 1 1 0, No, Yes, Yes, U, U, U, U, Yes, Yes, No] ++ us 81, Lm a p q⟩) (fun cf => by kernel_rfl) ?_
  refine ev_seq ?_
  refine ev_seq ?_
  refine ev_reg (by kernel_rfl) ?_
  refine rs_all (s1 := Lw a p q true 0 [U, U, U, U, U, U, U, U, U, U, U, U, U, U, U, U, U]) (fun cf => by kernel_rfl) ?_
  refine ev_block ?_
  refine lim_loop U U U U U U U U U U U U U U U U U ?_
  intro x14 x15 x16 x17 x18 x19 x20 x21 x22 x23 x24 x25 x26 x27 x28 x29 x30
  show EvK Try.cx 4 limR _ _
  refine lim_nine x14 x15 x16 x17 x18 x19 x20 x21 x22 x23 x24 x25 x26 x27 x28 x29 x30 ?_
  intro y31 y32 y33 y34 y35 y36 y37 y38 y39 y40 y41 y42 y43 y44 y45 y46 y47 y48
  cases hf : fitsB p q with
  | true =>
    simp only [fitsB, Bool.and_eq_true, decide_eq_true_eq] at hf
    exact lim_yes (by omega) rfl x14 x15 x16 x17 x18 x19 x20 x21 x22 x23 x24 x25 x26 x27 x28 x29 x30 y31 y32 y33 y34 y35 y36 y37 y38 y39 y40 y41 y42 y43 y44 y45 y46 y47 y48
  | false =>
    have : p < 0 ∨ p > 8 ∨ q < 0 ∨ q > 12 := by
      refine Decidable.byContradiction fun hc => ?_
      have : fitsB p q = true := by simp only [fitsB, Bool.and_eq_true, decide_eq_true_eq]; omega
      rw [this] at hf
      cases hf
    exact lim_no this rfl x14 x15 x16 x17 x18 x19 x20 x21 x22 x23 x24 x25 x26 x27 x28 x29 x30 y31 y32 y33 y34 y35 y36 y37 y38 y39 y40 y41 y42 y43 y44 y45 y46 y47 y48

end Go.Proofs.Ytcnpldkadgloiaa
