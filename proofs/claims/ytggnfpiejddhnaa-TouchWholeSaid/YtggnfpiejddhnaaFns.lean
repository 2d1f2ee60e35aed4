/-
  What the functions of this law give, found by walking through their code. Made by program. Conditions: none.
-/
import Derived.Test.YtggnfpiejddhnaaCtx
set_option maxRecDepth 100000
set_option linter.unusedSimpArgs false
set_option linter.unusedVariables false
namespace Go.Proofs.Ytggnfpiejddhnaa
open Go.Am

theorem g_sanity  : Gets Try.cx 4 [] (boolA true) := gets_run 300 (by kernel_rfl)

def wholeB (k : Int) : Bool := decide (k = 2 ∨ 4 ≤ k ∧ k ≤ 8 ∨ k = 11 ∨ k = 13)

theorem g_whole (k : Int) : Gets Try.cx 5 [.ag [intA .i64 k, .d (.v (.slice none 0 0)), intA .i64 0, intA .i64 0, intA .i64 0, .d (.v (.slice none 0 0)), .d (.v (.slice none 0 0)), .d (.v (.slice none 0 0)), .d (.v (.slice none 0 0))]] (boolA (wholeB k)) := by
  refine gets_of (fn := Try.f5) (by kernel_rfl) rfl ?_
  show EvK _ _ _ ⟨[.ag [intA .i64 k, .d (.v (.slice none 0 0)), intA .i64 0, intA .i64 0, intA .i64 0, .d (.v (.slice none 0 0)), .d (.v (.slice none 0 0)), .d (.v (.slice none 0 0)), .d (.v (.slice none 0 0))], undefA, undefA, undefA, undefA, undefA, undefA, undefA, undefA, undefA, undefA, undefA, undefA, undefA, undefA, undefA, undefA, undefA, undefA], ⟨[], 0⟩⟩ _
  refine ev_seq ?_
  refine ev_reg (by kernel_rfl) ?_
  refine rs_all (s1 := ⟨[.ag [intA .i64 k, .d (.v (.slice none 0 0)), intA .i64 0, intA .i64 0, intA .i64 0, .d (.v (.slice none 0 0)), .d (.v (.slice none 0 0)), .d (.v (.slice none 0 0)), .d (.v (.slice none 0 0))], .ptr 0 0 0, boolA false, undefA, undefA, undefA, undefA, undefA, undefA, undefA, undefA, undefA, undefA, undefA, undefA, undefA, undefA, undefA, undefA], ⟨[.row [intA .i64 k, .d (.v (.slice none 0 0)), intA .i64 0, intA .i64 0, intA .i64 0, .d (.v (.slice none 0 0)), .d (.v (.slice none 0 0)), .d (.v (.slice none 0 0)), .d (.v (.slice none 0 0))] 0 .ow none], 1⟩⟩) (fun cf => by kernel_rfl) ?_
  refine ev_seq ?_
  refine ev_seq ?_
  refine ev_reg (by kernel_rfl) ?_
  refine rs_all (s1 := ⟨[.ag [intA .i64 k, .d (.v (.slice none 0 0)), intA .i64 0, intA .i64 0, intA .i64 0, .d (.v (.slice none 0 0)), .d (.v (.slice none 0 0)), .d (.v (.slice none 0 0)), .d (.v (.slice none 0 0))], .ptr 0 0 0, boolA false, .ptr 0 0 0, intA .i64 k, undefA, undefA, undefA, undefA, undefA, undefA, undefA, undefA, undefA, undefA, undefA, undefA, undefA, undefA], ⟨[.row [intA .i64 k, .d (.v (.slice none 0 0)), intA .i64 0, intA .i64 0, intA .i64 0, .d (.v (.slice none 0 0)), .d (.v (.slice none 0 0)), .d (.v (.slice none 0 0)), .d (.v (.slice none 0 0))] 0 .ow none], 1⟩⟩) (fun cf => by kernel_rfl) ?_
  refine ev_block ?_
  refine ev_seq ?_
  refine ev_seq ?_
  refine ev_reg (by kernel_rfl) ?_
  refine rs_all (s1 := ⟨[.ag [intA .i64 k, .d (.v (.slice none 0 0)), intA .i64 0, intA .i64 0, intA .i64 0, .d (.v (.slice none 0 0)), .d (.v (.slice none 0 0)), .d (.v (.slice none 0 0)), .d (.v (.slice none 0 0))], .ptr 0 0 0, boolA false, .ptr 0 0 0, intA .i64 k, boolA (k == 1), boolA (k == 1), undefA, undefA, undefA, undefA, undefA, undefA, undefA, undefA, undefA, undefA, undefA, undefA], ⟨[.row [intA .i64 k, .d (.v (.slice none 0 0)), intA .i64 0, intA .i64 0, intA .i64 0, .d (.v (.slice none 0 0)), .d (.v (.slice none 0 0)), .d (.v (.slice none 0 0)), .d (.v (.slice none 0 0))] 0 .ow none], 1⟩⟩) (fun cf => by kernel_rfl) ?_
  rcases hb1 : ((k == 1) : Bool) with _ | _
  ·
    refine ev_false (by kernel_rfl) ?_
    refine ev_seq ?_
    refine ev_reg (by kernel_rfl) ?_
    refine rs_all (s1 := ⟨[.ag [intA .i64 k, .d (.v (.slice none 0 0)), intA .i64 0, intA .i64 0, intA .i64 0, .d (.v (.slice none 0 0)), .d (.v (.slice none 0 0)), .d (.v (.slice none 0 0)), .d (.v (.slice none 0 0))], .ptr 0 0 0, boolA false, .ptr 0 0 0, intA .i64 k, boolA (k == 3), boolA false, boolA (k == 3), undefA, undefA, undefA, undefA, undefA, undefA, undefA, undefA, undefA, undefA, undefA], ⟨[.row [intA .i64 k, .d (.v (.slice none 0 0)), intA .i64 0, intA .i64 0, intA .i64 0, .d (.v (.slice none 0 0)), .d (.v (.slice none 0 0)), .d (.v (.slice none 0 0)), .d (.v (.slice none 0 0))] 0 .ow none], 1⟩⟩) (fun cf => by kernel_rfl) ?_
    rcases hb2 : ((k == 3) : Bool) with _ | _
    ·
      refine ev_false (by kernel_rfl) ?_
      refine ev_seq ?_
      refine ev_reg (by kernel_rfl) ?_
      refine rs_all (s1 := ⟨[.ag [intA .i64 k, .d (.v (.slice none 0 0)), intA .i64 0, intA .i64 0, intA .i64 0, .d (.v (.slice none 0 0)), .d (.v (.slice none 0 0)), .d (.v (.slice none 0 0)), .d (.v (.slice none 0 0))], .ptr 0 0 0, boolA false, .ptr 0 0 0, intA .i64 k, boolA (k == 9), boolA false, boolA false, boolA (k == 9), undefA, undefA, undefA, undefA, undefA, undefA, undefA, undefA, undefA, undefA], ⟨[.row [intA .i64 k, .d (.v (.slice none 0 0)), intA .i64 0, intA .i64 0, intA .i64 0, .d (.v (.slice none 0 0)), .d (.v (.slice none 0 0)), .d (.v (.slice none 0 0)), .d (.v (.slice none 0 0))] 0 .ow none], 1⟩⟩) (fun cf => by kernel_rfl) ?_
      rcases hb3 : ((k == 9) : Bool) with _ | _
      ·
        refine ev_false (by kernel_rfl) ?_
        refine ev_seq ?_
        refine ev_reg (by kernel_rfl) ?_
        refine rs_all (s1 := ⟨[.ag [intA .i64 k, .d (.v (.slice none 0 0)), intA .i64 0, intA .i64 0, intA .i64 0, .d (.v (.slice none 0 0)), .d (.v (.slice none 0 0)), .d (.v (.slice none 0 0)), .d (.v (.slice none 0 0))], .ptr 0 0 0, boolA false, .ptr 0 0 0, intA .i64 k, boolA (k == 10), boolA false, boolA false, boolA false, boolA (k == 10), undefA, undefA, undefA, undefA, undefA, undefA, undefA, undefA, undefA], ⟨[.row [intA .i64 k, .d (.v (.slice none 0 0)), intA .i64 0, intA .i64 0, intA .i64 0, .d (.v (.slice none 0 0)), .d (.v (.slice none 0 0)), .d (.v (.slice none 0 0)), .d (.v (.slice none 0 0))] 0 .ow none], 1⟩⟩) (fun cf => by kernel_rfl) ?_
        rcases hb4 : ((k == 10) : Bool) with _ | _
        ·
          refine ev_false (by kernel_rfl) ?_
          refine ev_reg (by kernel_rfl) ?_
          refine rs_all (s1 := ⟨[.ag [intA .i64 k, .d (.v (.slice none 0 0)), intA .i64 0, intA .i64 0, intA .i64 0, .d (.v (.slice none 0 0)), .d (.v (.slice none 0 0)), .d (.v (.slice none 0 0)), .d (.v (.slice none 0 0))], .ptr 0 0 0, boolA false, .ptr 0 0 0, intA .i64 k, boolA (k == 12), boolA false, boolA false, boolA false, boolA false, boolA (k == 12), undefA, undefA, undefA, undefA, undefA, undefA, undefA, undefA], ⟨[.row [intA .i64 k, .d (.v (.slice none 0 0)), intA .i64 0, intA .i64 0, intA .i64 0, .d (.v (.slice none 0 0)), .d (.v (.slice none 0 0)), .d (.v (.slice none 0 0)), .d (.v (.slice none 0 0))] 0 .ow none], 1⟩⟩) (fun cf => by kernel_rfl) ?_
          rcases hb5 : ((k == 12) : Bool) with _ | _
          ·
            refine ev_false (by kernel_rfl) ?_
            refine ev_skip ?_
            refine ev_seq ?_
            refine ev_reg (by kernel_rfl) ?_
            refine rs_take 4 (s1 := ⟨[.ag [intA .i64 k, .d (.v (.slice none 0 0)), intA .i64 0, intA .i64 0, intA .i64 0, .d (.v (.slice none 0 0)), .d (.v (.slice none 0 0)), .d (.v (.slice none 0 0)), .d (.v (.slice none 0 0))], .ptr 0 0 0, boolA false, .ptr 0 0 0, intA .i64 k, boolA false, boolA false, boolA false, boolA false, boolA false, boolA false, .ptr 0 0 0, intA .i64 k, boolA (decide (k ≥ 1)), boolA (decide (k ≥ 1)), undefA, undefA, undefA, undefA], ⟨[.row [intA .i64 k, .d (.v (.slice none 0 0)), intA .i64 0, intA .i64 0, intA .i64 0, .d (.v (.slice none 0 0)), .d (.v (.slice none 0 0)), .d (.v (.slice none 0 0)), .d (.v (.slice none 0 0))] 0 .ow none], 1⟩⟩) (fun cf => by kernel_rfl) ?_
            rcases hb6 : ((decide (k ≥ 1)) : Bool) with _ | _
            ·
              refine rs_all (s1 := ⟨[.ag [intA .i64 k, .d (.v (.slice none 0 0)), intA .i64 0, intA .i64 0, intA .i64 0, .d (.v (.slice none 0 0)), .d (.v (.slice none 0 0)), .d (.v (.slice none 0 0)), .d (.v (.slice none 0 0))], .ptr 0 0 0, boolA false, .ptr 0 0 0, intA .i64 k, boolA false, boolA false, boolA false, boolA false, boolA false, boolA false, .ptr 0 0 0, intA .i64 k, boolA false, boolA false, undefA, undefA, undefA, boolA false], ⟨[.row [intA .i64 k, .d (.v (.slice none 0 0)), intA .i64 0, intA .i64 0, intA .i64 0, .d (.v (.slice none 0 0)), .d (.v (.slice none 0 0)), .d (.v (.slice none 0 0)), .d (.v (.slice none 0 0))] 0 .ow none], 1⟩⟩) (fun cf => by kernel_rfl) ?_
              refine ev_ret ?_
              refine leaf (r0 := boolA false) (r1 := boolA false) (.inr rfl) (by kernel_rfl) (by kernel_rfl) ?_
              refine congrArg boolA ?_
              rw [Bool.eq_iff_iff]
              simp only [wholeB, decide_eq_true_eq, Bool.false_eq_true, Bool.true_eq_false, beq_iff_eq, beq_eq_false_iff_ne, decide_eq_false_iff_not, Bool.or_eq_true, Bool.and_eq_true, Bool.not_eq_true', ne_eq, true_iff, false_iff, iff_true, iff_false, Bool.or_eq_false_iff, Bool.and_eq_false_iff] at *
              omega
            ·
              refine rs_all (s1 := ⟨[.ag [intA .i64 k, .d (.v (.slice none 0 0)), intA .i64 0, intA .i64 0, intA .i64 0, .d (.v (.slice none 0 0)), .d (.v (.slice none 0 0)), .d (.v (.slice none 0 0)), .d (.v (.slice none 0 0))], .ptr 0 0 0, boolA (decide (k ≤ 13)), .ptr 0 0 0, intA .i64 k, boolA false, boolA false, boolA false, boolA false, boolA false, boolA false, .ptr 0 0 0, intA .i64 k, boolA true, boolA true, .ptr 0 0 0, intA .i64 k, boolA (decide (k ≤ 13)), boolA (decide (k ≤ 13))], ⟨[.row [intA .i64 k, .d (.v (.slice none 0 0)), intA .i64 0, intA .i64 0, intA .i64 0, .d (.v (.slice none 0 0)), .d (.v (.slice none 0 0)), .d (.v (.slice none 0 0)), .d (.v (.slice none 0 0))] 0 .ow none], 1⟩⟩) (fun cf => by kernel_rfl) ?_
              refine ev_ret ?_
              refine leaf (r0 := boolA (decide (k ≤ 13))) (r1 := boolA (decide (k ≤ 13))) (.inr rfl) (by kernel_rfl) (by kernel_rfl) ?_
              refine congrArg boolA ?_
              rw [Bool.eq_iff_iff]
              simp only [wholeB, decide_eq_true_eq, Bool.false_eq_true, Bool.true_eq_false, beq_iff_eq, beq_eq_false_iff_ne, decide_eq_false_iff_not, Bool.or_eq_true, Bool.and_eq_true, Bool.not_eq_true', ne_eq, true_iff, false_iff, iff_true, iff_false, Bool.or_eq_false_iff, Bool.and_eq_false_iff] at *
              omega
          ·
            refine ev_true (by kernel_rfl) ?_
            refine ev_seq ?_
            refine ev_reg (by kernel_rfl) ?_
            refine rs_all (s1 := ⟨[.ag [intA .i64 k, .d (.v (.slice none 0 0)), intA .i64 0, intA .i64 0, intA .i64 0, .d (.v (.slice none 0 0)), .d (.v (.slice none 0 0)), .d (.v (.slice none 0 0)), .d (.v (.slice none 0 0))], .ptr 0 0 0, boolA false, .ptr 0 0 0, intA .i64 k, boolA true, boolA false, boolA false, boolA false, boolA false, boolA true, undefA, undefA, undefA, undefA, undefA, undefA, undefA, undefA], ⟨[.row [intA .i64 k, .d (.v (.slice none 0 0)), intA .i64 0, intA .i64 0, intA .i64 0, .d (.v (.slice none 0 0)), .d (.v (.slice none 0 0)), .d (.v (.slice none 0 0)), .d (.v (.slice none 0 0))] 0 .ow none], 1⟩⟩) (fun cf => by kernel_rfl) ?_
            refine ev_ret ?_
            refine leaf (r0 := boolA false) (r1 := boolA false) (.inr rfl) (by kernel_rfl) (by kernel_rfl) ?_
            refine congrArg boolA ?_
            rw [Bool.eq_iff_iff]
            simp only [wholeB, decide_eq_true_eq, Bool.false_eq_true, Bool.true_eq_false, beq_iff_eq, beq_eq_false_iff_ne, decide_eq_false_iff_not, Bool.or_eq_true, Bool.and_eq_true, Bool.not_eq_true', ne_eq, true_iff, false_iff, iff_true, iff_false, Bool.or_eq_false_iff, Bool.and_eq_false_iff] at *
            omega
        ·
          refine ev_true (by kernel_rfl) ?_
          refine ev_skip ?_
          refine ev_true (by kernel_rfl) ?_
          refine ev_seq ?_
          refine ev_reg (by kernel_rfl) ?_
          refine rs_all (s1 := ⟨[.ag [intA .i64 k, .d (.v (.slice none 0 0)), intA .i64 0, intA .i64 0, intA .i64 0, .d (.v (.slice none 0 0)), .d (.v (.slice none 0 0)), .d (.v (.slice none 0 0)), .d (.v (.slice none 0 0))], .ptr 0 0 0, boolA false, .ptr 0 0 0, intA .i64 k, boolA true, boolA false, boolA false, boolA false, boolA true, undefA, undefA, undefA, undefA, undefA, undefA, undefA, undefA, undefA], ⟨[.row [intA .i64 k, .d (.v (.slice none 0 0)), intA .i64 0, intA .i64 0, intA .i64 0, .d (.v (.slice none 0 0)), .d (.v (.slice none 0 0)), .d (.v (.slice none 0 0)), .d (.v (.slice none 0 0))] 0 .ow none], 1⟩⟩) (fun cf => by kernel_rfl) ?_
          refine ev_ret ?_
          refine leaf (r0 := boolA false) (r1 := boolA false) (.inr rfl) (by kernel_rfl) (by kernel_rfl) ?_
          refine congrArg boolA ?_
          rw [Bool.eq_iff_iff]
          simp only [wholeB, decide_eq_true_eq, Bool.false_eq_true, Bool.true_eq_false, beq_iff_eq, beq_eq_false_iff_ne, decide_eq_false_iff_not, Bool.or_eq_true, Bool.and_eq_true, Bool.not_eq_true', ne_eq, true_iff, false_iff, iff_true, iff_false, Bool.or_eq_false_iff, Bool.and_eq_false_iff] at *
          omega
      ·
        refine ev_true (by kernel_rfl) ?_
        refine ev_skip ?_
        refine ev_true (by kernel_rfl) ?_
        refine ev_seq ?_
        refine ev_reg (by kernel_rfl) ?_
        refine rs_all (s1 := ⟨[.ag [intA .i64 k, .d (.v (.slice none 0 0)), intA .i64 0, intA .i64 0, intA .i64 0, .d (.v (.slice none 0 0)), .d (.v (.slice none 0 0)), .d (.v (.slice none 0 0)), .d (.v (.slice none 0 0))], .ptr 0 0 0, boolA false, .ptr 0 0 0, intA .i64 k, boolA true, boolA false, boolA false, boolA true, undefA, undefA, undefA, undefA, undefA, undefA, undefA, undefA, undefA, undefA], ⟨[.row [intA .i64 k, .d (.v (.slice none 0 0)), intA .i64 0, intA .i64 0, intA .i64 0, .d (.v (.slice none 0 0)), .d (.v (.slice none 0 0)), .d (.v (.slice none 0 0)), .d (.v (.slice none 0 0))] 0 .ow none], 1⟩⟩) (fun cf => by kernel_rfl) ?_
        refine ev_ret ?_
        refine leaf (r0 := boolA false) (r1 := boolA false) (.inr rfl) (by kernel_rfl) (by kernel_rfl) ?_
        refine congrArg boolA ?_
        rw [Bool.eq_iff_iff]
        simp only [wholeB, decide_eq_true_eq, Bool.false_eq_true, Bool.true_eq_false, beq_iff_eq, beq_eq_false_iff_ne, decide_eq_false_iff_not, Bool.or_eq_true, Bool.and_eq_true, Bool.not_eq_true', ne_eq, true_iff, false_iff, iff_true, iff_false, Bool.or_eq_false_iff, Bool.and_eq_false_iff] at *
        omega
    ·
      refine ev_true (by kernel_rfl) ?_
      refine ev_skip ?_
      refine ev_true (by kernel_rfl) ?_
      refine ev_seq ?_
      refine ev_reg (by kernel_rfl) ?_
      refine rs_all (s1 := ⟨[.ag [intA .i64 k, .d (.v (.slice none 0 0)), intA .i64 0, intA .i64 0, intA .i64 0, .d (.v (.slice none 0 0)), .d (.v (.slice none 0 0)), .d (.v (.slice none 0 0)), .d (.v (.slice none 0 0))], .ptr 0 0 0, boolA false, .ptr 0 0 0, intA .i64 k, boolA true, boolA false, boolA true, undefA, undefA, undefA, undefA, undefA, undefA, undefA, undefA, undefA, undefA, undefA], ⟨[.row [intA .i64 k, .d (.v (.slice none 0 0)), intA .i64 0, intA .i64 0, intA .i64 0, .d (.v (.slice none 0 0)), .d (.v (.slice none 0 0)), .d (.v (.slice none 0 0)), .d (.v (.slice none 0 0))] 0 .ow none], 1⟩⟩) (fun cf => by kernel_rfl) ?_
      refine ev_ret ?_
      refine leaf (r0 := boolA false) (r1 := boolA false) (.inr rfl) (by kernel_rfl) (by kernel_rfl) ?_
      refine congrArg boolA ?_
      rw [Bool.eq_iff_iff]
      simp only [wholeB, decide_eq_true_eq, Bool.false_eq_true, Bool.true_eq_false, beq_iff_eq, beq_eq_false_iff_ne, decide_eq_false_iff_not, Bool.or_eq_true, Bool.and_eq_true, Bool.not_eq_true', ne_eq, true_iff, false_iff, iff_true, iff_false, Bool.or_eq_false_iff, Bool.and_eq_false_iff] at *
      omega
  ·
    refine ev_true (by kernel_rfl) ?_
    refine ev_skip ?_
    refine ev_true (by kernel_rfl) ?_
    refine ev_seq ?_
    refine ev_reg (by kernel_rfl) ?_
    refine rs_all (s1 := ⟨[.ag [intA .i64 k, .d (.v (.slice none 0 0)), intA .i64 0, intA .i64 0, intA .i64 0, .d (.v (.slice none 0 0)), .d (.v (.slice none 0 0)), .d (.v (.slice none 0 0)), .d (.v (.slice none 0 0))], .ptr 0 0 0, boolA false, .ptr 0 0 0, intA .i64 k, boolA true, boolA true, undefA, undefA, undefA, undefA, undefA, undefA, undefA, undefA, undefA, undefA, undefA, undefA], ⟨[.row [intA .i64 k, .d (.v (.slice none 0 0)), intA .i64 0, intA .i64 0, intA .i64 0, .d (.v (.slice none 0 0)), .d (.v (.slice none 0 0)), .d (.v (.slice none 0 0)), .d (.v (.slice none 0 0))] 0 .ow none], 1⟩⟩) (fun cf => by kernel_rfl) ?_
    refine ev_ret ?_
    refine leaf (r0 := boolA false) (r1 := boolA false) (.inr rfl) (by kernel_rfl) (by kernel_rfl) ?_
    refine congrArg boolA ?_
    rw [Bool.eq_iff_iff]
    simp only [wholeB, decide_eq_true_eq, Bool.false_eq_true, Bool.true_eq_false, beq_iff_eq, beq_eq_false_iff_ne, decide_eq_false_iff_not, Bool.or_eq_true, Bool.and_eq_true, Bool.not_eq_true', ne_eq, true_iff, false_iff, iff_true, iff_false, Bool.or_eq_false_iff, Bool.and_eq_false_iff] at *
    omega

theorem g_law (k : Int) : Gets Try.cx 3 [intA .i64 k] (boolA true) := by
  refine gets_of (fn := Try.f3) (by kernel_rfl) rfl ?_
  show EvK _ _ _ ⟨[intA .i64 k, undefA, undefA, undefA, undefA, undefA, undefA, undefA, undefA, undefA, undefA, undefA, undefA, undefA, undefA, undefA, undefA, undefA, undefA, undefA, undefA, undefA, undefA, undefA, undefA, undefA, undefA, undefA, undefA, undefA, undefA, undefA, undefA, undefA], ⟨[], 0⟩⟩ _
  refine ev_seq ?_
  refine ev_reg (by kernel_rfl) ?_
  refine rs_all (s1 := ⟨[intA .i64 k, undefA, boolA false, undefA, undefA, undefA, undefA, undefA, undefA, undefA, undefA, undefA, undefA, undefA, undefA, undefA, undefA, undefA, undefA, undefA, undefA, undefA, undefA, undefA, undefA, undefA, undefA, undefA, undefA, undefA, undefA, undefA, undefA, undefA], ⟨[], 0⟩⟩) (fun cf => by kernel_rfl) ?_
  refine ev_seq ?_
  refine ev_reg (by kernel_rfl) ?_
  refine rs_pure (g := 4) (bs := []) (ow := false) (r := boolA true) (s1 := ⟨[intA .i64 k, undefA, boolA false, undefA, undefA, boolA true, undefA, undefA, undefA, undefA, undefA, undefA, undefA, undefA, undefA, undefA, undefA, undefA, undefA, undefA, undefA, undefA, undefA, undefA, undefA, undefA, undefA, undefA, undefA, undefA, undefA, undefA, undefA, undefA], ⟨[], 0⟩⟩) (by kernel_rfl) (g_sanity) (by kernel_rfl) (by kernel_rfl) ?_
  refine rs_all (s1 := ⟨[intA .i64 k, undefA, boolA false, boolA true, undefA, boolA true, undefA, undefA, undefA, undefA, undefA, undefA, undefA, undefA, undefA, undefA, undefA, undefA, undefA, undefA, undefA, undefA, undefA, undefA, undefA, undefA, undefA, undefA, undefA, undefA, undefA, undefA, undefA, undefA], ⟨[], 0⟩⟩) (fun cf => by kernel_rfl) ?_
  refine ev_seq ?_
  refine ev_seq ?_
  refine ev_reg (by kernel_rfl) ?_
  refine rs_all (s1 := ⟨[intA .i64 k, undefA, boolA false, boolA true, undefA, boolA true, boolA true, boolA false, undefA, undefA, undefA, undefA, undefA, undefA, undefA, undefA, undefA, undefA, undefA, undefA, undefA, undefA, undefA, undefA, undefA, undefA, undefA, undefA, undefA, undefA, undefA, undefA, undefA, undefA], ⟨[], 0⟩⟩) (fun cf => by kernel_rfl) ?_
  refine ev_false (by kernel_rfl) ?_
  refine ev_skip ?_
  refine ev_seq ?_
  refine ev_reg (by kernel_rfl) ?_
  refine rs_take 3 (s1 := ⟨[intA .i64 k, undefA, boolA false, boolA true, undefA, boolA true, boolA true, boolA false, intA .i64 k, boolA (k == 2), boolA (k == 2), undefA, undefA, undefA, undefA, undefA, undefA, undefA, undefA, undefA, undefA, undefA, undefA, undefA, undefA, undefA, undefA, undefA, undefA, undefA, undefA, undefA, undefA, undefA], ⟨[], 0⟩⟩) (fun cf => by kernel_rfl) ?_
  rcases hb1 : ((k == 2) : Bool) with _ | _
  ·
    refine rs_take 3 (s1 := ⟨[intA .i64 k, undefA, boolA false, boolA true, undefA, boolA true, boolA true, boolA false, intA .i64 k, boolA false, boolA false, intA .i64 k, boolA (decide (k ≥ 4)), boolA (decide (k ≥ 4)), undefA, undefA, undefA, undefA, undefA, undefA, undefA, undefA, undefA, undefA, undefA, undefA, undefA, undefA, undefA, undefA, undefA, undefA, undefA, undefA], ⟨[], 0⟩⟩) (fun cf => by kernel_rfl) ?_
    rcases hb2 : ((decide (k ≥ 4)) : Bool) with _ | _
    ·
      refine rs_take 9 (s1 := ⟨[intA .i64 k, undefA, boolA false, boolA true, undefA, boolA true, boolA true, boolA false, intA .i64 k, boolA false, boolA false, intA .i64 k, boolA false, boolA false, undefA, undefA, boolA false, boolA false, boolA false, intA .i64 k, boolA (k == 11), boolA (k == 11), boolA (k == 11), undefA, undefA, undefA, undefA, undefA, undefA, undefA, undefA, undefA, undefA, undefA], ⟨[], 0⟩⟩) (fun cf => by kernel_rfl) ?_
      rcases hb3 : ((k == 11) : Bool) with _ | _
      ·
        refine rs_all (s1 := ⟨[intA .i64 k, undefA, boolA false, boolA true, boolA (k == 13), boolA true, boolA true, boolA false, intA .i64 k, boolA false, boolA false, intA .i64 k, boolA false, boolA false, undefA, undefA, boolA false, boolA false, boolA false, intA .i64 k, boolA false, boolA false, boolA false, intA .i64 k, boolA (k == 13), boolA (k == 13), undefA, undefA, undefA, undefA, undefA, undefA, undefA, undefA], ⟨[], 0⟩⟩) (fun cf => by kernel_rfl) ?_
        refine ev_seq ?_
        refine ev_reg (by kernel_rfl) ?_
        refine rs_take 4 (s1 := ⟨[intA .i64 k, undefA, boolA false, boolA true, boolA (k == 13), boolA true, boolA true, boolA false, intA .i64 k, boolA false, boolA false, intA .i64 k, boolA false, boolA false, undefA, undefA, boolA false, boolA false, boolA false, intA .i64 k, boolA false, boolA false, boolA false, intA .i64 k, boolA (k == 13), boolA (k == 13), boolA true, boolA true, intA .i64 k, .ag [intA .i64 k, .d (.v (.slice none 0 0)), intA .i64 0, intA .i64 0, intA .i64 0, .d (.v (.slice none 0 0)), .d (.v (.slice none 0 0)), .d (.v (.slice none 0 0)), .d (.v (.slice none 0 0))], undefA, undefA, undefA, undefA], ⟨[], 0⟩⟩) (fun cf => by kernel_rfl) ?_
        refine rs_pure (g := 5) (bs := [.ag [intA .i64 k, .d (.v (.slice none 0 0)), intA .i64 0, intA .i64 0, intA .i64 0, .d (.v (.slice none 0 0)), .d (.v (.slice none 0 0)), .d (.v (.slice none 0 0)), .d (.v (.slice none 0 0))]]) (ow := false) (r := boolA (wholeB k)) (s1 := ⟨[intA .i64 k, undefA, boolA false, boolA true, boolA (k == 13), boolA true, boolA true, boolA false, intA .i64 k, boolA false, boolA false, intA .i64 k, boolA false, boolA false, undefA, undefA, boolA false, boolA false, boolA false, intA .i64 k, boolA false, boolA false, boolA false, intA .i64 k, boolA (k == 13), boolA (k == 13), boolA true, boolA true, intA .i64 k, .ag [intA .i64 k, .d (.v (.slice none 0 0)), intA .i64 0, intA .i64 0, intA .i64 0, .d (.v (.slice none 0 0)), .d (.v (.slice none 0 0)), .d (.v (.slice none 0 0)), .d (.v (.slice none 0 0))], boolA (wholeB k), undefA, undefA, undefA], ⟨[], 0⟩⟩) (by kernel_rfl) (g_whole k) (by kernel_rfl) (by kernel_rfl) ?_
        refine rs_all (s1 := ⟨[intA .i64 k, undefA, boolA ((wholeB k) == (k == 13)), boolA true, boolA (k == 13), boolA true, boolA true, boolA false, intA .i64 k, boolA false, boolA false, intA .i64 k, boolA false, boolA false, undefA, undefA, boolA false, boolA false, boolA false, intA .i64 k, boolA false, boolA false, boolA false, intA .i64 k, boolA (k == 13), boolA (k == 13), boolA true, boolA true, intA .i64 k, .ag [intA .i64 k, .d (.v (.slice none 0 0)), intA .i64 0, intA .i64 0, intA .i64 0, .d (.v (.slice none 0 0)), .d (.v (.slice none 0 0)), .d (.v (.slice none 0 0)), .d (.v (.slice none 0 0))], boolA (wholeB k), boolA (k == 13), boolA ((wholeB k) == (k == 13)), boolA ((wholeB k) == (k == 13))], ⟨[], 0⟩⟩) (fun cf => by kernel_rfl) ?_
        refine ev_ret ?_
        refine leaf (r0 := boolA ((wholeB k) == (k == 13))) (r1 := boolA ((wholeB k) == (k == 13))) (.inr rfl) (by kernel_rfl) (by kernel_rfl) ?_
        refine congrArg boolA ?_
        refine beq_iff_eq.mpr ?_
        rw [Bool.eq_iff_iff]
        simp only [wholeB, decide_eq_true_eq, Bool.false_eq_true, Bool.true_eq_false, beq_iff_eq, beq_eq_false_iff_ne, decide_eq_false_iff_not, Bool.or_eq_true, Bool.and_eq_true, Bool.not_eq_true', ne_eq, true_iff, false_iff, iff_true, iff_false, Bool.or_eq_false_iff, Bool.and_eq_false_iff] at *
        omega
      ·
        refine rs_all (s1 := ⟨[intA .i64 k, undefA, boolA false, boolA true, boolA true, boolA true, boolA true, boolA false, intA .i64 k, boolA false, boolA false, intA .i64 k, boolA false, boolA false, undefA, undefA, boolA false, boolA false, boolA false, intA .i64 k, boolA true, boolA true, boolA true, undefA, undefA, boolA true, undefA, undefA, undefA, undefA, undefA, undefA, undefA, undefA], ⟨[], 0⟩⟩) (fun cf => by kernel_rfl) ?_
        refine ev_seq ?_
        refine ev_reg (by kernel_rfl) ?_
        refine rs_take 4 (s1 := ⟨[intA .i64 k, undefA, boolA false, boolA true, boolA true, boolA true, boolA true, boolA false, intA .i64 k, boolA false, boolA false, intA .i64 k, boolA false, boolA false, undefA, undefA, boolA false, boolA false, boolA false, intA .i64 k, boolA true, boolA true, boolA true, undefA, undefA, boolA true, boolA true, boolA true, intA .i64 k, .ag [intA .i64 k, .d (.v (.slice none 0 0)), intA .i64 0, intA .i64 0, intA .i64 0, .d (.v (.slice none 0 0)), .d (.v (.slice none 0 0)), .d (.v (.slice none 0 0)), .d (.v (.slice none 0 0))], undefA, undefA, undefA, undefA], ⟨[], 0⟩⟩) (fun cf => by kernel_rfl) ?_
        refine rs_pure (g := 5) (bs := [.ag [intA .i64 k, .d (.v (.slice none 0 0)), intA .i64 0, intA .i64 0, intA .i64 0, .d (.v (.slice none 0 0)), .d (.v (.slice none 0 0)), .d (.v (.slice none 0 0)), .d (.v (.slice none 0 0))]]) (ow := false) (r := boolA (wholeB k)) (s1 := ⟨[intA .i64 k, undefA, boolA false, boolA true, boolA true, boolA true, boolA true, boolA false, intA .i64 k, boolA false, boolA false, intA .i64 k, boolA false, boolA false, undefA, undefA, boolA false, boolA false, boolA false, intA .i64 k, boolA true, boolA true, boolA true, undefA, undefA, boolA true, boolA true, boolA true, intA .i64 k, .ag [intA .i64 k, .d (.v (.slice none 0 0)), intA .i64 0, intA .i64 0, intA .i64 0, .d (.v (.slice none 0 0)), .d (.v (.slice none 0 0)), .d (.v (.slice none 0 0)), .d (.v (.slice none 0 0))], boolA (wholeB k), undefA, undefA, undefA], ⟨[], 0⟩⟩) (by kernel_rfl) (g_whole k) (by kernel_rfl) (by kernel_rfl) ?_
        refine rs_all (s1 := ⟨[intA .i64 k, undefA, boolA ((wholeB k) == true), boolA true, boolA true, boolA true, boolA true, boolA false, intA .i64 k, boolA false, boolA false, intA .i64 k, boolA false, boolA false, undefA, undefA, boolA false, boolA false, boolA false, intA .i64 k, boolA true, boolA true, boolA true, undefA, undefA, boolA true, boolA true, boolA true, intA .i64 k, .ag [intA .i64 k, .d (.v (.slice none 0 0)), intA .i64 0, intA .i64 0, intA .i64 0, .d (.v (.slice none 0 0)), .d (.v (.slice none 0 0)), .d (.v (.slice none 0 0)), .d (.v (.slice none 0 0))], boolA (wholeB k), boolA true, boolA ((wholeB k) == true), boolA ((wholeB k) == true)], ⟨[], 0⟩⟩) (fun cf => by kernel_rfl) ?_
        refine ev_ret ?_
        refine leaf (r0 := boolA ((wholeB k) == true)) (r1 := boolA ((wholeB k) == true)) (.inr rfl) (by kernel_rfl) (by kernel_rfl) ?_
        refine congrArg boolA ?_
        refine beq_iff_eq.mpr ?_
        rw [Bool.eq_iff_iff]
        simp only [wholeB, decide_eq_true_eq, Bool.false_eq_true, Bool.true_eq_false, beq_iff_eq, beq_eq_false_iff_ne, decide_eq_false_iff_not, Bool.or_eq_true, Bool.and_eq_true, Bool.not_eq_true', ne_eq, true_iff, false_iff, iff_true, iff_false, Bool.or_eq_false_iff, Bool.and_eq_false_iff] at *
        omega
    ·
      refine rs_take 5 (s1 := ⟨[intA .i64 k, undefA, boolA false, boolA true, undefA, boolA true, boolA true, boolA false, intA .i64 k, boolA false, boolA false, intA .i64 k, boolA true, boolA true, intA .i64 k, boolA (decide (k ≤ 8)), boolA (decide (k ≤ 8)), boolA (decide (k ≤ 8)), boolA (decide (k ≤ 8)), undefA, undefA, undefA, undefA, undefA, undefA, undefA, undefA, undefA, undefA, undefA, undefA, undefA, undefA, undefA], ⟨[], 0⟩⟩) (fun cf => by kernel_rfl) ?_
      rcases hb4 : ((decide (k ≤ 8)) : Bool) with _ | _
      ·
        refine rs_take 4 (s1 := ⟨[intA .i64 k, undefA, boolA false, boolA true, undefA, boolA true, boolA true, boolA false, intA .i64 k, boolA false, boolA false, intA .i64 k, boolA true, boolA true, intA .i64 k, boolA false, boolA false, boolA false, boolA false, intA .i64 k, boolA (k == 11), boolA (k == 11), boolA (k == 11), undefA, undefA, undefA, undefA, undefA, undefA, undefA, undefA, undefA, undefA, undefA], ⟨[], 0⟩⟩) (fun cf => by kernel_rfl) ?_
        rcases hb5 : ((k == 11) : Bool) with _ | _
        ·
          refine rs_all (s1 := ⟨[intA .i64 k, undefA, boolA false, boolA true, boolA (k == 13), boolA true, boolA true, boolA false, intA .i64 k, boolA false, boolA false, intA .i64 k, boolA true, boolA true, intA .i64 k, boolA false, boolA false, boolA false, boolA false, intA .i64 k, boolA false, boolA false, boolA false, intA .i64 k, boolA (k == 13), boolA (k == 13), undefA, undefA, undefA, undefA, undefA, undefA, undefA, undefA], ⟨[], 0⟩⟩) (fun cf => by kernel_rfl) ?_
          refine ev_seq ?_
          refine ev_reg (by kernel_rfl) ?_
          refine rs_take 4 (s1 := ⟨[intA .i64 k, undefA, boolA false, boolA true, boolA (k == 13), boolA true, boolA true, boolA false, intA .i64 k, boolA false, boolA false, intA .i64 k, boolA true, boolA true, intA .i64 k, boolA false, boolA false, boolA false, boolA false, intA .i64 k, boolA false, boolA false, boolA false, intA .i64 k, boolA (k == 13), boolA (k == 13), boolA true, boolA true, intA .i64 k, .ag [intA .i64 k, .d (.v (.slice none 0 0)), intA .i64 0, intA .i64 0, intA .i64 0, .d (.v (.slice none 0 0)), .d (.v (.slice none 0 0)), .d (.v (.slice none 0 0)), .d (.v (.slice none 0 0))], undefA, undefA, undefA, undefA], ⟨[], 0⟩⟩) (fun cf => by kernel_rfl) ?_
          refine rs_pure (g := 5) (bs := [.ag [intA .i64 k, .d (.v (.slice none 0 0)), intA .i64 0, intA .i64 0, intA .i64 0, .d (.v (.slice none 0 0)), .d (.v (.slice none 0 0)), .d (.v (.slice none 0 0)), .d (.v (.slice none 0 0))]]) (ow := false) (r := boolA (wholeB k)) (s1 := ⟨[intA .i64 k, undefA, boolA false, boolA true, boolA (k == 13), boolA true, boolA true, boolA false, intA .i64 k, boolA false, boolA false, intA .i64 k, boolA true, boolA true, intA .i64 k, boolA false, boolA false, boolA false, boolA false, intA .i64 k, boolA false, boolA false, boolA false, intA .i64 k, boolA (k == 13), boolA (k == 13), boolA true, boolA true, intA .i64 k, .ag [intA .i64 k, .d (.v (.slice none 0 0)), intA .i64 0, intA .i64 0, intA .i64 0, .d (.v (.slice none 0 0)), .d (.v (.slice none 0 0)), .d (.v (.slice none 0 0)), .d (.v (.slice none 0 0))], boolA (wholeB k), undefA, undefA, undefA], ⟨[], 0⟩⟩) (by kernel_rfl) (g_whole k) (by kernel_rfl) (by kernel_rfl) ?_
          refine rs_all (s1 := ⟨[intA .i64 k, undefA, boolA ((wholeB k) == (k == 13)), boolA true, boolA (k == 13), boolA true, boolA true, boolA false, intA .i64 k, boolA false, boolA false, intA .i64 k, boolA true, boolA true, intA .i64 k, boolA false, boolA false, boolA false, boolA false, intA .i64 k, boolA false, boolA false, boolA false, intA .i64 k, boolA (k == 13), boolA (k == 13), boolA true, boolA true, intA .i64 k, .ag [intA .i64 k, .d (.v (.slice none 0 0)), intA .i64 0, intA .i64 0, intA .i64 0, .d (.v (.slice none 0 0)), .d (.v (.slice none 0 0)), .d (.v (.slice none 0 0)), .d (.v (.slice none 0 0))], boolA (wholeB k), boolA (k == 13), boolA ((wholeB k) == (k == 13)), boolA ((wholeB k) == (k == 13))], ⟨[], 0⟩⟩) (fun cf => by kernel_rfl) ?_
          refine ev_ret ?_
          refine leaf (r0 := boolA ((wholeB k) == (k == 13))) (r1 := boolA ((wholeB k) == (k == 13))) (.inr rfl) (by kernel_rfl) (by kernel_rfl) ?_
          refine congrArg boolA ?_
          refine beq_iff_eq.mpr ?_
          rw [Bool.eq_iff_iff]
          simp only [wholeB, decide_eq_true_eq, Bool.false_eq_true, Bool.true_eq_false, beq_iff_eq, beq_eq_false_iff_ne, decide_eq_false_iff_not, Bool.or_eq_true, Bool.and_eq_true, Bool.not_eq_true', ne_eq, true_iff, false_iff, iff_true, iff_false, Bool.or_eq_false_iff, Bool.and_eq_false_iff] at *
          omega
        ·
          refine rs_all (s1 := ⟨[intA .i64 k, undefA, boolA false, boolA true, boolA true, boolA true, boolA true, boolA false, intA .i64 k, boolA false, boolA false, intA .i64 k, boolA true, boolA true, intA .i64 k, boolA false, boolA false, boolA false, boolA false, intA .i64 k, boolA true, boolA true, boolA true, undefA, undefA, boolA true, undefA, undefA, undefA, undefA, undefA, undefA, undefA, undefA], ⟨[], 0⟩⟩) (fun cf => by kernel_rfl) ?_
          refine ev_seq ?_
          refine ev_reg (by kernel_rfl) ?_
          refine rs_take 4 (s1 := ⟨[intA .i64 k, undefA, boolA false, boolA true, boolA true, boolA true, boolA true, boolA false, intA .i64 k, boolA false, boolA false, intA .i64 k, boolA true, boolA true, intA .i64 k, boolA false, boolA false, boolA false, boolA false, intA .i64 k, boolA true, boolA true, boolA true, undefA, undefA, boolA true, boolA true, boolA true, intA .i64 k, .ag [intA .i64 k, .d (.v (.slice none 0 0)), intA .i64 0, intA .i64 0, intA .i64 0, .d (.v (.slice none 0 0)), .d (.v (.slice none 0 0)), .d (.v (.slice none 0 0)), .d (.v (.slice none 0 0))], undefA, undefA, undefA, undefA], ⟨[], 0⟩⟩) (fun cf => by kernel_rfl) ?_
          refine rs_pure (g := 5) (bs := [.ag [intA .i64 k, .d (.v (.slice none 0 0)), intA .i64 0, intA .i64 0, intA .i64 0, .d (.v (.slice none 0 0)), .d (.v (.slice none 0 0)), .d (.v (.slice none 0 0)), .d (.v (.slice none 0 0))]]) (ow := false) (r := boolA (wholeB k)) (s1 := ⟨[intA .i64 k, undefA, boolA false, boolA true, boolA true, boolA true, boolA true, boolA false, intA .i64 k, boolA false, boolA false, intA .i64 k, boolA true, boolA true, intA .i64 k, boolA false, boolA false, boolA false, boolA false, intA .i64 k, boolA true, boolA true, boolA true, undefA, undefA, boolA true, boolA true, boolA true, intA .i64 k, .ag [intA .i64 k, .d (.v (.slice none 0 0)), intA .i64 0, intA .i64 0, intA .i64 0, .d (.v (.slice none 0 0)), .d (.v (.slice none 0 0)), .d (.v (.slice none 0 0)), .d (.v (.slice none 0 0))], boolA (wholeB k), undefA, undefA, undefA], ⟨[], 0⟩⟩) (by kernel_rfl) (g_whole k) (by kernel_rfl) (by kernel_rfl) ?_
          refine rs_all (s1 := ⟨[intA .i64 k, undefA, boolA ((wholeB k) == true), boolA true, boolA true, boolA true, boolA true, boolA false, intA .i64 k, boolA false, boolA false, intA .i64 k, boolA true, boolA true, intA .i64 k, boolA false, boolA false, boolA false, boolA false, intA .i64 k, boolA true, boolA true, boolA true, undefA, undefA, boolA true, boolA true, boolA true, intA .i64 k, .ag [intA .i64 k, .d (.v (.slice none 0 0)), intA .i64 0, intA .i64 0, intA .i64 0, .d (.v (.slice none 0 0)), .d (.v (.slice none 0 0)), .d (.v (.slice none 0 0)), .d (.v (.slice none 0 0))], boolA (wholeB k), boolA true, boolA ((wholeB k) == true), boolA ((wholeB k) == true)], ⟨[], 0⟩⟩) (fun cf => by kernel_rfl) ?_
          refine ev_ret ?_
          refine leaf (r0 := boolA ((wholeB k) == true)) (r1 := boolA ((wholeB k) == true)) (.inr rfl) (by kernel_rfl) (by kernel_rfl) ?_
          refine congrArg boolA ?_
          refine beq_iff_eq.mpr ?_
          rw [Bool.eq_iff_iff]
          simp only [wholeB, decide_eq_true_eq, Bool.false_eq_true, Bool.true_eq_false, beq_iff_eq, beq_eq_false_iff_ne, decide_eq_false_iff_not, Bool.or_eq_true, Bool.and_eq_true, Bool.not_eq_true', ne_eq, true_iff, false_iff, iff_true, iff_false, Bool.or_eq_false_iff, Bool.and_eq_false_iff] at *
          omega
      ·
        refine rs_all (s1 := ⟨[intA .i64 k, undefA, boolA false, boolA true, boolA true, boolA true, boolA true, boolA false, intA .i64 k, boolA false, boolA false, intA .i64 k, boolA true, boolA true, intA .i64 k, boolA true, boolA true, boolA true, boolA true, undefA, undefA, boolA true, boolA true, undefA, undefA, boolA true, undefA, undefA, undefA, undefA, undefA, undefA, undefA, undefA], ⟨[], 0⟩⟩) (fun cf => by kernel_rfl) ?_
        refine ev_seq ?_
        refine ev_reg (by kernel_rfl) ?_
        refine rs_take 4 (s1 := ⟨[intA .i64 k, undefA, boolA false, boolA true, boolA true, boolA true, boolA true, boolA false, intA .i64 k, boolA false, boolA false, intA .i64 k, boolA true, boolA true, intA .i64 k, boolA true, boolA true, boolA true, boolA true, undefA, undefA, boolA true, boolA true, undefA, undefA, boolA true, boolA true, boolA true, intA .i64 k, .ag [intA .i64 k, .d (.v (.slice none 0 0)), intA .i64 0, intA .i64 0, intA .i64 0, .d (.v (.slice none 0 0)), .d (.v (.slice none 0 0)), .d (.v (.slice none 0 0)), .d (.v (.slice none 0 0))], undefA, undefA, undefA, undefA], ⟨[], 0⟩⟩) (fun cf => by kernel_rfl) ?_
        refine rs_pure (g := 5) (bs := [.ag [intA .i64 k, .d (.v (.slice none 0 0)), intA .i64 0, intA .i64 0, intA .i64 0, .d (.v (.slice none 0 0)), .d (.v (.slice none 0 0)), .d (.v (.slice none 0 0)), .d (.v (.slice none 0 0))]]) (ow := false) (r := boolA (wholeB k)) (s1 := ⟨[intA .i64 k, undefA, boolA false, boolA true, boolA true, boolA true, boolA true, boolA false, intA .i64 k, boolA false, boolA false, intA .i64 k, boolA true, boolA true, intA .i64 k, boolA true, boolA true, boolA true, boolA true, undefA, undefA, boolA true, boolA true, undefA, undefA, boolA true, boolA true, boolA true, intA .i64 k, .ag [intA .i64 k, .d (.v (.slice none 0 0)), intA .i64 0, intA .i64 0, intA .i64 0, .d (.v (.slice none 0 0)), .d (.v (.slice none 0 0)), .d (.v (.slice none 0 0)), .d (.v (.slice none 0 0))], boolA (wholeB k), undefA, undefA, undefA], ⟨[], 0⟩⟩) (by kernel_rfl) (g_whole k) (by kernel_rfl) (by kernel_rfl) ?_
        refine rs_all (s1 := ⟨[intA .i64 k, undefA, boolA ((wholeB k) == true), boolA true, boolA true, boolA true, boolA true, boolA false, intA .i64 k, boolA false, boolA false, intA .i64 k, boolA true, boolA true, intA .i64 k, boolA true, boolA true, boolA true, boolA true, undefA, undefA, boolA true, boolA true, undefA, undefA, boolA true, boolA true, boolA true, intA .i64 k, .ag [intA .i64 k, .d (.v (.slice none 0 0)), intA .i64 0, intA .i64 0, intA .i64 0, .d (.v (.slice none 0 0)), .d (.v (.slice none 0 0)), .d (.v (.slice none 0 0)), .d (.v (.slice none 0 0))], boolA (wholeB k), boolA true, boolA ((wholeB k) == true), boolA ((wholeB k) == true)], ⟨[], 0⟩⟩) (fun cf => by kernel_rfl) ?_
        refine ev_ret ?_
        refine leaf (r0 := boolA ((wholeB k) == true)) (r1 := boolA ((wholeB k) == true)) (.inr rfl) (by kernel_rfl) (by kernel_rfl) ?_
        refine congrArg boolA ?_
        refine beq_iff_eq.mpr ?_
        rw [Bool.eq_iff_iff]
        simp only [wholeB, decide_eq_true_eq, Bool.false_eq_true, Bool.true_eq_false, beq_iff_eq, beq_eq_false_iff_ne, decide_eq_false_iff_not, Bool.or_eq_true, Bool.and_eq_true, Bool.not_eq_true', ne_eq, true_iff, false_iff, iff_true, iff_false, Bool.or_eq_false_iff, Bool.and_eq_false_iff] at *
        omega
  ·
    refine rs_all (s1 := ⟨[intA .i64 k, undefA, boolA false, boolA true, boolA true, boolA true, boolA true, boolA false, intA .i64 k, boolA true, boolA true, undefA, undefA, undefA, undefA, undefA, undefA, boolA true, boolA true, undefA, undefA, boolA true, boolA true, undefA, undefA, boolA true, undefA, undefA, undefA, undefA, undefA, undefA, undefA, undefA], ⟨[], 0⟩⟩) (fun cf => by kernel_rfl) ?_
    refine ev_seq ?_
    refine ev_reg (by kernel_rfl) ?_
    refine rs_take 4 (s1 := ⟨[intA .i64 k, undefA, boolA false, boolA true, boolA true, boolA true, boolA true, boolA false, intA .i64 k, boolA true, boolA true, undefA, undefA, undefA, undefA, undefA, undefA, boolA true, boolA true, undefA, undefA, boolA true, boolA true, undefA, undefA, boolA true, boolA true, boolA true, intA .i64 k, .ag [intA .i64 k, .d (.v (.slice none 0 0)), intA .i64 0, intA .i64 0, intA .i64 0, .d (.v (.slice none 0 0)), .d (.v (.slice none 0 0)), .d (.v (.slice none 0 0)), .d (.v (.slice none 0 0))], undefA, undefA, undefA, undefA], ⟨[], 0⟩⟩) (fun cf => by kernel_rfl) ?_
    refine rs_pure (g := 5) (bs := [.ag [intA .i64 k, .d (.v (.slice none 0 0)), intA .i64 0, intA .i64 0, intA .i64 0, .d (.v (.slice none 0 0)), .d (.v (.slice none 0 0)), .d (.v (.slice none 0 0)), .d (.v (.slice none 0 0))]]) (ow := false) (r := boolA (wholeB k)) (s1 := ⟨[intA .i64 k, undefA, boolA false, boolA true, boolA true, boolA true, boolA true, boolA false, intA .i64 k, boolA true, boolA true, undefA, undefA, undefA, undefA, undefA, undefA, boolA true, boolA true, undefA, undefA, boolA true, boolA true, undefA, undefA, boolA true, boolA true, boolA true, intA .i64 k, .ag [intA .i64 k, .d (.v (.slice none 0 0)), intA .i64 0, intA .i64 0, intA .i64 0, .d (.v (.slice none 0 0)), .d (.v (.slice none 0 0)), .d (.v (.slice none 0 0)), .d (.v (.slice none 0 0))], boolA (wholeB k), undefA, undefA, undefA], ⟨[], 0⟩⟩) (by kernel_rfl) (g_whole k) (by kernel_rfl) (by kernel_rfl) ?_
    refine rs_all (s1 := ⟨[intA .i64 k, undefA, boolA ((wholeB k) == true), boolA true, boolA true, boolA true, boolA true, boolA false, intA .i64 k, boolA true, boolA true, undefA, undefA, undefA, undefA, undefA, undefA, boolA true, boolA true, undefA, undefA, boolA true, boolA true, undefA, undefA, boolA true, boolA true, boolA true, intA .i64 k, .ag [intA .i64 k, .d (.v (.slice none 0 0)), intA .i64 0, intA .i64 0, intA .i64 0, .d (.v (.slice none 0 0)), .d (.v (.slice none 0 0)), .d (.v (.slice none 0 0)), .d (.v (.slice none 0 0))], boolA (wholeB k), boolA true, boolA ((wholeB k) == true), boolA ((wholeB k) == true)], ⟨[], 0⟩⟩) (fun cf => by kernel_rfl) ?_
    refine ev_ret ?_
    refine leaf (r0 := boolA ((wholeB k) == true)) (r1 := boolA ((wholeB k) == true)) (.inr rfl) (by kernel_rfl) (by kernel_rfl) ?_
    refine congrArg boolA ?_
    refine beq_iff_eq.mpr ?_
    rw [Bool.eq_iff_iff]
    simp only [wholeB, decide_eq_true_eq, Bool.false_eq_true, Bool.true_eq_false, beq_iff_eq, beq_eq_false_iff_ne, decide_eq_false_iff_not, Bool.or_eq_true, Bool.and_eq_true, Bool.not_eq_true', ne_eq, true_iff, false_iff, iff_true, iff_false, Bool.or_eq_false_iff, Bool.and_eq_false_iff] at *
    omega

end Go.Proofs.Ytggnfpiejddhnaa
