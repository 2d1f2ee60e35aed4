/-
  What the functions of one and of two monomials give, found by walking through their code. Made by program. Conditions: exponents from 0 to 65535 where a theorem says so.
-/
import Derived.Test.YtcnpldkadgloiaaCtx
set_option maxRecDepth 100000
set_option maxHeartbeats 20000000
set_option linter.unusedSimpArgs false
set_option linter.unusedVariables false
namespace Go.Proofs.Ytcnpldkadgloiaa
open Go.Am

def Mc (f : Nat → Int) : List AV := [J (f 0), J (f 1), J (f 2), J (f 3), J (f 4), J (f 5), J (f 6), J (f 7)]
def Mu (f : Nat → Int) : List AV := [intA .u16 (f 0), intA .u16 (f 1), intA .u16 (f 2), intA .u16 (f 3), intA .u16 (f 4), intA .u16 (f 5), intA .u16 (f 6), intA .u16 (f 7)]
abbrev Ag (f : Nat → Int) : AV := .ag (Mc f)
def eqE (a b : Nat → Int) : Bool := (a 0 == b 0 && (a 1 == b 1 && (a 2 == b 2 && (a 3 == b 3 && (a 4 == b 4 && (a 5 == b 5 && (a 6 == b 6 && (a 7 == b 7 && true))))))))
def InR (a : Nat → Int) : Prop := ∀ i, i < 8 → 0 ≤ a i ∧ a i ≤ 65535
def zeroM : Nat → Int := fun _ => 0
def addM (a b : Nat → Int) (i : Nat) : Int := a i + b i
def subM (a b : Nat → Int) (i : Nat) : Int := a i - b i
def lcmM (a b : Nat → Int) (i : Nat) : Int := if b i > a i then b i else a i
def gcdM (a b : Nat → Int) (i : Nat) : Int := if b i < a i then b i else a i
def validB (a : Nat → Int) : Bool := decide (0 ≤ a 0 ∧ a 0 ≤ 65535 ∧ 0 ≤ a 1 ∧ a 1 ≤ 65535 ∧ 0 ≤ a 2 ∧ a 2 ≤ 65535 ∧ 0 ≤ a 3 ∧ a 3 ≤ 65535 ∧ 0 ≤ a 4 ∧ a 4 ≤ 65535 ∧ 0 ≤ a 5 ∧ a 5 ≤ 65535 ∧ 0 ≤ a 6 ∧ a 6 ≤ 65535 ∧ 0 ≤ a 7 ∧ a 7 ≤ 65535)
def dvdB (a b : Nat → Int) : Bool := decide (a 0 ≤ b 0 ∧ a 1 ≤ b 1 ∧ a 2 ≤ b 2 ∧ a 3 ≤ b 3 ∧ a 4 ≤ b 4 ∧ a 5 ≤ b 5 ∧ a 6 ≤ b 6 ∧ a 7 ≤ b 7)
def eqB (a b : Nat → Int) : Bool := decide (a 0 = b 0 ∧ a 1 = b 1 ∧ a 2 = b 2 ∧ a 3 = b 3 ∧ a 4 = b 4 ∧ a 5 = b 5 ∧ a 6 = b 6 ∧ a 7 = b 7)
def cmpI (x y : Int) : Int := if x < y then -1 else if x > y then 1 else 0
def cmpM (a b : Nat → Int) : Int := if a 0 < b 0 then -1 else if a 0 > b 0 then 1 else if a 1 < b 1 then -1 else if a 1 > b 1 then 1 else if a 2 < b 2 then -1 else if a 2 > b 2 then 1 else if a 3 < b 3 then -1 else if a 3 > b 3 then 1 else if a 4 < b 4 then -1 else if a 4 > b 4 then 1 else if a 5 < b 5 then -1 else if a 5 > b 5 then 1 else if a 6 < b 6 then -1 else if a 6 > b 6 then 1 else if a 7 < b 7 then -1 else if a 7 > b 7 then 1 else 0
def degM (a : Nat → Int) : Int := a 0 + a 1 + a 2 + a 3 + a 4 + a 5 + a 6 + a 7
theorem inr_zero : InR zeroM := fun i _ => by simp [zeroM]
theorem inr_lcm {a b : Nat → Int} (ha : InR a) (hb : InR b) : InR (lcmM a b) := fun i hi => by have h1 := ha i hi; have h2 := hb i hi; unfold lcmM; omega
theorem inr_gcd {a b : Nat → Int} (ha : InR a) (hb : InR b) : InR (gcdM a b) := fun i hi => by have h1 := ha i hi; have h2 := hb i hi; unfold gcdM; omega
theorem inr_valid {a : Nat → Int} (h : validB a = true) : InR a := fun i hi => by
  simp only [validB, decide_eq_true_eq] at h
  have : i = 0 ∨ i = 1 ∨ i = 2 ∨ i = 3 ∨ i = 4 ∨ i = 5 ∨ i = 6 ∨ i = 7 := by omega
  rcases this with rfl | rfl | rfl | rfl | rfl | rfl | rfl | rfl <;> omega
theorem inr_sub {a b : Nat → Int} (ha : InR a) (hb : InR b) (h : dvdB b a = true) : InR (subM a b) := fun i hi => by
  simp only [dvdB, decide_eq_true_eq] at h
  have h1 := ha i hi
  have h2 := hb i hi
  have : i = 0 ∨ i = 1 ∨ i = 2 ∨ i = 3 ∨ i = 4 ∨ i = 5 ∨ i = 6 ∨ i = 7 := by omega
  unfold subM
  rcases this with rfl | rfl | rfl | rfl | rfl | rfl | rfl | rfl <;> omega
theorem wrap64 {n : Int} (h1 : -9223372036854775808 ≤ n) (h2 : n ≤ 9223372036854775807) : IntKind.wrap .i64 n = n := by
  simp [IntKind.wrap, IntKind.bits, IntKind.signed]; omega

theorem g_nan (x : Int) : Gets Try.cx 58 [intA .i64 x] (boolA false) := by
  have h : Gets Try.cx 58 [intA .i64 x] (boolA (x != x)) := gets_run 20 (by kernel_rfl)
  rw [bne_self_eq_false] at h
  exact h

theorem g_cmp (x y : Int) : Gets Try.cx 54 [J x, J y] (intA .i64 (cmpI x y)) := by
  refine gets_of (fn := Try.f54) (by kernel_rfl) rfl ?_
  show EvK _ _ _ ⟨[J x, J y] ++ us 18, ⟨[], 0⟩⟩ _
  refine ev_seq ?_
  refine ev_reg (by kernel_rfl) ?_
  refine rs_all (s1 := ⟨[J x, J y, U, U, J 0] ++ us 15, ⟨[], 0⟩⟩) (fun cf => by kernel_rfl) ?_
  refine ev_seq ?_
  refine ev_reg (by kernel_rfl) ?_
  refine rs_take 1 (s1 := ⟨[J x, J y, U, U, J 0, U, U, J x] ++ us 12, ⟨[], 0⟩⟩) (fun cf => by kernel_rfl) ?_
  refine rs_pure (g := 58) (bs := [J x]) (ow := false) (r := No) (s1 := ⟨[J x, J y, U, U, J 0, U, U, J x, No] ++ us 11, ⟨[], 0⟩⟩) (by kernel_rfl) (g_nan x) (by kernel_rfl) (by kernel_rfl) ?_
  refine rs_all (s1 := ⟨[J x, J y, U, U, J 0, No, U, J x, No] ++ us 11, ⟨[], 0⟩⟩) (fun cf => by kernel_rfl) ?_
  refine ev_seq ?_
  refine ev_reg (by kernel_rfl) ?_
  refine rs_take 1 (s1 := ⟨[J x, J y, U, U, J 0, No, U, J x, No, J y] ++ us 10, ⟨[], 0⟩⟩) (fun cf => by kernel_rfl) ?_
  refine rs_pure (g := 58) (bs := [J y]) (ow := false) (r := No) (s1 := ⟨[J x, J y, U, U, J 0, No, U, J x, No, J y, No] ++ us 9, ⟨[], 0⟩⟩) (by kernel_rfl) (g_nan y) (by kernel_rfl) (by kernel_rfl) ?_
  refine rs_all (s1 := ⟨[J x, J y, U, U, J 0, No, No, J x, No, J y, No] ++ us 9, ⟨[], 0⟩⟩) (fun cf => by kernel_rfl) ?_
  refine ev_seq ?_
  refine ev_seq ?_
  refine ev_reg (by kernel_rfl) ?_
  refine rs_all (s1 := ⟨[J x, J y, U, U, J 0, No, No, J x, No, J y, No, No] ++ us 8, ⟨[], 0⟩⟩) (fun cf => by kernel_rfl) ?_
  refine ev_false (by kernel_rfl) ?_
  refine ev_skip ?_
  refine ev_seq ?_
  refine ev_seq ?_
  refine ev_reg (by kernel_rfl) ?_
  refine rs_all (s1 := ⟨[J x, J y, U, U, J 0, No, No, J x, No, J y, No, No, U, No] ++ us 6, ⟨[], 0⟩⟩) (fun cf => by kernel_rfl) ?_
  refine ev_false (by kernel_rfl) ?_
  refine ev_skip ?_
  refine ev_seq ?_
  refine ev_seq ?_
  refine ev_reg (by kernel_rfl) ?_
  refine rs_all (s1 := ⟨[J x, J y, U, U, J 0, No, No, J x, No, J y, No, No, U, No, J x, J y, boolA (decide (x < y))] ++ us 3, ⟨[], 0⟩⟩) (fun cf => by kernel_rfl) ?_
  rcases hb1 : ((decide (x < y)) : Bool) with _ | _
  ·
    refine ev_false (by kernel_rfl) ?_
    refine ev_skip ?_
    refine ev_seq ?_
    refine ev_seq ?_
    refine ev_reg (by kernel_rfl) ?_
    refine rs_all (s1 := ⟨[J x, J y, U, U, J 0, No, No, J x, No, J y, No, No, U, No, J x, J y, No, J x, J y, boolA (decide (x > y))], ⟨[], 0⟩⟩) (fun cf => by kernel_rfl) ?_
    rcases hb2 : ((decide (x > y)) : Bool) with _ | _
    ·
      refine ev_false (by kernel_rfl) ?_
      refine ev_skip ?_
      refine ev_seq ?_
      refine ev_reg (by kernel_rfl) ?_
      refine rs_all (s1 := ⟨[J x, J y, U, U, J 0, No, No, J x, No, J y, No, No, U, No, J x, J y, No, J x, J y, No], ⟨[], 0⟩⟩) (fun cf => by kernel_rfl) ?_
      refine ev_ret ?_
      refine leaf (r0 := J 0) (r1 := J 0) (.inr rfl) (by kernel_rfl) (by kernel_rfl) ?_
      refine congrArg (intA .i64) ?_
      simp only [cmpI, decide_eq_true_eq, decide_eq_false_iff_not] at *
      omega
    ·
      refine ev_true (by kernel_rfl) ?_
      refine ev_seq ?_
      refine ev_reg (by kernel_rfl) ?_
      refine rs_all (s1 := ⟨[J x, J y, U, U, J 1, No, No, J x, No, J y, No, No, U, No, J x, J y, No, J x, J y, Yes], ⟨[], 0⟩⟩) (fun cf => by kernel_rfl) ?_
      refine ev_ret ?_
      refine leaf (r0 := J 1) (r1 := J 1) (.inr rfl) (by kernel_rfl) (by kernel_rfl) ?_
      refine congrArg (intA .i64) ?_
      simp only [cmpI, decide_eq_true_eq, decide_eq_false_iff_not] at *
      omega
  ·
    refine ev_true (by kernel_rfl) ?_
    refine ev_seq ?_
    refine ev_reg (by kernel_rfl) ?_
    refine rs_all (s1 := ⟨[J x, J y, U, U, J (-1), No, No, J x, No, J y, No, No, U, No, J x, J y, Yes] ++ us 3, ⟨[], 0⟩⟩) (fun cf => by kernel_rfl) ?_
    refine ev_ret ?_
    refine leaf (r0 := J (-1)) (r1 := J (-1)) (.inr rfl) (by kernel_rfl) (by kernel_rfl) ?_
    refine congrArg (intA .i64) ?_
    simp only [cmpI, decide_eq_true_eq, decide_eq_false_iff_not] at *
    omega

theorem g_valid (a : Nat → Int) : Gets Try.cx 29 [Ag a] (boolA (validB a)) := by
  refine gets_of (fn := Try.f29) (by kernel_rfl) rfl ?_
  show EvK _ _ _ ⟨[Ag a] ++ us 15, ⟨[], 0⟩⟩ _
  refine ev_seq ?_
  refine ev_reg (by kernel_rfl) ?_
  refine rs_all (s1 := ⟨[Ag a, .ptr 0 0 0, No] ++ us 13, ⟨[.row (Mc a) 0 .ow none], 1⟩⟩) (fun cf => by kernel_rfl) ?_
  refine ev_seq ?_
  refine ev_seq ?_
  refine ev_reg (by kernel_rfl) ?_
  refine rs_all (s1 := ⟨[Ag a, .ptr 0 0 0, No, U, U, Ag a, J 0] ++ us 9, ⟨[.row (Mc a) 0 .ow none], 1⟩⟩) (fun cf => by kernel_rfl) ?_
  refine ev_block ?_
  refine ev_loop ?_
  refine ev_seq ?_
  refine ev_reg (by kernel_rfl) ?_
  refine rs_all (s1 := ⟨[Ag a, .ptr 0 0 0, No, U, U, Ag a, J 0, Yes] ++ us 8, ⟨[.row (Mc a) 0 .ow none], 1⟩⟩) (fun cf => by kernel_rfl) ?_
  refine ev_seq ?_
  refine ev_true (by kernel_rfl) ?_
  refine ev_skip ?_
  refine ev_seq ?_
  refine ev_block ?_
  refine ev_seq ?_
  refine ev_reg (by kernel_rfl) ?_
  refine rs_all (s1 := ⟨[Ag a, .ptr 0 0 0, No, U, J (a 0), Ag a, J 0, Yes, J (a 0)] ++ us 7, ⟨[.row (Mc a) 0 .ow none], 1⟩⟩) (fun cf => by kernel_rfl) ?_
  refine ev_seq ?_
  refine ev_reg (by kernel_rfl) ?_
  refine rs_take 3 (s1 := ⟨[Ag a, .ptr 0 0 0, No, U, J (a 0), Ag a, J 0, Yes, J (a 0), J (a 0), boolA (decide ((a 0) < 0)), boolA (decide ((a 0) < 0))] ++ us 4, ⟨[.row (Mc a) 0 .ow none], 1⟩⟩) (fun cf => by kernel_rfl) ?_
  rcases hb1 : ((decide ((a 0) < 0)) : Bool) with _ | _
  ·
    refine rs_all (s1 := ⟨[Ag a, .ptr 0 0 0, No, U, J (a 0), Ag a, J 0, Yes, J (a 0), J (a 0), No, No, J (a 0), boolA (decide ((a 0) > 65535)), boolA (decide ((a 0) > 65535)), U], ⟨[.row (Mc a) 0 .ow none], 1⟩⟩) (fun cf => by kernel_rfl) ?_
    rcases hb2 : ((decide ((a 0) > 65535)) : Bool) with _ | _
    ·
      refine ev_false (by kernel_rfl) ?_
      refine ev_skip ?_
      refine ev_reg (by kernel_rfl) ?_
      refine rs_all (s1 := ⟨[Ag a, .ptr 0 0 0, No, U, J (a 0), Ag a, J 1, Yes, J (a 0), J (a 0), No, No, J (a 0), No, No, J 1], ⟨[.row (Mc a) 0 .ow none], 1⟩⟩) (fun cf => by kernel_rfl) ?_
      refine ev_loop ?_
      refine ev_seq ?_
      refine ev_reg (by kernel_rfl) ?_
      refine rs_all (s1 := ⟨[Ag a, .ptr 0 0 0, No, U, J (a 0), Ag a, J 1, Yes, J (a 0), J (a 0), No, No, J (a 0), No, No, J 1], ⟨[.row (Mc a) 0 .ow none], 1⟩⟩) (fun cf => by kernel_rfl) ?_
      refine ev_seq ?_
      refine ev_true (by kernel_rfl) ?_
      refine ev_skip ?_
      refine ev_seq ?_
      refine ev_block ?_
      refine ev_seq ?_
      refine ev_reg (by kernel_rfl) ?_
      refine rs_all (s1 := ⟨[Ag a, .ptr 0 0 0, No, U, J (a 1), Ag a, J 1, Yes, J (a 1), J (a 0), No, No, J (a 0), No, No, J 1], ⟨[.row (Mc a) 0 .ow none], 1⟩⟩) (fun cf => by kernel_rfl) ?_
      refine ev_seq ?_
      refine ev_reg (by kernel_rfl) ?_
      refine rs_take 3 (s1 := ⟨[Ag a, .ptr 0 0 0, No, U, J (a 1), Ag a, J 1, Yes, J (a 1), J (a 1), boolA (decide ((a 1) < 0)), boolA (decide ((a 1) < 0)), J (a 0), No, No, J 1], ⟨[.row (Mc a) 0 .ow none], 1⟩⟩) (fun cf => by kernel_rfl) ?_
      rcases hb3 : ((decide ((a 1) < 0)) : Bool) with _ | _
      ·
        refine rs_all (s1 := ⟨[Ag a, .ptr 0 0 0, No, U, J (a 1), Ag a, J 1, Yes, J (a 1), J (a 1), No, No, J (a 1), boolA (decide ((a 1) > 65535)), boolA (decide ((a 1) > 65535)), J 1], ⟨[.row (Mc a) 0 .ow none], 1⟩⟩) (fun cf => by kernel_rfl) ?_
        rcases hb4 : ((decide ((a 1) > 65535)) : Bool) with _ | _
        ·
          refine ev_false (by kernel_rfl) ?_
          refine ev_skip ?_
          refine ev_reg (by kernel_rfl) ?_
          refine rs_all (s1 := ⟨[Ag a, .ptr 0 0 0, No, U, J (a 1), Ag a, J 2, Yes, J (a 1), J (a 1), No, No, J (a 1), No, No, J 2], ⟨[.row (Mc a) 0 .ow none], 1⟩⟩) (fun cf => by kernel_rfl) ?_
          refine ev_loop ?_
          refine ev_seq ?_
          refine ev_reg (by kernel_rfl) ?_
          refine rs_all (s1 := ⟨[Ag a, .ptr 0 0 0, No, U, J (a 1), Ag a, J 2, Yes, J (a 1), J (a 1), No, No, J (a 1), No, No, J 2], ⟨[.row (Mc a) 0 .ow none], 1⟩⟩) (fun cf => by kernel_rfl) ?_
          refine ev_seq ?_
          refine ev_true (by kernel_rfl) ?_
          refine ev_skip ?_
          refine ev_seq ?_
          refine ev_block ?_
          refine ev_seq ?_
          refine ev_reg (by kernel_rfl) ?_
          refine rs_all (s1 := ⟨[Ag a, .ptr 0 0 0, No, U, J (a 2), Ag a, J 2, Yes, J (a 2), J (a 1), No, No, J (a 1), No, No, J 2], ⟨[.row (Mc a) 0 .ow none], 1⟩⟩) (fun cf => by kernel_rfl) ?_
          refine ev_seq ?_
          refine ev_reg (by kernel_rfl) ?_
          refine rs_take 3 (s1 := ⟨[Ag a, .ptr 0 0 0, No, U, J (a 2), Ag a, J 2, Yes, J (a 2), J (a 2), boolA (decide ((a 2) < 0)), boolA (decide ((a 2) < 0)), J (a 1), No, No, J 2], ⟨[.row (Mc a) 0 .ow none], 1⟩⟩) (fun cf => by kernel_rfl) ?_
          rcases hb5 : ((decide ((a 2) < 0)) : Bool) with _ | _
          ·
            refine rs_all (s1 := ⟨[Ag a, .ptr 0 0 0, No, U, J (a 2), Ag a, J 2, Yes, J (a 2), J (a 2), No, No, J (a 2), boolA (decide ((a 2) > 65535)), boolA (decide ((a 2) > 65535)), J 2], ⟨[.row (Mc a) 0 .ow none], 1⟩⟩) (fun cf => by kernel_rfl) ?_
            rcases hb6 : ((decide ((a 2) > 65535)) : Bool) with _ | _
            ·
              refine ev_false (by kernel_rfl) ?_
              refine ev_skip ?_
              refine ev_reg (by kernel_rfl) ?_
              refine rs_all (s1 := ⟨[Ag a, .ptr 0 0 0, No, U, J (a 2), Ag a, J 3, Yes, J (a 2), J (a 2), No, No, J (a 2), No, No, J 3], ⟨[.row (Mc a) 0 .ow none], 1⟩⟩) (fun cf => by kernel_rfl) ?_
              refine ev_loop ?_
              refine ev_seq ?_
              refine ev_reg (by kernel_rfl) ?_
              refine rs_all (s1 := ⟨[Ag a, .ptr 0 0 0, No, U, J (a 2), Ag a, J 3, Yes, J (a 2), J (a 2), No, No, J (a 2), No, No, J 3], ⟨[.row (Mc a) 0 .ow none], 1⟩⟩) (fun cf => by kernel_rfl) ?_
              refine ev_seq ?_
              refine ev_true (by kernel_rfl) ?_
              refine ev_skip ?_
              refine ev_seq ?_
              refine ev_block ?_
              refine ev_seq ?_
              refine ev_reg (by kernel_rfl) ?_
              refine rs_all (s1 := ⟨[Ag a, .ptr 0 0 0, No, U, J (a 3), Ag a, J 3, Yes, J (a 3), J (a 2), No, No, J (a 2), No, No, J 3], ⟨[.row (Mc a) 0 .ow none], 1⟩⟩) (fun cf => by kernel_rfl) ?_
              refine ev_seq ?_
              refine ev_reg (by kernel_rfl) ?_
              refine rs_take 3 (s1 := ⟨[Ag a, .ptr 0 0 0, No, U, J (a 3), Ag a, J 3, Yes, J (a 3), J (a 3), boolA (decide ((a 3) < 0)), boolA (decide ((a 3) < 0)), J (a 2), No, No, J 3], ⟨[.row (Mc a) 0 .ow none], 1⟩⟩) (fun cf => by kernel_rfl) ?_
              rcases hb7 : ((decide ((a 3) < 0)) : Bool) with _ | _
              ·
                refine rs_all (s1 := ⟨[Ag a, .ptr 0 0 0, No, U, J (a 3), Ag a, J 3, Yes, J (a 3), J (a 3), No, No, J (a 3), boolA (decide ((a 3) > 65535)), boolA (decide ((a 3) > 65535)), J 3], ⟨[.row (Mc a) 0 .ow none], 1⟩⟩) (fun cf => by kernel_rfl) ?_
                rcases hb8 : ((decide ((a 3) > 65535)) : Bool) with _ | _
                ·
                  refine ev_false (by kernel_rfl) ?_
                  refine ev_skip ?_
                  refine ev_reg (by kernel_rfl) ?_
                  refine rs_all (s1 := ⟨[Ag a, .ptr 0 0 0, No, U, J (a 3), Ag a, J 4, Yes, J (a 3), J (a 3), No, No, J (a 3), No, No, J 4], ⟨[.row (Mc a) 0 .ow none], 1⟩⟩) (fun cf => by kernel_rfl) ?_
                  refine ev_loop ?_
                  refine ev_seq ?_
                  refine ev_reg (by kernel_rfl) ?_
                  refine rs_all (s1 := ⟨[Ag a, .ptr 0 0 0, No, U, J (a 3), Ag a, J 4, Yes, J (a 3), J (a 3), No, No, J (a 3), No, No, J 4], ⟨[.row (Mc a) 0 .ow none], 1⟩⟩) (fun cf => by kernel_rfl) ?_
                  refine ev_seq ?_
                  refine ev_true (by kernel_rfl) ?_
                  refine ev_skip ?_
                  refine ev_seq ?_
                  refine ev_block ?_
                  refine ev_seq ?_
                  refine ev_reg (by kernel_rfl) ?_
                  refine rs_all (s1 := ⟨[Ag a, .ptr 0 0 0, No, U, J (a 4), Ag a, J 4, Yes, J (a 4), J (a 3), No, No, J (a 3), No, No, J 4], ⟨[.row (Mc a) 0 .ow none], 1⟩⟩) (fun cf => by kernel_rfl) ?_
                  refine ev_seq ?_
                  refine ev_reg (by kernel_rfl) ?_
                  refine rs_take 3 (s1 := ⟨[Ag a, .ptr 0 0 0, No, U, J (a 4), Ag a, J 4, Yes, J (a 4), J (a 4), boolA (decide ((a 4) < 0)), boolA (decide ((a 4) < 0)), J (a 3), No, No, J 4], ⟨[.row (Mc a) 0 .ow none], 1⟩⟩) (fun cf => by kernel_rfl) ?_
                  rcases hb9 : ((decide ((a 4) < 0)) : Bool) with _ | _
                  ·
                    refine rs_all (s1 := ⟨[Ag a, .ptr 0 0 0, No, U, J (a 4), Ag a, J 4, Yes, J (a 4), J (a 4), No, No, J (a 4), boolA (decide ((a 4) > 65535)), boolA (decide ((a 4) > 65535)), J 4], ⟨[.row (Mc a) 0 .ow none], 1⟩⟩) (fun cf => by kernel_rfl) ?_
                    rcases hb10 : ((decide ((a 4) > 65535)) : Bool) with _ | _
                    ·
                      refine ev_false (by kernel_rfl) ?_
                      refine ev_skip ?_
                      refine ev_reg (by kernel_rfl) ?_
                      refine rs_all (s1 := ⟨[Ag a, .ptr 0 0 0, No, U, J (a 4), Ag a, J 5, Yes, J (a 4), J (a 4), No, No, J (a 4), No, No, J 5], ⟨[.row (Mc a) 0 .ow none], 1⟩⟩) (fun cf => by kernel_rfl) ?_
                      refine ev_loop ?_
                      refine ev_seq ?_
                      refine ev_reg (by kernel_rfl) ?_
                      refine rs_all (s1 := ⟨[Ag a, .ptr 0 0 0, No, U, J (a 4), Ag a, J 5, Yes, J (a 4), J (a 4), No, No, J (a 4), No, No, J 5], ⟨[.row (Mc a) 0 .ow none], 1⟩⟩) (fun cf => by kernel_rfl) ?_
                      refine ev_seq ?_
                      refine ev_true (by kernel_rfl) ?_
                      refine ev_skip ?_
                      refine ev_seq ?_
                      refine ev_block ?_
                      refine ev_seq ?_
                      refine ev_reg (by kernel_rfl) ?_
                      refine rs_all (s1 := ⟨[Ag a, .ptr 0 0 0, No, U, J (a 5), Ag a, J 5, Yes, J (a 5), J (a 4), No, No, J (a 4), No, No, J 5], ⟨[.row (Mc a) 0 .ow none], 1⟩⟩) (fun cf => by kernel_rfl) ?_
                      refine ev_seq ?_
                      refine ev_reg (by kernel_rfl) ?_
                      refine rs_take 3 (s1 := ⟨[Ag a, .ptr 0 0 0, No, U, J (a 5), Ag a, J 5, Yes, J (a 5), J (a 5), boolA (decide ((a 5) < 0)), boolA (decide ((a 5) < 0)), J (a 4), No, No, J 5], ⟨[.row (Mc a) 0 .ow none], 1⟩⟩) (fun cf => by kernel_rfl) ?_
                      rcases hb11 : ((decide ((a 5) < 0)) : Bool) with _ | _
                      ·
                        refine rs_all (s1 := ⟨[Ag a, .ptr 0 0 0, No, U, J (a 5), Ag a, J 5, Yes, J (a 5), J (a 5), No, No, J (a 5), boolA (decide ((a 5) > 65535)), boolA (decide ((a 5) > 65535)), J 5], ⟨[.row (Mc a) 0 .ow none], 1⟩⟩) (fun cf => by kernel_rfl) ?_
                        rcases hb12 : ((decide ((a 5) > 65535)) : Bool) with _ | _
                        ·
                          refine ev_false (by kernel_rfl) ?_
                          refine ev_skip ?_
                          refine ev_reg (by kernel_rfl) ?_
                          refine rs_all (s1 := ⟨[Ag a, .ptr 0 0 0, No, U, J (a 5), Ag a, J 6, Yes, J (a 5), J (a 5), No, No, J (a 5), No, No, J 6], ⟨[.row (Mc a) 0 .ow none], 1⟩⟩) (fun cf => by kernel_rfl) ?_
                          refine ev_loop ?_
                          refine ev_seq ?_
                          refine ev_reg (by kernel_rfl) ?_
                          refine rs_all (s1 := ⟨[Ag a, .ptr 0 0 0, No, U, J (a 5), Ag a, J 6, Yes, J (a 5), J (a 5), No, No, J (a 5), No, No, J 6], ⟨[.row (Mc a) 0 .ow none], 1⟩⟩) (fun cf => by kernel_rfl) ?_
                          refine ev_seq ?_
                          refine ev_true (by kernel_rfl) ?_
                          refine ev_skip ?_
                          refine ev_seq ?_
                          refine ev_block ?_
                          refine ev_seq ?_
                          refine ev_reg (by kernel_rfl) ?_
                          refine rs_all (s1 := ⟨[Ag a, .ptr 0 0 0, No, U, J (a 6), Ag a, J 6, Yes, J (a 6), J (a 5), No, No, J (a 5), No, No, J 6], ⟨[.row (Mc a) 0 .ow none], 1⟩⟩) (fun cf => by kernel_rfl) ?_
                          refine ev_seq ?_
                          refine ev_reg (by kernel_rfl) ?_
                          refine rs_take 3 (s1 := ⟨[Ag a, .ptr 0 0 0, No, U, J (a 6), Ag a, J 6, Yes, J (a 6), J (a 6), boolA (decide ((a 6) < 0)), boolA (decide ((a 6) < 0)), J (a 5), No, No, J 6], ⟨[.row (Mc a) 0 .ow none], 1⟩⟩) (fun cf => by kernel_rfl) ?_
                          rcases hb13 : ((decide ((a 6) < 0)) : Bool) with _ | _
                          ·
                            refine rs_all (s1 := ⟨[Ag a, .ptr 0 0 0, No, U, J (a 6), Ag a, J 6, Yes, J (a 6), J (a 6), No, No, J (a 6), boolA (decide ((a 6) > 65535)), boolA (decide ((a 6) > 65535)), J 6], ⟨[.row (Mc a) 0 .ow none], 1⟩⟩) (fun cf => by kernel_rfl) ?_
                            rcases hb14 : ((decide ((a 6) > 65535)) : Bool) with _ | _
                            ·
                              refine ev_false (by kernel_rfl) ?_
                              refine ev_skip ?_
                              refine ev_reg (by kernel_rfl) ?_
                              refine rs_all (s1 := ⟨[Ag a, .ptr 0 0 0, No, U, J (a 6), Ag a, J 7, Yes, J (a 6), J (a 6), No, No, J (a 6), No, No, J 7], ⟨[.row (Mc a) 0 .ow none], 1⟩⟩) (fun cf => by kernel_rfl) ?_
                              refine ev_loop ?_
                              refine ev_seq ?_
                              refine ev_reg (by kernel_rfl) ?_
                              refine rs_all (s1 := ⟨[Ag a, .ptr 0 0 0, No, U, J (a 6), Ag a, J 7, Yes, J (a 6), J (a 6), No, No, J (a 6), No, No, J 7], ⟨[.row (Mc a) 0 .ow none], 1⟩⟩) (fun cf => by kernel_rfl) ?_
                              refine ev_seq ?_
                              refine ev_true (by kernel_rfl) ?_
                              refine ev_skip ?_
                              refine ev_seq ?_
                              refine ev_block ?_
                              refine ev_seq ?_
                              refine ev_reg (by kernel_rfl) ?_
                              refine rs_all (s1 := ⟨[Ag a, .ptr 0 0 0, No, U, J (a 7), Ag a, J 7, Yes, J (a 7), J (a 6), No, No, J (a 6), No, No, J 7], ⟨[.row (Mc a) 0 .ow none], 1⟩⟩) (fun cf => by kernel_rfl) ?_
                              refine ev_seq ?_
                              refine ev_reg (by kernel_rfl) ?_
                              refine rs_take 3 (s1 := ⟨[Ag a, .ptr 0 0 0, No, U, J (a 7), Ag a, J 7, Yes, J (a 7), J (a 7), boolA (decide ((a 7) < 0)), boolA (decide ((a 7) < 0)), J (a 6), No, No, J 7], ⟨[.row (Mc a) 0 .ow none], 1⟩⟩) (fun cf => by kernel_rfl) ?_
                              rcases hb15 : ((decide ((a 7) < 0)) : Bool) with _ | _
                              ·
                                refine rs_all (s1 := ⟨[Ag a, .ptr 0 0 0, No, U, J (a 7), Ag a, J 7, Yes, J (a 7), J (a 7), No, No, J (a 7), boolA (decide ((a 7) > 65535)), boolA (decide ((a 7) > 65535)), J 7], ⟨[.row (Mc a) 0 .ow none], 1⟩⟩) (fun cf => by kernel_rfl) ?_
                                rcases hb16 : ((decide ((a 7) > 65535)) : Bool) with _ | _
                                ·
                                  refine ev_false (by kernel_rfl) ?_
                                  refine ev_skip ?_
                                  refine ev_reg (by kernel_rfl) ?_
                                  refine rs_all (s1 := ⟨[Ag a, .ptr 0 0 0, No, U, J (a 7), Ag a, J 8, Yes, J (a 7), J (a 7), No, No, J (a 7), No, No, J 8], ⟨[.row (Mc a) 0 .ow none], 1⟩⟩) (fun cf => by kernel_rfl) ?_
                                  refine ev_loop ?_
                                  refine ev_seq ?_
                                  refine ev_reg (by kernel_rfl) ?_
                                  refine rs_all (s1 := ⟨[Ag a, .ptr 0 0 0, No, U, J (a 7), Ag a, J 8, No, J (a 7), J (a 7), No, No, J (a 7), No, No, J 8], ⟨[.row (Mc a) 0 .ow none], 1⟩⟩) (fun cf => by kernel_rfl) ?_
                                  refine ev_seq ?_
                                  refine ev_false (by kernel_rfl) ?_
                                  refine ev_exit ?_
                                  refine ev_seq ?_
                                  refine ev_reg (by kernel_rfl) ?_
                                  refine rs_all (s1 := ⟨[Ag a, .ptr 0 0 0, Yes, U, J (a 7), Ag a, J 8, No, J (a 7), J (a 7), No, No, J (a 7), No, No, J 8], ⟨[.row (Mc a) 0 .ow none], 1⟩⟩) (fun cf => by kernel_rfl) ?_
                                  refine ev_ret ?_
                                  refine leaf (r0 := Yes) (r1 := Yes) (.inr rfl) (by kernel_rfl) (by kernel_rfl) ?_
                                  refine congrArg boolA ?_
                                  rw [Bool.eq_iff_iff]
                                  first | (simp only [eqE, validB, dvdB, eqB, cmpI, cmpM, addM, subM, lcmM, gcdM, zeroM, degM, beq_iff_eq, bne_iff_ne, bne_self_eq_false, beq_self_eq_true, decide_eq_true_eq, decide_eq_false_iff_not, beq_eq_false_iff_ne, Bool.and_true, Bool.and_self, Bool.not_true, Bool.not_false, Bool.or_eq_true, Bool.and_eq_true, Bool.not_eq_true', Bool.not_eq_false', Bool.not_eq_true, Bool.not_eq_false, Bool.or_eq_false_iff, Bool.and_eq_false_iff, Bool.false_eq_true, Bool.true_eq_false, ne_eq, true_iff, false_iff, iff_true, iff_false, not_true_eq_false, not_false_eq_true, cond_true, cond_false] at *; done) | (simp only [eqE, validB, dvdB, eqB, cmpI, cmpM, addM, subM, lcmM, gcdM, zeroM, degM, beq_iff_eq, bne_iff_ne, bne_self_eq_false, beq_self_eq_true, decide_eq_true_eq, decide_eq_false_iff_not, beq_eq_false_iff_ne, Bool.and_true, Bool.and_self, Bool.not_true, Bool.not_false, Bool.or_eq_true, Bool.and_eq_true, Bool.not_eq_true', Bool.not_eq_false', Bool.not_eq_true, Bool.not_eq_false, Bool.or_eq_false_iff, Bool.and_eq_false_iff, Bool.false_eq_true, Bool.true_eq_false, ne_eq, true_iff, false_iff, iff_true, iff_false, not_true_eq_false, not_false_eq_true, cond_true, cond_false] at *; omega) | omega
                                ·
                                  refine ev_true (by kernel_rfl) ?_
                                  refine ev_seq ?_
                                  refine ev_reg (by kernel_rfl) ?_
                                  refine rs_all (s1 := ⟨[Ag a, .ptr 0 0 0, No, U, J (a 7), Ag a, J 7, Yes, J (a 7), J (a 7), No, No, J (a 7), Yes, Yes, J 7], ⟨[.row (Mc a) 0 .ow none], 1⟩⟩) (fun cf => by kernel_rfl) ?_
                                  refine ev_ret ?_
                                  refine leaf (r0 := No) (r1 := No) (.inr rfl) (by kernel_rfl) (by kernel_rfl) ?_
                                  refine congrArg boolA ?_
                                  rw [Bool.eq_iff_iff]
                                  first | (simp only [eqE, validB, dvdB, eqB, cmpI, cmpM, addM, subM, lcmM, gcdM, zeroM, degM, beq_iff_eq, bne_iff_ne, bne_self_eq_false, beq_self_eq_true, decide_eq_true_eq, decide_eq_false_iff_not, beq_eq_false_iff_ne, Bool.and_true, Bool.and_self, Bool.not_true, Bool.not_false, Bool.or_eq_true, Bool.and_eq_true, Bool.not_eq_true', Bool.not_eq_false', Bool.not_eq_true, Bool.not_eq_false, Bool.or_eq_false_iff, Bool.and_eq_false_iff, Bool.false_eq_true, Bool.true_eq_false, ne_eq, true_iff, false_iff, iff_true, iff_false, not_true_eq_false, not_false_eq_true, cond_true, cond_false] at *; done) | (simp only [eqE, validB, dvdB, eqB, cmpI, cmpM, addM, subM, lcmM, gcdM, zeroM, degM, beq_iff_eq, bne_iff_ne, bne_self_eq_false, beq_self_eq_true, decide_eq_true_eq, decide_eq_false_iff_not, beq_eq_false_iff_ne, Bool.and_true, Bool.and_self, Bool.not_true, Bool.not_false, Bool.or_eq_true, Bool.and_eq_true, Bool.not_eq_true', Bool.not_eq_false', Bool.not_eq_true, Bool.not_eq_false, Bool.or_eq_false_iff, Bool.and_eq_false_iff, Bool.false_eq_true, Bool.true_eq_false, ne_eq, true_iff, false_iff, iff_true, iff_false, not_true_eq_false, not_false_eq_true, cond_true, cond_false] at *; omega) | omega
                              ·
                                refine rs_all (s1 := ⟨[Ag a, .ptr 0 0 0, No, U, J (a 7), Ag a, J 7, Yes, J (a 7), J (a 7), Yes, Yes, U, U, Yes, J 7], ⟨[.row (Mc a) 0 .ow none], 1⟩⟩) (fun cf => by kernel_rfl) ?_
                                refine ev_true (by kernel_rfl) ?_
                                refine ev_seq ?_
                                refine ev_reg (by kernel_rfl) ?_
                                refine rs_all (s1 := ⟨[Ag a, .ptr 0 0 0, No, U, J (a 7), Ag a, J 7, Yes, J (a 7), J (a 7), Yes, Yes, U, U, Yes, J 7], ⟨[.row (Mc a) 0 .ow none], 1⟩⟩) (fun cf => by kernel_rfl) ?_
                                refine ev_ret ?_
                                refine leaf (r0 := No) (r1 := No) (.inr rfl) (by kernel_rfl) (by kernel_rfl) ?_
                                refine congrArg boolA ?_
                                rw [Bool.eq_iff_iff]
                                first | (simp only [eqE, validB, dvdB, eqB, cmpI, cmpM, addM, subM, lcmM, gcdM, zeroM, degM, beq_iff_eq, bne_iff_ne, bne_self_eq_false, beq_self_eq_true, decide_eq_true_eq, decide_eq_false_iff_not, beq_eq_false_iff_ne, Bool.and_true, Bool.and_self, Bool.not_true, Bool.not_false, Bool.or_eq_true, Bool.and_eq_true, Bool.not_eq_true', Bool.not_eq_false', Bool.not_eq_true, Bool.not_eq_false, Bool.or_eq_false_iff, Bool.and_eq_false_iff, Bool.false_eq_true, Bool.true_eq_false, ne_eq, true_iff, false_iff, iff_true, iff_false, not_true_eq_false, not_false_eq_true, cond_true, cond_false] at *; done) | (simp only [eqE, validB, dvdB, eqB, cmpI, cmpM, addM, subM, lcmM, gcdM, zeroM, degM, beq_iff_eq, bne_iff_ne, bne_self_eq_false, beq_self_eq_true, decide_eq_true_eq, decide_eq_false_iff_not, beq_eq_false_iff_ne, Bool.and_true, Bool.and_self, Bool.not_true, Bool.not_false, Bool.or_eq_true, Bool.and_eq_true, Bool.not_eq_true', Bool.not_eq_false', Bool.not_eq_true, Bool.not_eq_false, Bool.or_eq_false_iff, Bool.and_eq_false_iff, Bool.false_eq_true, Bool.true_eq_false, ne_eq, true_iff, false_iff, iff_true, iff_false, not_true_eq_false, not_false_eq_true, cond_true, cond_false] at *; omega) | omega
                            ·
                              refine ev_true (by kernel_rfl) ?_
                              refine ev_seq ?_
                              refine ev_reg (by kernel_rfl) ?_
                              refine rs_all (s1 := ⟨[Ag a, .ptr 0 0 0, No, U, J (a 6), Ag a, J 6, Yes, J (a 6), J (a 6), No, No, J (a 6), Yes, Yes, J 6], ⟨[.row (Mc a) 0 .ow none], 1⟩⟩) (fun cf => by kernel_rfl) ?_
                              refine ev_ret ?_
                              refine leaf (r0 := No) (r1 := No) (.inr rfl) (by kernel_rfl) (by kernel_rfl) ?_
                              refine congrArg boolA ?_
                              rw [Bool.eq_iff_iff]
                              first | (simp only [eqE, validB, dvdB, eqB, cmpI, cmpM, addM, subM, lcmM, gcdM, zeroM, degM, beq_iff_eq, bne_iff_ne, bne_self_eq_false, beq_self_eq_true, decide_eq_true_eq, decide_eq_false_iff_not, beq_eq_false_iff_ne, Bool.and_true, Bool.and_self, Bool.not_true, Bool.not_false, Bool.or_eq_true, Bool.and_eq_true, Bool.not_eq_true', Bool.not_eq_false', Bool.not_eq_true, Bool.not_eq_false, Bool.or_eq_false_iff, Bool.and_eq_false_iff, Bool.false_eq_true, Bool.true_eq_false, ne_eq, true_iff, false_iff, iff_true, iff_false, not_true_eq_false, not_false_eq_true, cond_true, cond_false] at *; done) | (simp only [eqE, validB, dvdB, eqB, cmpI, cmpM, addM, subM, lcmM, gcdM, zeroM, degM, beq_iff_eq, bne_iff_ne, bne_self_eq_false, beq_self_eq_true, decide_eq_true_eq, decide_eq_false_iff_not, beq_eq_false_iff_ne, Bool.and_true, Bool.and_self, Bool.not_true, Bool.not_false, Bool.or_eq_true, Bool.and_eq_true, Bool.not_eq_true', Bool.not_eq_false', Bool.not_eq_true, Bool.not_eq_false, Bool.or_eq_false_iff, Bool.and_eq_false_iff, Bool.false_eq_true, Bool.true_eq_false, ne_eq, true_iff, false_iff, iff_true, iff_false, not_true_eq_false, not_false_eq_true, cond_true, cond_false] at *; omega) | omega
                          ·
                            refine rs_all (s1 := ⟨[Ag a, .ptr 0 0 0, No, U, J (a 6), Ag a, J 6, Yes, J (a 6), J (a 6), Yes, Yes, U, U, Yes, J 6], ⟨[.row (Mc a) 0 .ow none], 1⟩⟩) (fun cf => by kernel_rfl) ?_
                            refine ev_true (by kernel_rfl) ?_
                            refine ev_seq ?_
                            refine ev_reg (by kernel_rfl) ?_
                            refine rs_all (s1 := ⟨[Ag a, .ptr 0 0 0, No, U, J (a 6), Ag a, J 6, Yes, J (a 6), J (a 6), Yes, Yes, U, U, Yes, J 6], ⟨[.row (Mc a) 0 .ow none], 1⟩⟩) (fun cf => by kernel_rfl) ?_
                            refine ev_ret ?_
                            refine leaf (r0 := No) (r1 := No) (.inr rfl) (by kernel_rfl) (by kernel_rfl) ?_
                            refine congrArg boolA ?_
                            rw [Bool.eq_iff_iff]
                            first | (simp only [eqE, validB, dvdB, eqB, cmpI, cmpM, addM, subM, lcmM, gcdM, zeroM, degM, beq_iff_eq, bne_iff_ne, bne_self_eq_false, beq_self_eq_true, decide_eq_true_eq, decide_eq_false_iff_not, beq_eq_false_iff_ne, Bool.and_true, Bool.and_self, Bool.not_true, Bool.not_false, Bool.or_eq_true, Bool.and_eq_true, Bool.not_eq_true', Bool.not_eq_false', Bool.not_eq_true, Bool.not_eq_false, Bool.or_eq_false_iff, Bool.and_eq_false_iff, Bool.false_eq_true, Bool.true_eq_false, ne_eq, true_iff, false_iff, iff_true, iff_false, not_true_eq_false, not_false_eq_true, cond_true, cond_false] at *; done) | (simp only [eqE, validB, dvdB, eqB, cmpI, cmpM, addM, subM, lcmM, gcdM, zeroM, degM, beq_iff_eq, bne_iff_ne, bne_self_eq_false, beq_self_eq_true, decide_eq_true_eq, decide_eq_false_iff_not, beq_eq_false_iff_ne, Bool.and_true, Bool.and_self, Bool.not_true, Bool.not_false, Bool.or_eq_true, Bool.and_eq_true, Bool.not_eq_true', Bool.not_eq_false', Bool.not_eq_true, Bool.not_eq_false, Bool.or_eq_false_iff, Bool.and_eq_false_iff, Bool.false_eq_true, Bool.true_eq_false, ne_eq, true_iff, false_iff, iff_true, iff_false, not_true_eq_false, not_false_eq_true, cond_true, cond_false] at *; omega) | omega
                        ·
                          refine ev_true (by kernel_rfl) ?_
                          refine ev_seq ?_
                          refine ev_reg (by kernel_rfl) ?_
                          refine rs_all (s1 := ⟨[Ag a, .ptr 0 0 0, No, U, J (a 5), Ag a, J 5, Yes, J (a 5), J (a 5), No, No, J (a 5), Yes, Yes, J 5], ⟨[.row (Mc a) 0 .ow none], 1⟩⟩) (fun cf => by kernel_rfl) ?_
                          refine ev_ret ?_
                          refine leaf (r0 := No) (r1 := No) (.inr rfl) (by kernel_rfl) (by kernel_rfl) ?_
                          refine congrArg boolA ?_
                          rw [Bool.eq_iff_iff]
                          first | (simp only [eqE, validB, dvdB, eqB, cmpI, cmpM, addM, subM, lcmM, gcdM, zeroM, degM, beq_iff_eq, bne_iff_ne, bne_self_eq_false, beq_self_eq_true, decide_eq_true_eq, decide_eq_false_iff_not, beq_eq_false_iff_ne, Bool.and_true, Bool.and_self, Bool.not_true, Bool.not_false, Bool.or_eq_true, Bool.and_eq_true, Bool.not_eq_true', Bool.not_eq_false', Bool.not_eq_true, Bool.not_eq_false, Bool.or_eq_false_iff, Bool.and_eq_false_iff, Bool.false_eq_true, Bool.true_eq_false, ne_eq, true_iff, false_iff, iff_true, iff_false, not_true_eq_false, not_false_eq_true, cond_true, cond_false] at *; done) | (simp only [eqE, validB, dvdB, eqB, cmpI, cmpM, addM, subM, lcmM, gcdM, zeroM, degM, beq_iff_eq, bne_iff_ne, bne_self_eq_false, beq_self_eq_true, decide_eq_true_eq, decide_eq_false_iff_not, beq_eq_false_iff_ne, Bool.and_true, Bool.and_self, Bool.not_true, Bool.not_false, Bool.or_eq_true, Bool.and_eq_true, Bool.not_eq_true', Bool.not_eq_false', Bool.not_eq_true, Bool.not_eq_false, Bool.or_eq_false_iff, Bool.and_eq_false_iff, Bool.false_eq_true, Bool.true_eq_false, ne_eq, true_iff, false_iff, iff_true, iff_false, not_true_eq_false, not_false_eq_true, cond_true, cond_false] at *; omega) | omega
                      ·
                        refine rs_all (s1 := ⟨[Ag a, .ptr 0 0 0, No, U, J (a 5), Ag a, J 5, Yes, J (a 5), J (a 5), Yes, Yes, U, U, Yes, J 5], ⟨[.row (Mc a) 0 .ow none], 1⟩⟩) (fun cf => by kernel_rfl) ?_
                        refine ev_true (by kernel_rfl) ?_
                        refine ev_seq ?_
                        refine ev_reg (by kernel_rfl) ?_
                        refine rs_all (s1 := ⟨[Ag a, .ptr 0 0 0, No, U, J (a 5), Ag a, J 5, Yes, J (a 5), J (a 5), Yes, Yes, U, U, Yes, J 5], ⟨[.row (Mc a) 0 .ow none], 1⟩⟩) (fun cf => by kernel_rfl) ?_
                        refine ev_ret ?_
                        refine leaf (r0 := No) (r1 := No) (.inr rfl) (by kernel_rfl) (by kernel_rfl) ?_
                        refine congrArg boolA ?_
                        rw [Bool.eq_iff_iff]
                        first | (simp only [eqE, validB, dvdB, eqB, cmpI, cmpM, addM, subM, lcmM, gcdM, zeroM, degM, beq_iff_eq, bne_iff_ne, bne_self_eq_false, beq_self_eq_true, decide_eq_true_eq, decide_eq_false_iff_not, beq_eq_false_iff_ne, Bool.and_true, Bool.and_self, Bool.not_true, Bool.not_false, Bool.or_eq_true, Bool.and_eq_true, Bool.not_eq_true', Bool.not_eq_false', Bool.not_eq_true, Bool.not_eq_false, Bool.or_eq_false_iff, Bool.and_eq_false_iff, Bool.false_eq_true, Bool.true_eq_false, ne_eq, true_iff, false_iff, iff_true, iff_false, not_true_eq_false, not_false_eq_true, cond_true, cond_false] at *; done) | (simp only [eqE, validB, dvdB, eqB, cmpI, cmpM, addM, subM, lcmM, gcdM, zeroM, degM, beq_iff_eq, bne_iff_ne, bne_self_eq_false, beq_self_eq_true, decide_eq_true_eq, decide_eq_false_iff_not, beq_eq_false_iff_ne, Bool.and_true, Bool.and_self, Bool.not_true, Bool.not_false, Bool.or_eq_true, Bool.and_eq_true, Bool.not_eq_true', Bool.not_eq_false', Bool.not_eq_true, Bool.not_eq_false, Bool.or_eq_false_iff, Bool.and_eq_false_iff, Bool.false_eq_true, Bool.true_eq_false, ne_eq, true_iff, false_iff, iff_true, iff_false, not_true_eq_false, not_false_eq_true, cond_true, cond_false] at *; omega) | omega
                    ·
                      refine ev_true (by kernel_rfl) ?_
                      refine ev_seq ?_
                      refine ev_reg (by kernel_rfl) ?_
                      refine rs_all (s1 := ⟨[Ag a, .ptr 0 0 0, No, U, J (a 4), Ag a, J 4, Yes, J (a 4), J (a 4), No, No, J (a 4), Yes, Yes, J 4], ⟨[.row (Mc a) 0 .ow none], 1⟩⟩) (fun cf => by kernel_rfl) ?_
                      refine ev_ret ?_
                      refine leaf (r0 := No) (r1 := No) (.inr rfl) (by kernel_rfl) (by kernel_rfl) ?_
                      refine congrArg boolA ?_
                      rw [Bool.eq_iff_iff]
                      first | (simp only [eqE, validB, dvdB, eqB, cmpI, cmpM, addM, subM, lcmM, gcdM, zeroM, degM, beq_iff_eq, bne_iff_ne, bne_self_eq_false, beq_self_eq_true, decide_eq_true_eq, decide_eq_false_iff_not, beq_eq_false_iff_ne, Bool.and_true, Bool.and_self, Bool.not_true, Bool.not_false, Bool.or_eq_true, Bool.and_eq_true, Bool.not_eq_true', Bool.not_eq_false', Bool.not_eq_true, Bool.not_eq_false, Bool.or_eq_false_iff, Bool.and_eq_false_iff, Bool.false_eq_true, Bool.true_eq_false, ne_eq, true_iff, false_iff, iff_true, iff_false, not_true_eq_false, not_false_eq_true, cond_true, cond_false] at *; done) | (simp only [eqE, validB, dvdB, eqB, cmpI, cmpM, addM, subM, lcmM, gcdM, zeroM, degM, beq_iff_eq, bne_iff_ne, bne_self_eq_false, beq_self_eq_true, decide_eq_true_eq, decide_eq_false_iff_not, beq_eq_false_iff_ne, Bool.and_true, Bool.and_self, Bool.not_true, Bool.not_false, Bool.or_eq_true, Bool.and_eq_true, Bool.not_eq_true', Bool.not_eq_false', Bool.not_eq_true, Bool.not_eq_false, Bool.or_eq_false_iff, Bool.and_eq_false_iff, Bool.false_eq_true, Bool.true_eq_false, ne_eq, true_iff, false_iff, iff_true, iff_false, not_true_eq_false, not_false_eq_true, cond_true, cond_false] at *; omega) | omega
                  ·
                    refine rs_all (s1 := ⟨[Ag a, .ptr 0 0 0, No, U, J (a 4), Ag a, J 4, Yes, J (a 4), J (a 4), Yes, Yes, U, U, Yes, J 4], ⟨[.row (Mc a) 0 .ow none], 1⟩⟩) (fun cf => by kernel_rfl) ?_
                    refine ev_true (by kernel_rfl) ?_
                    refine ev_seq ?_
                    refine ev_reg (by kernel_rfl) ?_
                    refine rs_all (s1 := ⟨[Ag a, .ptr 0 0 0, No, U, J (a 4), Ag a, J 4, Yes, J (a 4), J (a 4), Yes, Yes, U, U, Yes, J 4], ⟨[.row (Mc a) 0 .ow none], 1⟩⟩) (fun cf => by kernel_rfl) ?_
                    refine ev_ret ?_
                    refine leaf (r0 := No) (r1 := No) (.inr rfl) (by kernel_rfl) (by kernel_rfl) ?_
                    refine congrArg boolA ?_
                    rw [Bool.eq_iff_iff]
                    first | (simp only [eqE, validB, dvdB, eqB, cmpI, cmpM, addM, subM, lcmM, gcdM, zeroM, degM, beq_iff_eq, bne_iff_ne, bne_self_eq_false, beq_self_eq_true, decide_eq_true_eq, decide_eq_false_iff_not, beq_eq_false_iff_ne, Bool.and_true, Bool.and_self, Bool.not_true, Bool.not_false, Bool.or_eq_true, Bool.and_eq_true, Bool.not_eq_true', Bool.not_eq_false', Bool.not_eq_true, Bool.not_eq_false, Bool.or_eq_false_iff, Bool.and_eq_false_iff, Bool.false_eq_true, Bool.true_eq_false, ne_eq, true_iff, false_iff, iff_true, iff_false, not_true_eq_false, not_false_eq_true, cond_true, cond_false] at *; done) | (simp only [eqE, validB, dvdB, eqB, cmpI, cmpM, addM, subM, lcmM, gcdM, zeroM, degM, beq_iff_eq, bne_iff_ne, bne_self_eq_false, beq_self_eq_true, decide_eq_true_eq, decide_eq_false_iff_not, beq_eq_false_iff_ne, Bool.and_true, Bool.and_self, Bool.not_true, Bool.not_false, Bool.or_eq_true, Bool.and_eq_true, Bool.not_eq_true', Bool.not_eq_false', Bool.not_eq_true, Bool.not_eq_false, Bool.or_eq_false_iff, Bool.and_eq_false_iff, Bool.false_eq_true, Bool.true_eq_false, ne_eq, true_iff, false_iff, iff_true, iff_false, not_true_eq_false, not_false_eq_true, cond_true, cond_false] at *; omega) | omega
                ·
                  refine ev_true (by kernel_rfl) ?_
                  refine ev_seq ?_
                  refine ev_reg (by kernel_rfl) ?_
                  refine rs_all (s1 := ⟨[Ag a, .ptr 0 0 0, No, U, J (a 3), Ag a, J 3, Yes, J (a 3), J (a 3), No, No, J (a 3), Yes, Yes, J 3], ⟨[.row (Mc a) 0 .ow none], 1⟩⟩) (fun cf => by kernel_rfl) ?_
                  refine ev_ret ?_
                  refine leaf (r0 := No) (r1 := No) (.inr rfl) (by kernel_rfl) (by kernel_rfl) ?_
                  refine congrArg boolA ?_
                  rw [Bool.eq_iff_iff]
                  first | (simp only [eqE, validB, dvdB, eqB, cmpI, cmpM, addM, subM, lcmM, gcdM, zeroM, degM, beq_iff_eq, bne_iff_ne, bne_self_eq_false, beq_self_eq_true, decide_eq_true_eq, decide_eq_false_iff_not, beq_eq_false_iff_ne, Bool.and_true, Bool.and_self, Bool.not_true, Bool.not_false, Bool.or_eq_true, Bool.and_eq_true, Bool.not_eq_true', Bool.not_eq_false', Bool.not_eq_true, Bool.not_eq_false, Bool.or_eq_false_iff, Bool.and_eq_false_iff, Bool.false_eq_true, Bool.true_eq_false, ne_eq, true_iff, false_iff, iff_true, iff_false, not_true_eq_false, not_false_eq_true, cond_true, cond_false] at *; done) | (simp only [eqE, validB, dvdB, eqB, cmpI, cmpM, addM, subM, lcmM, gcdM, zeroM, degM, beq_iff_eq, bne_iff_ne, bne_self_eq_false, beq_self_eq_true, decide_eq_true_eq, decide_eq_false_iff_not, beq_eq_false_iff_ne, Bool.and_true, Bool.and_self, Bool.not_true, Bool.not_false, Bool.or_eq_true, Bool.and_eq_true, Bool.not_eq_true', Bool.not_eq_false', Bool.not_eq_true, Bool.not_eq_false, Bool.or_eq_false_iff, Bool.and_eq_false_iff, Bool.false_eq_true, Bool.true_eq_false, ne_eq, true_iff, false_iff, iff_true, iff_false, not_true_eq_false, not_false_eq_true, cond_true, cond_false] at *; omega) | omega
              ·
                refine rs_all (s1 := ⟨[Ag a, .ptr 0 0 0, No, U, J (a 3), Ag a, J 3, Yes, J (a 3), J (a 3), Yes, Yes, U, U, Yes, J 3], ⟨[.row (Mc a) 0 .ow none], 1⟩⟩) (fun cf => by kernel_rfl) ?_
                refine ev_true (by kernel_rfl) ?_
                refine ev_seq ?_
                refine ev_reg (by kernel_rfl) ?_
                refine rs_all (s1 := ⟨[Ag a, .ptr 0 0 0, No, U, J (a 3), Ag a, J 3, Yes, J (a 3), J (a 3), Yes, Yes, U, U, Yes, J 3], ⟨[.row (Mc a) 0 .ow none], 1⟩⟩) (fun cf => by kernel_rfl) ?_
                refine ev_ret ?_
                refine leaf (r0 := No) (r1 := No) (.inr rfl) (by kernel_rfl) (by kernel_rfl) ?_
                refine congrArg boolA ?_
                rw [Bool.eq_iff_iff]
                first | (simp only [eqE, validB, dvdB, eqB, cmpI, cmpM, addM, subM, lcmM, gcdM, zeroM, degM, beq_iff_eq, bne_iff_ne, bne_self_eq_false, beq_self_eq_true, decide_eq_true_eq, decide_eq_false_iff_not, beq_eq_false_iff_ne, Bool.and_true, Bool.and_self, Bool.not_true, Bool.not_false, Bool.or_eq_true, Bool.and_eq_true, Bool.not_eq_true', Bool.not_eq_false', Bool.not_eq_true, Bool.not_eq_false, Bool.or_eq_false_iff, Bool.and_eq_false_iff, Bool.false_eq_true, Bool.true_eq_false, ne_eq, true_iff, false_iff, iff_true, iff_false, not_true_eq_false, not_false_eq_true, cond_true, cond_false] at *; done) | (simp only [eqE, validB, dvdB, eqB, cmpI, cmpM, addM, subM, lcmM, gcdM, zeroM, degM, beq_iff_eq, bne_iff_ne, bne_self_eq_false, beq_self_eq_true, decide_eq_true_eq, decide_eq_false_iff_not, beq_eq_false_iff_ne, Bool.and_true, Bool.and_self, Bool.not_true, Bool.not_false, Bool.or_eq_true, Bool.and_eq_true, Bool.not_eq_true', Bool.not_eq_false', Bool.not_eq_true, Bool.not_eq_false, Bool.or_eq_false_iff, Bool.and_eq_false_iff, Bool.false_eq_true, Bool.true_eq_false, ne_eq, true_iff, false_iff, iff_true, iff_false, not_true_eq_false, not_false_eq_true, cond_true, cond_false] at *; omega) | omega
            ·
              refine ev_true (by kernel_rfl) ?_
              refine ev_seq ?_
              refine ev_reg (by kernel_rfl) ?_
              refine rs_all (s1 := ⟨[Ag a, .ptr 0 0 0, No, U, J (a 2), Ag a, J 2, Yes, J (a 2), J (a 2), No, No, J (a 2), Yes, Yes, J 2], ⟨[.row (Mc a) 0 .ow none], 1⟩⟩) (fun cf => by kernel_rfl) ?_
              refine ev_ret ?_
              refine leaf (r0 := No) (r1 := No) (.inr rfl) (by kernel_rfl) (by kernel_rfl) ?_
              refine congrArg boolA ?_
              rw [Bool.eq_iff_iff]
              first | (simp only [eqE, validB, dvdB, eqB, cmpI, cmpM, addM, subM, lcmM, gcdM, zeroM, degM, beq_iff_eq, bne_iff_ne, bne_self_eq_false, beq_self_eq_true, decide_eq_true_eq, decide_eq_false_iff_not, beq_eq_false_iff_ne, Bool.and_true, Bool.and_self, Bool.not_true, Bool.not_false, Bool.or_eq_true, Bool.and_eq_true, Bool.not_eq_true', Bool.not_eq_false', Bool.not_eq_true, Bool.not_eq_false, Bool.or_eq_false_iff, Bool.and_eq_false_iff, Bool.false_eq_true, Bool.true_eq_false, ne_eq, true_iff, false_iff, iff_true, iff_false, not_true_eq_false, not_false_eq_true, cond_true, cond_false] at *; done) | (simp only [eqE, validB, dvdB, eqB, cmpI, cmpM, addM, subM, lcmM, gcdM, zeroM, degM, beq_iff_eq, bne_iff_ne, bne_self_eq_false, beq_self_eq_true, decide_eq_true_eq, decide_eq_false_iff_not, beq_eq_false_iff_ne, Bool.and_true, Bool.and_self, Bool.not_true, Bool.not_false, Bool.or_eq_true, Bool.and_eq_true, Bool.not_eq_true', Bool.not_eq_false', Bool.not_eq_true, Bool.not_eq_false, Bool.or_eq_false_iff, Bool.and_eq_false_iff, Bool.false_eq_true, Bool.true_eq_false, ne_eq, true_iff, false_iff, iff_true, iff_false, not_true_eq_false, not_false_eq_true, cond_true, cond_false] at *; omega) | omega
          ·
            refine rs_all (s1 := ⟨[Ag a, .ptr 0 0 0, No, U, J (a 2), Ag a, J 2, Yes, J (a 2), J (a 2), Yes, Yes, U, U, Yes, J 2], ⟨[.row (Mc a) 0 .ow none], 1⟩⟩) (fun cf => by kernel_rfl) ?_
            refine ev_true (by kernel_rfl) ?_
            refine ev_seq ?_
            refine ev_reg (by kernel_rfl) ?_
            refine rs_all (s1 := ⟨[Ag a, .ptr 0 0 0, No, U, J (a 2), Ag a, J 2, Yes, J (a 2), J (a 2), Yes, Yes, U, U, Yes, J 2], ⟨[.row (Mc a) 0 .ow none], 1⟩⟩) (fun cf => by kernel_rfl) ?_
            refine ev_ret ?_
            refine leaf (r0 := No) (r1 := No) (.inr rfl) (by kernel_rfl) (by kernel_rfl) ?_
            refine congrArg boolA ?_
            rw [Bool.eq_iff_iff]
            first | (simp only [eqE, validB, dvdB, eqB, cmpI, cmpM, addM, subM, lcmM, gcdM, zeroM, degM, beq_iff_eq, bne_iff_ne, bne_self_eq_false, beq_self_eq_true, decide_eq_true_eq, decide_eq_false_iff_not, beq_eq_false_iff_ne, Bool.and_true, Bool.and_self, Bool.not_true, Bool.not_false, Bool.or_eq_true, Bool.and_eq_true, Bool.not_eq_true', Bool.not_eq_false', Bool.not_eq_true, Bool.not_eq_false, Bool.or_eq_false_iff, Bool.and_eq_false_iff, Bool.false_eq_true, Bool.true_eq_false, ne_eq, true_iff, false_iff, iff_true, iff_false, not_true_eq_false, not_false_eq_true, cond_true, cond_false] at *; done) | (simp only [eqE, validB, dvdB, eqB, cmpI, cmpM, addM, subM, lcmM, gcdM, zeroM, degM, beq_iff_eq, bne_iff_ne, bne_self_eq_false, beq_self_eq_true, decide_eq_true_eq, decide_eq_false_iff_not, beq_eq_false_iff_ne, Bool.and_true, Bool.and_self, Bool.not_true, Bool.not_false, Bool.or_eq_true, Bool.and_eq_true, Bool.not_eq_true', Bool.not_eq_false', Bool.not_eq_true, Bool.not_eq_false, Bool.or_eq_false_iff, Bool.and_eq_false_iff, Bool.false_eq_true, Bool.true_eq_false, ne_eq, true_iff, false_iff, iff_true, iff_false, not_true_eq_false, not_false_eq_true, cond_true, cond_false] at *; omega) | omega
        ·
          refine ev_true (by kernel_rfl) ?_
          refine ev_seq ?_
          refine ev_reg (by kernel_rfl) ?_
          refine rs_all (s1 := ⟨[Ag a, .ptr 0 0 0, No, U, J (a 1), Ag a, J 1, Yes, J (a 1), J (a 1), No, No, J (a 1), Yes, Yes, J 1], ⟨[.row (Mc a) 0 .ow none], 1⟩⟩) (fun cf => by kernel_rfl) ?_
          refine ev_ret ?_
          refine leaf (r0 := No) (r1 := No) (.inr rfl) (by kernel_rfl) (by kernel_rfl) ?_
          refine congrArg boolA ?_
          rw [Bool.eq_iff_iff]
          first | (simp only [eqE, validB, dvdB, eqB, cmpI, cmpM, addM, subM, lcmM, gcdM, zeroM, degM, beq_iff_eq, bne_iff_ne, bne_self_eq_false, beq_self_eq_true, decide_eq_true_eq, decide_eq_false_iff_not, beq_eq_false_iff_ne, Bool.and_true, Bool.and_self, Bool.not_true, Bool.not_false, Bool.or_eq_true, Bool.and_eq_true, Bool.not_eq_true', Bool.not_eq_false', Bool.not_eq_true, Bool.not_eq_false, Bool.or_eq_false_iff, Bool.and_eq_false_iff, Bool.false_eq_true, Bool.true_eq_false, ne_eq, true_iff, false_iff, iff_true, iff_false, not_true_eq_false, not_false_eq_true, cond_true, cond_false] at *; done) | (simp only [eqE, validB, dvdB, eqB, cmpI, cmpM, addM, subM, lcmM, gcdM, zeroM, degM, beq_iff_eq, bne_iff_ne, bne_self_eq_false, beq_self_eq_true, decide_eq_true_eq, decide_eq_false_iff_not, beq_eq_false_iff_ne, Bool.and_true, Bool.and_self, Bool.not_true, Bool.not_false, Bool.or_eq_true, Bool.and_eq_true, Bool.not_eq_true', Bool.not_eq_false', Bool.not_eq_true, Bool.not_eq_false, Bool.or_eq_false_iff, Bool.and_eq_false_iff, Bool.false_eq_true, Bool.true_eq_false, ne_eq, true_iff, false_iff, iff_true, iff_false, not_true_eq_false, not_false_eq_true, cond_true, cond_false] at *; omega) | omega
      ·
        refine rs_all (s1 := ⟨[Ag a, .ptr 0 0 0, No, U, J (a 1), Ag a, J 1, Yes, J (a 1), J (a 1), Yes, Yes, U, U, Yes, J 1], ⟨[.row (Mc a) 0 .ow none], 1⟩⟩) (fun cf => by kernel_rfl) ?_
        refine ev_true (by kernel_rfl) ?_
        refine ev_seq ?_
        refine ev_reg (by kernel_rfl) ?_
        refine rs_all (s1 := ⟨[Ag a, .ptr 0 0 0, No, U, J (a 1), Ag a, J 1, Yes, J (a 1), J (a 1), Yes, Yes, U, U, Yes, J 1], ⟨[.row (Mc a) 0 .ow none], 1⟩⟩) (fun cf => by kernel_rfl) ?_
        refine ev_ret ?_
        refine leaf (r0 := No) (r1 := No) (.inr rfl) (by kernel_rfl) (by kernel_rfl) ?_
        refine congrArg boolA ?_
        rw [Bool.eq_iff_iff]
        first | (simp only [eqE, validB, dvdB, eqB, cmpI, cmpM, addM, subM, lcmM, gcdM, zeroM, degM, beq_iff_eq, bne_iff_ne, bne_self_eq_false, beq_self_eq_true, decide_eq_true_eq, decide_eq_false_iff_not, beq_eq_false_iff_ne, Bool.and_true, Bool.and_self, Bool.not_true, Bool.not_false, Bool.or_eq_true, Bool.and_eq_true, Bool.not_eq_true', Bool.not_eq_false', Bool.not_eq_true, Bool.not_eq_false, Bool.or_eq_false_iff, Bool.and_eq_false_iff, Bool.false_eq_true, Bool.true_eq_false, ne_eq, true_iff, false_iff, iff_true, iff_false, not_true_eq_false, not_false_eq_true, cond_true, cond_false] at *; done) | (simp only [eqE, validB, dvdB, eqB, cmpI, cmpM, addM, subM, lcmM, gcdM, zeroM, degM, beq_iff_eq, bne_iff_ne, bne_self_eq_false, beq_self_eq_true, decide_eq_true_eq, decide_eq_false_iff_not, beq_eq_false_iff_ne, Bool.and_true, Bool.and_self, Bool.not_true, Bool.not_false, Bool.or_eq_true, Bool.and_eq_true, Bool.not_eq_true', Bool.not_eq_false', Bool.not_eq_true, Bool.not_eq_false, Bool.or_eq_false_iff, Bool.and_eq_false_iff, Bool.false_eq_true, Bool.true_eq_false, ne_eq, true_iff, false_iff, iff_true, iff_false, not_true_eq_false, not_false_eq_true, cond_true, cond_false] at *; omega) | omega
    ·
      refine ev_true (by kernel_rfl) ?_
      refine ev_seq ?_
      refine ev_reg (by kernel_rfl) ?_
      refine rs_all (s1 := ⟨[Ag a, .ptr 0 0 0, No, U, J (a 0), Ag a, J 0, Yes, J (a 0), J (a 0), No, No, J (a 0), Yes, Yes, U], ⟨[.row (Mc a) 0 .ow none], 1⟩⟩) (fun cf => by kernel_rfl) ?_
      refine ev_ret ?_
      refine leaf (r0 := No) (r1 := No) (.inr rfl) (by kernel_rfl) (by kernel_rfl) ?_
      refine congrArg boolA ?_
      rw [Bool.eq_iff_iff]
      first | (simp only [eqE, validB, dvdB, eqB, cmpI, cmpM, addM, subM, lcmM, gcdM, zeroM, degM, beq_iff_eq, bne_iff_ne, bne_self_eq_false, beq_self_eq_true, decide_eq_true_eq, decide_eq_false_iff_not, beq_eq_false_iff_ne, Bool.and_true, Bool.and_self, Bool.not_true, Bool.not_false, Bool.or_eq_true, Bool.and_eq_true, Bool.not_eq_true', Bool.not_eq_false', Bool.not_eq_true, Bool.not_eq_false, Bool.or_eq_false_iff, Bool.and_eq_false_iff, Bool.false_eq_true, Bool.true_eq_false, ne_eq, true_iff, false_iff, iff_true, iff_false, not_true_eq_false, not_false_eq_true, cond_true, cond_false] at *; done) | (simp only [eqE, validB, dvdB, eqB, cmpI, cmpM, addM, subM, lcmM, gcdM, zeroM, degM, beq_iff_eq, bne_iff_ne, bne_self_eq_false, beq_self_eq_true, decide_eq_true_eq, decide_eq_false_iff_not, beq_eq_false_iff_ne, Bool.and_true, Bool.and_self, Bool.not_true, Bool.not_false, Bool.or_eq_true, Bool.and_eq_true, Bool.not_eq_true', Bool.not_eq_false', Bool.not_eq_true, Bool.not_eq_false, Bool.or_eq_false_iff, Bool.and_eq_false_iff, Bool.false_eq_true, Bool.true_eq_false, ne_eq, true_iff, false_iff, iff_true, iff_false, not_true_eq_false, not_false_eq_true, cond_true, cond_false] at *; omega) | omega
  ·
    refine rs_all (s1 := ⟨[Ag a, .ptr 0 0 0, No, U, J (a 0), Ag a, J 0, Yes, J (a 0), J (a 0), Yes, Yes, U, U, Yes, U], ⟨[.row (Mc a) 0 .ow none], 1⟩⟩) (fun cf => by kernel_rfl) ?_
    refine ev_true (by kernel_rfl) ?_
    refine ev_seq ?_
    refine ev_reg (by kernel_rfl) ?_
    refine rs_all (s1 := ⟨[Ag a, .ptr 0 0 0, No, U, J (a 0), Ag a, J 0, Yes, J (a 0), J (a 0), Yes, Yes, U, U, Yes, U], ⟨[.row (Mc a) 0 .ow none], 1⟩⟩) (fun cf => by kernel_rfl) ?_
    refine ev_ret ?_
    refine leaf (r0 := No) (r1 := No) (.inr rfl) (by kernel_rfl) (by kernel_rfl) ?_
    refine congrArg boolA ?_
    rw [Bool.eq_iff_iff]
    first | (simp only [eqE, validB, dvdB, eqB, cmpI, cmpM, addM, subM, lcmM, gcdM, zeroM, degM, beq_iff_eq, bne_iff_ne, bne_self_eq_false, beq_self_eq_true, decide_eq_true_eq, decide_eq_false_iff_not, beq_eq_false_iff_ne, Bool.and_true, Bool.and_self, Bool.not_true, Bool.not_false, Bool.or_eq_true, Bool.and_eq_true, Bool.not_eq_true', Bool.not_eq_false', Bool.not_eq_true, Bool.not_eq_false, Bool.or_eq_false_iff, Bool.and_eq_false_iff, Bool.false_eq_true, Bool.true_eq_false, ne_eq, true_iff, false_iff, iff_true, iff_false, not_true_eq_false, not_false_eq_true, cond_true, cond_false] at *; done) | (simp only [eqE, validB, dvdB, eqB, cmpI, cmpM, addM, subM, lcmM, gcdM, zeroM, degM, beq_iff_eq, bne_iff_ne, bne_self_eq_false, beq_self_eq_true, decide_eq_true_eq, decide_eq_false_iff_not, beq_eq_false_iff_ne, Bool.and_true, Bool.and_self, Bool.not_true, Bool.not_false, Bool.or_eq_true, Bool.and_eq_true, Bool.not_eq_true', Bool.not_eq_false', Bool.not_eq_true, Bool.not_eq_false, Bool.or_eq_false_iff, Bool.and_eq_false_iff, Bool.false_eq_true, Bool.true_eq_false, ne_eq, true_iff, false_iff, iff_true, iff_false, not_true_eq_false, not_false_eq_true, cond_true, cond_false] at *; omega) | omega

theorem g_valid1 (a : Nat → Int) : Gets Try.cx 31 [Ag a] (boolA (validB a)) := by
  refine gets_of (fn := Try.f31) (by kernel_rfl) rfl ?_
  show EvK _ _ _ ⟨[Ag a] ++ us 17, ⟨[], 0⟩⟩ _
  refine ev_seq ?_
  refine ev_reg (by kernel_rfl) ?_
  refine rs_all (s1 := ⟨[Ag a, .ptr 0 0 0, No] ++ us 15, ⟨[.row (Mc a) 0 .ow none], 1⟩⟩) (fun cf => by kernel_rfl) ?_
  refine ev_seq ?_
  refine ev_seq ?_
  refine ev_reg (by kernel_rfl) ?_
  refine rs_all (s1 := ⟨[Ag a, .ptr 0 0 0, No, J 0] ++ us 14, ⟨[.row (Mc a) 0 .ow none], 1⟩⟩) (fun cf => by kernel_rfl) ?_
  refine ev_block ?_
  refine ev_loop ?_
  refine ev_seq ?_
  refine ev_seq ?_
  refine ev_reg (by kernel_rfl) ?_
  refine rs_all (s1 := ⟨[Ag a, .ptr 0 0 0, No, J 0, J 0, Yes] ++ us 12, ⟨[.row (Mc a) 0 .ow none], 1⟩⟩) (fun cf => by kernel_rfl) ?_
  refine ev_true (by kernel_rfl) ?_
  refine ev_skip ?_
  refine ev_seq ?_
  refine ev_block ?_
  refine ev_seq ?_
  refine ev_reg (by kernel_rfl) ?_
  refine rs_take 5 (s1 := ⟨[Ag a, .ptr 0 0 0, No, J 0, J 0, Yes, U, U, J 0, .ptr 0 0 0, J (a 0), boolA (decide ((a 0) < 0)), boolA (decide ((a 0) < 0))] ++ us 5, ⟨[.row (Mc a) 0 .ow none], 1⟩⟩) (fun cf => by kernel_rfl) ?_
  rcases hb1 : ((decide ((a 0) < 0)) : Bool) with _ | _
  ·
    refine rs_all (s1 := ⟨[Ag a, .ptr 0 0 0, No, J 0, J 0, Yes, U, U, J 0, .ptr 0 0 0, J (a 0), No, No, J 0, .ptr 0 0 0, J (a 0), boolA (decide ((a 0) > 65535)), boolA (decide ((a 0) > 65535))], ⟨[.row (Mc a) 0 .ow none], 1⟩⟩) (fun cf => by kernel_rfl) ?_
    rcases hb2 : ((decide ((a 0) > 65535)) : Bool) with _ | _
    ·
      refine ev_false (by kernel_rfl) ?_
      refine ev_skip ?_
      refine ev_reg (by kernel_rfl) ?_
      refine rs_all (s1 := ⟨[Ag a, .ptr 0 0 0, No, J 1, J 0, Yes, J 0, J 1, J 0, .ptr 0 0 0, J (a 0), No, No, J 0, .ptr 0 0 0, J (a 0), No, No], ⟨[.row (Mc a) 0 .ow none], 1⟩⟩) (fun cf => by kernel_rfl) ?_
      refine ev_loop ?_
      refine ev_seq ?_
      refine ev_seq ?_
      refine ev_reg (by kernel_rfl) ?_
      refine rs_all (s1 := ⟨[Ag a, .ptr 0 0 0, No, J 1, J 1, Yes, J 0, J 1, J 0, .ptr 0 0 0, J (a 0), No, No, J 0, .ptr 0 0 0, J (a 0), No, No], ⟨[.row (Mc a) 0 .ow none], 1⟩⟩) (fun cf => by kernel_rfl) ?_
      refine ev_true (by kernel_rfl) ?_
      refine ev_skip ?_
      refine ev_seq ?_
      refine ev_block ?_
      refine ev_seq ?_
      refine ev_reg (by kernel_rfl) ?_
      refine rs_take 5 (s1 := ⟨[Ag a, .ptr 0 0 0, No, J 1, J 1, Yes, J 0, J 1, J 1, .ptr 0 0 1, J (a 1), boolA (decide ((a 1) < 0)), boolA (decide ((a 1) < 0)), J 0, .ptr 0 0 0, J (a 0), No, No], ⟨[.row (Mc a) 0 .ow none], 1⟩⟩) (fun cf => by kernel_rfl) ?_
      rcases hb3 : ((decide ((a 1) < 0)) : Bool) with _ | _
      ·
        refine rs_all (s1 := ⟨[Ag a, .ptr 0 0 0, No, J 1, J 1, Yes, J 0, J 1, J 1, .ptr 0 0 1, J (a 1), No, No, J 1, .ptr 0 0 1, J (a 1), boolA (decide ((a 1) > 65535)), boolA (decide ((a 1) > 65535))], ⟨[.row (Mc a) 0 .ow none], 1⟩⟩) (fun cf => by kernel_rfl) ?_
        rcases hb4 : ((decide ((a 1) > 65535)) : Bool) with _ | _
        ·
          refine ev_false (by kernel_rfl) ?_
          refine ev_skip ?_
          refine ev_reg (by kernel_rfl) ?_
          refine rs_all (s1 := ⟨[Ag a, .ptr 0 0 0, No, J 2, J 1, Yes, J 1, J 2, J 1, .ptr 0 0 1, J (a 1), No, No, J 1, .ptr 0 0 1, J (a 1), No, No], ⟨[.row (Mc a) 0 .ow none], 1⟩⟩) (fun cf => by kernel_rfl) ?_
          refine ev_loop ?_
          refine ev_seq ?_
          refine ev_seq ?_
          refine ev_reg (by kernel_rfl) ?_
          refine rs_all (s1 := ⟨[Ag a, .ptr 0 0 0, No, J 2, J 2, Yes, J 1, J 2, J 1, .ptr 0 0 1, J (a 1), No, No, J 1, .ptr 0 0 1, J (a 1), No, No], ⟨[.row (Mc a) 0 .ow none], 1⟩⟩) (fun cf => by kernel_rfl) ?_
          refine ev_true (by kernel_rfl) ?_
          refine ev_skip ?_
          refine ev_seq ?_
          refine ev_block ?_
          refine ev_seq ?_
          refine ev_reg (by kernel_rfl) ?_
          refine rs_take 5 (s1 := ⟨[Ag a, .ptr 0 0 0, No, J 2, J 2, Yes, J 1, J 2, J 2, .ptr 0 0 2, J (a 2), boolA (decide ((a 2) < 0)), boolA (decide ((a 2) < 0)), J 1, .ptr 0 0 1, J (a 1), No, No], ⟨[.row (Mc a) 0 .ow none], 1⟩⟩) (fun cf => by kernel_rfl) ?_
          rcases hb5 : ((decide ((a 2) < 0)) : Bool) with _ | _
          ·
            refine rs_all (s1 := ⟨[Ag a, .ptr 0 0 0, No, J 2, J 2, Yes, J 1, J 2, J 2, .ptr 0 0 2, J (a 2), No, No, J 2, .ptr 0 0 2, J (a 2), boolA (decide ((a 2) > 65535)), boolA (decide ((a 2) > 65535))], ⟨[.row (Mc a) 0 .ow none], 1⟩⟩) (fun cf => by kernel_rfl) ?_
            rcases hb6 : ((decide ((a 2) > 65535)) : Bool) with _ | _
            ·
              refine ev_false (by kernel_rfl) ?_
              refine ev_skip ?_
              refine ev_reg (by kernel_rfl) ?_
              refine rs_all (s1 := ⟨[Ag a, .ptr 0 0 0, No, J 3, J 2, Yes, J 2, J 3, J 2, .ptr 0 0 2, J (a 2), No, No, J 2, .ptr 0 0 2, J (a 2), No, No], ⟨[.row (Mc a) 0 .ow none], 1⟩⟩) (fun cf => by kernel_rfl) ?_
              refine ev_loop ?_
              refine ev_seq ?_
              refine ev_seq ?_
              refine ev_reg (by kernel_rfl) ?_
              refine rs_all (s1 := ⟨[Ag a, .ptr 0 0 0, No, J 3, J 3, Yes, J 2, J 3, J 2, .ptr 0 0 2, J (a 2), No, No, J 2, .ptr 0 0 2, J (a 2), No, No], ⟨[.row (Mc a) 0 .ow none], 1⟩⟩) (fun cf => by kernel_rfl) ?_
              refine ev_true (by kernel_rfl) ?_
              refine ev_skip ?_
              refine ev_seq ?_
              refine ev_block ?_
              refine ev_seq ?_
              refine ev_reg (by kernel_rfl) ?_
              refine rs_take 5 (s1 := ⟨[Ag a, .ptr 0 0 0, No, J 3, J 3, Yes, J 2, J 3, J 3, .ptr 0 0 3, J (a 3), boolA (decide ((a 3) < 0)), boolA (decide ((a 3) < 0)), J 2, .ptr 0 0 2, J (a 2), No, No], ⟨[.row (Mc a) 0 .ow none], 1⟩⟩) (fun cf => by kernel_rfl) ?_
              rcases hb7 : ((decide ((a 3) < 0)) : Bool) with _ | _
              ·
                refine rs_all (s1 := ⟨[Ag a, .ptr 0 0 0, No, J 3, J 3, Yes, J 2, J 3, J 3, .ptr 0 0 3, J (a 3), No, No, J 3, .ptr 0 0 3, J (a 3), boolA (decide ((a 3) > 65535)), boolA (decide ((a 3) > 65535))], ⟨[.row (Mc a) 0 .ow none], 1⟩⟩) (fun cf => by kernel_rfl) ?_
                rcases hb8 : ((decide ((a 3) > 65535)) : Bool) with _ | _
                ·
                  refine ev_false (by kernel_rfl) ?_
                  refine ev_skip ?_
                  refine ev_reg (by kernel_rfl) ?_
                  refine rs_all (s1 := ⟨[Ag a, .ptr 0 0 0, No, J 4, J 3, Yes, J 3, J 4, J 3, .ptr 0 0 3, J (a 3), No, No, J 3, .ptr 0 0 3, J (a 3), No, No], ⟨[.row (Mc a) 0 .ow none], 1⟩⟩) (fun cf => by kernel_rfl) ?_
                  refine ev_loop ?_
                  refine ev_seq ?_
                  refine ev_seq ?_
                  refine ev_reg (by kernel_rfl) ?_
                  refine rs_all (s1 := ⟨[Ag a, .ptr 0 0 0, No, J 4, J 4, Yes, J 3, J 4, J 3, .ptr 0 0 3, J (a 3), No, No, J 3, .ptr 0 0 3, J (a 3), No, No], ⟨[.row (Mc a) 0 .ow none], 1⟩⟩) (fun cf => by kernel_rfl) ?_
                  refine ev_true (by kernel_rfl) ?_
                  refine ev_skip ?_
                  refine ev_seq ?_
                  refine ev_block ?_
                  refine ev_seq ?_
                  refine ev_reg (by kernel_rfl) ?_
                  refine rs_take 5 (s1 := ⟨[Ag a, .ptr 0 0 0, No, J 4, J 4, Yes, J 3, J 4, J 4, .ptr 0 0 4, J (a 4), boolA (decide ((a 4) < 0)), boolA (decide ((a 4) < 0)), J 3, .ptr 0 0 3, J (a 3), No, No], ⟨[.row (Mc a) 0 .ow none], 1⟩⟩) (fun cf => by kernel_rfl) ?_
                  rcases hb9 : ((decide ((a 4) < 0)) : Bool) with _ | _
                  ·
                    refine rs_all (s1 := ⟨[Ag a, .ptr 0 0 0, No, J 4, J 4, Yes, J 3, J 4, J 4, .ptr 0 0 4, J (a 4), No, No, J 4, .ptr 0 0 4, J (a 4), boolA (decide ((a 4) > 65535)), boolA (decide ((a 4) > 65535))], ⟨[.row (Mc a) 0 .ow none], 1⟩⟩) (fun cf => by kernel_rfl) ?_
                    rcases hb10 : ((decide ((a 4) > 65535)) : Bool) with _ | _
                    ·
                      refine ev_false (by kernel_rfl) ?_
                      refine ev_skip ?_
                      refine ev_reg (by kernel_rfl) ?_
                      refine rs_all (s1 := ⟨[Ag a, .ptr 0 0 0, No, J 5, J 4, Yes, J 4, J 5, J 4, .ptr 0 0 4, J (a 4), No, No, J 4, .ptr 0 0 4, J (a 4), No, No], ⟨[.row (Mc a) 0 .ow none], 1⟩⟩) (fun cf => by kernel_rfl) ?_
                      refine ev_loop ?_
                      refine ev_seq ?_
                      refine ev_seq ?_
                      refine ev_reg (by kernel_rfl) ?_
                      refine rs_all (s1 := ⟨[Ag a, .ptr 0 0 0, No, J 5, J 5, Yes, J 4, J 5, J 4, .ptr 0 0 4, J (a 4), No, No, J 4, .ptr 0 0 4, J (a 4), No, No], ⟨[.row (Mc a) 0 .ow none], 1⟩⟩) (fun cf => by kernel_rfl) ?_
                      refine ev_true (by kernel_rfl) ?_
                      refine ev_skip ?_
                      refine ev_seq ?_
                      refine ev_block ?_
                      refine ev_seq ?_
                      refine ev_reg (by kernel_rfl) ?_
                      refine rs_take 5 (s1 := ⟨[Ag a, .ptr 0 0 0, No, J 5, J 5, Yes, J 4, J 5, J 5, .ptr 0 0 5, J (a 5), boolA (decide ((a 5) < 0)), boolA (decide ((a 5) < 0)), J 4, .ptr 0 0 4, J (a 4), No, No], ⟨[.row (Mc a) 0 .ow none], 1⟩⟩) (fun cf => by kernel_rfl) ?_
                      rcases hb11 : ((decide ((a 5) < 0)) : Bool) with _ | _
                      ·
                        refine rs_all (s1 := ⟨[Ag a, .ptr 0 0 0, No, J 5, J 5, Yes, J 4, J 5, J 5, .ptr 0 0 5, J (a 5), No, No, J 5, .ptr 0 0 5, J (a 5), boolA (decide ((a 5) > 65535)), boolA (decide ((a 5) > 65535))], ⟨[.row (Mc a) 0 .ow none], 1⟩⟩) (fun cf => by kernel_rfl) ?_
                        rcases hb12 : ((decide ((a 5) > 65535)) : Bool) with _ | _
                        ·
                          refine ev_false (by kernel_rfl) ?_
                          refine ev_skip ?_
                          refine ev_reg (by kernel_rfl) ?_
                          refine rs_all (s1 := ⟨[Ag a, .ptr 0 0 0, No, J 6, J 5, Yes, J 5, J 6, J 5, .ptr 0 0 5, J (a 5), No, No, J 5, .ptr 0 0 5, J (a 5), No, No], ⟨[.row (Mc a) 0 .ow none], 1⟩⟩) (fun cf => by kernel_rfl) ?_
                          refine ev_loop ?_
                          refine ev_seq ?_
                          refine ev_seq ?_
                          refine ev_reg (by kernel_rfl) ?_
                          refine rs_all (s1 := ⟨[Ag a, .ptr 0 0 0, No, J 6, J 6, Yes, J 5, J 6, J 5, .ptr 0 0 5, J (a 5), No, No, J 5, .ptr 0 0 5, J (a 5), No, No], ⟨[.row (Mc a) 0 .ow none], 1⟩⟩) (fun cf => by kernel_rfl) ?_
                          refine ev_true (by kernel_rfl) ?_
                          refine ev_skip ?_
                          refine ev_seq ?_
                          refine ev_block ?_
                          refine ev_seq ?_
                          refine ev_reg (by kernel_rfl) ?_
                          refine rs_take 5 (s1 := ⟨[Ag a, .ptr 0 0 0, No, J 6, J 6, Yes, J 5, J 6, J 6, .ptr 0 0 6, J (a 6), boolA (decide ((a 6) < 0)), boolA (decide ((a 6) < 0)), J 5, .ptr 0 0 5, J (a 5), No, No], ⟨[.row (Mc a) 0 .ow none], 1⟩⟩) (fun cf => by kernel_rfl) ?_
                          rcases hb13 : ((decide ((a 6) < 0)) : Bool) with _ | _
                          ·
                            refine rs_all (s1 := ⟨[Ag a, .ptr 0 0 0, No, J 6, J 6, Yes, J 5, J 6, J 6, .ptr 0 0 6, J (a 6), No, No, J 6, .ptr 0 0 6, J (a 6), boolA (decide ((a 6) > 65535)), boolA (decide ((a 6) > 65535))], ⟨[.row (Mc a) 0 .ow none], 1⟩⟩) (fun cf => by kernel_rfl) ?_
                            rcases hb14 : ((decide ((a 6) > 65535)) : Bool) with _ | _
                            ·
                              refine ev_false (by kernel_rfl) ?_
                              refine ev_skip ?_
                              refine ev_reg (by kernel_rfl) ?_
                              refine rs_all (s1 := ⟨[Ag a, .ptr 0 0 0, No, J 7, J 6, Yes, J 6, J 7, J 6, .ptr 0 0 6, J (a 6), No, No, J 6, .ptr 0 0 6, J (a 6), No, No], ⟨[.row (Mc a) 0 .ow none], 1⟩⟩) (fun cf => by kernel_rfl) ?_
                              refine ev_loop ?_
                              refine ev_seq ?_
                              refine ev_seq ?_
                              refine ev_reg (by kernel_rfl) ?_
                              refine rs_all (s1 := ⟨[Ag a, .ptr 0 0 0, No, J 7, J 7, Yes, J 6, J 7, J 6, .ptr 0 0 6, J (a 6), No, No, J 6, .ptr 0 0 6, J (a 6), No, No], ⟨[.row (Mc a) 0 .ow none], 1⟩⟩) (fun cf => by kernel_rfl) ?_
                              refine ev_true (by kernel_rfl) ?_
                              refine ev_skip ?_
                              refine ev_seq ?_
                              refine ev_block ?_
                              refine ev_seq ?_
                              refine ev_reg (by kernel_rfl) ?_
                              refine rs_take 5 (s1 := ⟨[Ag a, .ptr 0 0 0, No, J 7, J 7, Yes, J 6, J 7, J 7, .ptr 0 0 7, J (a 7), boolA (decide ((a 7) < 0)), boolA (decide ((a 7) < 0)), J 6, .ptr 0 0 6, J (a 6), No, No], ⟨[.row (Mc a) 0 .ow none], 1⟩⟩) (fun cf => by kernel_rfl) ?_
                              rcases hb15 : ((decide ((a 7) < 0)) : Bool) with _ | _
                              ·
                                refine rs_all (s1 := ⟨[Ag a, .ptr 0 0 0, No, J 7, J 7, Yes, J 6, J 7, J 7, .ptr 0 0 7, J (a 7), No, No, J 7, .ptr 0 0 7, J (a 7), boolA (decide ((a 7) > 65535)), boolA (decide ((a 7) > 65535))], ⟨[.row (Mc a) 0 .ow none], 1⟩⟩) (fun cf => by kernel_rfl) ?_
                                rcases hb16 : ((decide ((a 7) > 65535)) : Bool) with _ | _
                                ·
                                  refine ev_false (by kernel_rfl) ?_
                                  refine ev_skip ?_
                                  refine ev_reg (by kernel_rfl) ?_
                                  refine rs_all (s1 := ⟨[Ag a, .ptr 0 0 0, No, J 8, J 7, Yes, J 7, J 8, J 7, .ptr 0 0 7, J (a 7), No, No, J 7, .ptr 0 0 7, J (a 7), No, No], ⟨[.row (Mc a) 0 .ow none], 1⟩⟩) (fun cf => by kernel_rfl) ?_
                                  refine ev_loop ?_
                                  refine ev_seq ?_
                                  refine ev_seq ?_
                                  refine ev_reg (by kernel_rfl) ?_
                                  refine rs_all (s1 := ⟨[Ag a, .ptr 0 0 0, No, J 8, J 8, No, J 7, J 8, J 7, .ptr 0 0 7, J (a 7), No, No, J 7, .ptr 0 0 7, J (a 7), No, No], ⟨[.row (Mc a) 0 .ow none], 1⟩⟩) (fun cf => by kernel_rfl) ?_
                                  refine ev_false (by kernel_rfl) ?_
                                  refine ev_exit ?_
                                  refine ev_seq ?_
                                  refine ev_reg (by kernel_rfl) ?_
                                  refine rs_all (s1 := ⟨[Ag a, .ptr 0 0 0, Yes, J 8, J 8, No, J 7, J 8, J 7, .ptr 0 0 7, J (a 7), No, No, J 7, .ptr 0 0 7, J (a 7), No, No], ⟨[.row (Mc a) 0 .ow none], 1⟩⟩) (fun cf => by kernel_rfl) ?_
                                  refine ev_ret ?_
                                  refine leaf (r0 := Yes) (r1 := Yes) (.inr rfl) (by kernel_rfl) (by kernel_rfl) ?_
                                  refine congrArg boolA ?_
                                  rw [Bool.eq_iff_iff]
                                  first | (simp only [eqE, validB, dvdB, eqB, cmpI, cmpM, addM, subM, lcmM, gcdM, zeroM, degM, beq_iff_eq, bne_iff_ne, bne_self_eq_false, beq_self_eq_true, decide_eq_true_eq, decide_eq_false_iff_not, beq_eq_false_iff_ne, Bool.and_true, Bool.and_self, Bool.not_true, Bool.not_false, Bool.or_eq_true, Bool.and_eq_true, Bool.not_eq_true', Bool.not_eq_false', Bool.not_eq_true, Bool.not_eq_false, Bool.or_eq_false_iff, Bool.and_eq_false_iff, Bool.false_eq_true, Bool.true_eq_false, ne_eq, true_iff, false_iff, iff_true, iff_false, not_true_eq_false, not_false_eq_true, cond_true, cond_false] at *; done) | (simp only [eqE, validB, dvdB, eqB, cmpI, cmpM, addM, subM, lcmM, gcdM, zeroM, degM, beq_iff_eq, bne_iff_ne, bne_self_eq_false, beq_self_eq_true, decide_eq_true_eq, decide_eq_false_iff_not, beq_eq_false_iff_ne, Bool.and_true, Bool.and_self, Bool.not_true, Bool.not_false, Bool.or_eq_true, Bool.and_eq_true, Bool.not_eq_true', Bool.not_eq_false', Bool.not_eq_true, Bool.not_eq_false, Bool.or_eq_false_iff, Bool.and_eq_false_iff, Bool.false_eq_true, Bool.true_eq_false, ne_eq, true_iff, false_iff, iff_true, iff_false, not_true_eq_false, not_false_eq_true, cond_true, cond_false] at *; omega) | omega
                                ·
                                  refine ev_true (by kernel_rfl) ?_
                                  refine ev_seq ?_
                                  refine ev_reg (by kernel_rfl) ?_
                                  refine rs_all (s1 := ⟨[Ag a, .ptr 0 0 0, No, J 7, J 7, Yes, J 6, J 7, J 7, .ptr 0 0 7, J (a 7), No, No, J 7, .ptr 0 0 7, J (a 7), Yes, Yes], ⟨[.row (Mc a) 0 .ow none], 1⟩⟩) (fun cf => by kernel_rfl) ?_
                                  refine ev_ret ?_
                                  refine leaf (r0 := No) (r1 := No) (.inr rfl) (by kernel_rfl) (by kernel_rfl) ?_
                                  refine congrArg boolA ?_
                                  rw [Bool.eq_iff_iff]
                                  first | (simp only [eqE, validB, dvdB, eqB, cmpI, cmpM, addM, subM, lcmM, gcdM, zeroM, degM, beq_iff_eq, bne_iff_ne, bne_self_eq_false, beq_self_eq_true, decide_eq_true_eq, decide_eq_false_iff_not, beq_eq_false_iff_ne, Bool.and_true, Bool.and_self, Bool.not_true, Bool.not_false, Bool.or_eq_true, Bool.and_eq_true, Bool.not_eq_true', Bool.not_eq_false', Bool.not_eq_true, Bool.not_eq_false, Bool.or_eq_false_iff, Bool.and_eq_false_iff, Bool.false_eq_true, Bool.true_eq_false, ne_eq, true_iff, false_iff, iff_true, iff_false, not_true_eq_false, not_false_eq_true, cond_true, cond_false] at *; done) | (simp only [eqE, validB, dvdB, eqB, cmpI, cmpM, addM, subM, lcmM, gcdM, zeroM, degM, beq_iff_eq, bne_iff_ne, bne_self_eq_false, beq_self_eq_true, decide_eq_true_eq, decide_eq_false_iff_not, beq_eq_false_iff_ne, Bool.and_true, Bool.and_self, Bool.not_true, Bool.not_false, Bool.or_eq_true, Bool.and_eq_true, Bool.not_eq_true', Bool.not_eq_false', Bool.not_eq_true, Bool.not_eq_false, Bool.or_eq_false_iff, Bool.and_eq_false_iff, Bool.false_eq_true, Bool.true_eq_false, ne_eq, true_iff, false_iff, iff_true, iff_false, not_true_eq_false, not_false_eq_true, cond_true, cond_false] at *; omega) | omega
                              ·
                                refine rs_all (s1 := ⟨[Ag a, .ptr 0 0 0, No, J 7, J 7, Yes, J 6, J 7, J 7, .ptr 0 0 7, J (a 7), Yes, Yes] ++ us 4 ++ [Yes], ⟨[.row (Mc a) 0 .ow none], 1⟩⟩) (fun cf => by kernel_rfl) ?_
                                refine ev_true (by kernel_rfl) ?_
                                refine ev_seq ?_
                                refine ev_reg (by kernel_rfl) ?_
                                refine rs_all (s1 := ⟨[Ag a, .ptr 0 0 0, No, J 7, J 7, Yes, J 6, J 7, J 7, .ptr 0 0 7, J (a 7), Yes, Yes] ++ us 4 ++ [Yes], ⟨[.row (Mc a) 0 .ow none], 1⟩⟩) (fun cf => by kernel_rfl) ?_
                                refine ev_ret ?_
                                refine leaf (r0 := No) (r1 := No) (.inr rfl) (by kernel_rfl) (by kernel_rfl) ?_
                                refine congrArg boolA ?_
                                rw [Bool.eq_iff_iff]
                                first | (simp only [eqE, validB, dvdB, eqB, cmpI, cmpM, addM, subM, lcmM, gcdM, zeroM, degM, beq_iff_eq, bne_iff_ne, bne_self_eq_false, beq_self_eq_true, decide_eq_true_eq, decide_eq_false_iff_not, beq_eq_false_iff_ne, Bool.and_true, Bool.and_self, Bool.not_true, Bool.not_false, Bool.or_eq_true, Bool.and_eq_true, Bool.not_eq_true', Bool.not_eq_false', Bool.not_eq_true, Bool.not_eq_false, Bool.or_eq_false_iff, Bool.and_eq_false_iff, Bool.false_eq_true, Bool.true_eq_false, ne_eq, true_iff, false_iff, iff_true, iff_false, not_true_eq_false, not_false_eq_true, cond_true, cond_false] at *; done) | (simp only [eqE, validB, dvdB, eqB, cmpI, cmpM, addM, subM, lcmM, gcdM, zeroM, degM, beq_iff_eq, bne_iff_ne, bne_self_eq_false, beq_self_eq_true, decide_eq_true_eq, decide_eq_false_iff_not, beq_eq_false_iff_ne, Bool.and_true, Bool.and_self, Bool.not_true, Bool.not_false, Bool.or_eq_true, Bool.and_eq_true, Bool.not_eq_true', Bool.not_eq_false', Bool.not_eq_true, Bool.not_eq_false, Bool.or_eq_false_iff, Bool.and_eq_false_iff, Bool.false_eq_true, Bool.true_eq_false, ne_eq, true_iff, false_iff, iff_true, iff_false, not_true_eq_false, not_false_eq_true, cond_true, cond_false] at *; omega) | omega
                            ·
                              refine ev_true (by kernel_rfl) ?_
                              refine ev_seq ?_
                              refine ev_reg (by kernel_rfl) ?_
                              refine rs_all (s1 := ⟨[Ag a, .ptr 0 0 0, No, J 6, J 6, Yes, J 5, J 6, J 6, .ptr 0 0 6, J (a 6), No, No, J 6, .ptr 0 0 6, J (a 6), Yes, Yes], ⟨[.row (Mc a) 0 .ow none], 1⟩⟩) (fun cf => by kernel_rfl) ?_
                              refine ev_ret ?_
                              refine leaf (r0 := No) (r1 := No) (.inr rfl) (by kernel_rfl) (by kernel_rfl) ?_
                              refine congrArg boolA ?_
                              rw [Bool.eq_iff_iff]
                              first | (simp only [eqE, validB, dvdB, eqB, cmpI, cmpM, addM, subM, lcmM, gcdM, zeroM, degM, beq_iff_eq, bne_iff_ne, bne_self_eq_false, beq_self_eq_true, decide_eq_true_eq, decide_eq_false_iff_not, beq_eq_false_iff_ne, Bool.and_true, Bool.and_self, Bool.not_true, Bool.not_false, Bool.or_eq_true, Bool.and_eq_true, Bool.not_eq_true', Bool.not_eq_false', Bool.not_eq_true, Bool.not_eq_false, Bool.or_eq_false_iff, Bool.and_eq_false_iff, Bool.false_eq_true, Bool.true_eq_false, ne_eq, true_iff, false_iff, iff_true, iff_false, not_true_eq_false, not_false_eq_true, cond_true, cond_false] at *; done) | (simp only [eqE, validB, dvdB, eqB, cmpI, cmpM, addM, subM, lcmM, gcdM, zeroM, degM, beq_iff_eq, bne_iff_ne, bne_self_eq_false, beq_self_eq_true, decide_eq_true_eq, decide_eq_false_iff_not, beq_eq_false_iff_ne, Bool.and_true, Bool.and_self, Bool.not_true, Bool.not_false, Bool.or_eq_true, Bool.and_eq_true, Bool.not_eq_true', Bool.not_eq_false', Bool.not_eq_true, Bool.not_eq_false, Bool.or_eq_false_iff, Bool.and_eq_false_iff, Bool.false_eq_true, Bool.true_eq_false, ne_eq, true_iff, false_iff, iff_true, iff_false, not_true_eq_false, not_false_eq_true, cond_true, cond_false] at *; omega) | omega
                          ·
                            refine rs_all (s1 := ⟨[Ag a, .ptr 0 0 0, No, J 6, J 6, Yes, J 5, J 6, J 6, .ptr 0 0 6, J (a 6), Yes, Yes] ++ us 4 ++ [Yes], ⟨[.row (Mc a) 0 .ow none], 1⟩⟩) (fun cf => by kernel_rfl) ?_
                            refine ev_true (by kernel_rfl) ?_
                            refine ev_seq ?_
                            refine ev_reg (by kernel_rfl) ?_
                            refine rs_all (s1 := ⟨[Ag a, .ptr 0 0 0, No, J 6, J 6, Yes, J 5, J 6, J 6, .ptr 0 0 6, J (a 6), Yes, Yes] ++ us 4 ++ [Yes], ⟨[.row (Mc a) 0 .ow none], 1⟩⟩) (fun cf => by kernel_rfl) ?_
                            refine ev_ret ?_
                            refine leaf (r0 := No) (r1 := No) (.inr rfl) (by kernel_rfl) (by kernel_rfl) ?_
                            refine congrArg boolA ?_
                            rw [Bool.eq_iff_iff]
                            first | (simp only [eqE, validB, dvdB, eqB, cmpI, cmpM, addM, subM, lcmM, gcdM, zeroM, degM, beq_iff_eq, bne_iff_ne, bne_self_eq_false, beq_self_eq_true, decide_eq_true_eq, decide_eq_false_iff_not, beq_eq_false_iff_ne, Bool.and_true, Bool.and_self, Bool.not_true, Bool.not_false, Bool.or_eq_true, Bool.and_eq_true, Bool.not_eq_true', Bool.not_eq_false', Bool.not_eq_true, Bool.not_eq_false, Bool.or_eq_false_iff, Bool.and_eq_false_iff, Bool.false_eq_true, Bool.true_eq_false, ne_eq, true_iff, false_iff, iff_true, iff_false, not_true_eq_false, not_false_eq_true, cond_true, cond_false] at *; done) | (simp only [eqE, validB, dvdB, eqB, cmpI, cmpM, addM, subM, lcmM, gcdM, zeroM, degM, beq_iff_eq, bne_iff_ne, bne_self_eq_false, beq_self_eq_true, decide_eq_true_eq, decide_eq_false_iff_not, beq_eq_false_iff_ne, Bool.and_true, Bool.and_self, Bool.not_true, Bool.not_false, Bool.or_eq_true, Bool.and_eq_true, Bool.not_eq_true', Bool.not_eq_false', Bool.not_eq_true, Bool.not_eq_false, Bool.or_eq_false_iff, Bool.and_eq_false_iff, Bool.false_eq_true, Bool.true_eq_false, ne_eq, true_iff, false_iff, iff_true, iff_false, not_true_eq_false, not_false_eq_true, cond_true, cond_false] at *; omega) | omega
                        ·
                          refine ev_true (by kernel_rfl) ?_
                          refine ev_seq ?_
                          refine ev_reg (by kernel_rfl) ?_
                          refine rs_all (s1 := ⟨[Ag a, .ptr 0 0 0, No, J 5, J 5, Yes, J 4, J 5, J 5, .ptr 0 0 5, J (a 5), No, No, J 5, .ptr 0 0 5, J (a 5), Yes, Yes], ⟨[.row (Mc a) 0 .ow none], 1⟩⟩) (fun cf => by kernel_rfl) ?_
                          refine ev_ret ?_
                          refine leaf (r0 := No) (r1 := No) (.inr rfl) (by kernel_rfl) (by kernel_rfl) ?_
                          refine congrArg boolA ?_
                          rw [Bool.eq_iff_iff]
                          first | (simp only [eqE, validB, dvdB, eqB, cmpI, cmpM, addM, subM, lcmM, gcdM, zeroM, degM, beq_iff_eq, bne_iff_ne, bne_self_eq_false, beq_self_eq_true, decide_eq_true_eq, decide_eq_false_iff_not, beq_eq_false_iff_ne, Bool.and_true, Bool.and_self, Bool.not_true, Bool.not_false, Bool.or_eq_true, Bool.and_eq_true, Bool.not_eq_true', Bool.not_eq_false', Bool.not_eq_true, Bool.not_eq_false, Bool.or_eq_false_iff, Bool.and_eq_false_iff, Bool.false_eq_true, Bool.true_eq_false, ne_eq, true_iff, false_iff, iff_true, iff_false, not_true_eq_false, not_false_eq_true, cond_true, cond_false] at *; done) | (simp only [eqE, validB, dvdB, eqB, cmpI, cmpM, addM, subM, lcmM, gcdM, zeroM, degM, beq_iff_eq, bne_iff_ne, bne_self_eq_false, beq_self_eq_true, decide_eq_true_eq, decide_eq_false_iff_not, beq_eq_false_iff_ne, Bool.and_true, Bool.and_self, Bool.not_true, Bool.not_false, Bool.or_eq_true, Bool.and_eq_true, Bool.not_eq_true', Bool.not_eq_false', Bool.not_eq_true, Bool.not_eq_false, Bool.or_eq_false_iff, Bool.and_eq_false_iff, Bool.false_eq_true, Bool.true_eq_false, ne_eq, true_iff, false_iff, iff_true, iff_false, not_true_eq_false, not_false_eq_true, cond_true, cond_false] at *; omega) | omega
                      ·
                        refine rs_all (s1 := ⟨[Ag a, .ptr 0 0 0, No, J 5, J 5, Yes, J 4, J 5, J 5, .ptr 0 0 5, J (a 5), Yes, Yes] ++ us 4 ++ [Yes], ⟨[.row (Mc a) 0 .ow none], 1⟩⟩) (fun cf => by kernel_rfl) ?_
                        refine ev_true (by kernel_rfl) ?_
                        refine ev_seq ?_
                        refine ev_reg (by kernel_rfl) ?_
                        refine rs_all (s1 := ⟨[Ag a, .ptr 0 0 0, No, J 5, J 5, Yes, J 4, J 5, J 5, .ptr 0 0 5, J (a 5), Yes, Yes] ++ us 4 ++ [Yes], ⟨[.row (Mc a) 0 .ow none], 1⟩⟩) (fun cf => by kernel_rfl) ?_
                        refine ev_ret ?_
                        refine leaf (r0 := No) (r1 := No) (.inr rfl) (by kernel_rfl) (by kernel_rfl) ?_
                        refine congrArg boolA ?_
                        rw [Bool.eq_iff_iff]
                        first | (simp only [eqE, validB, dvdB, eqB, cmpI, cmpM, addM, subM, lcmM, gcdM, zeroM, degM, beq_iff_eq, bne_iff_ne, bne_self_eq_false, beq_self_eq_true, decide_eq_true_eq, decide_eq_false_iff_not, beq_eq_false_iff_ne, Bool.and_true, Bool.and_self, Bool.not_true, Bool.not_false, Bool.or_eq_true, Bool.and_eq_true, Bool.not_eq_true', Bool.not_eq_false', Bool.not_eq_true, Bool.not_eq_false, Bool.or_eq_false_iff, Bool.and_eq_false_iff, Bool.false_eq_true, Bool.true_eq_false, ne_eq, true_iff, false_iff, iff_true, iff_false, not_true_eq_false, not_false_eq_true, cond_true, cond_false] at *; done) | (simp only [eqE, validB, dvdB, eqB, cmpI, cmpM, addM, subM, lcmM, gcdM, zeroM, degM, beq_iff_eq, bne_iff_ne, bne_self_eq_false, beq_self_eq_true, decide_eq_true_eq, decide_eq_false_iff_not, beq_eq_false_iff_ne, Bool.and_true, Bool.and_self, Bool.not_true, Bool.not_false, Bool.or_eq_true, Bool.and_eq_true, Bool.not_eq_true', Bool.not_eq_false', Bool.not_eq_true, Bool.not_eq_false, Bool.or_eq_false_iff, Bool.and_eq_false_iff, Bool.false_eq_true, Bool.true_eq_false, ne_eq, true_iff, false_iff, iff_true, iff_false, not_true_eq_false, not_false_eq_true, cond_true, cond_false] at *; omega) | omega
                    ·
                      refine ev_true (by kernel_rfl) ?_
                      refine ev_seq ?_
                      refine ev_reg (by kernel_rfl) ?_
                      refine rs_all (s1 := ⟨[Ag a, .ptr 0 0 0, No, J 4, J 4, Yes, J 3, J 4, J 4, .ptr 0 0 4, J (a 4), No, No, J 4, .ptr 0 0 4, J (a 4), Yes, Yes], ⟨[.row (Mc a) 0 .ow none], 1⟩⟩) (fun cf => by kernel_rfl) ?_
                      refine ev_ret ?_
                      refine leaf (r0 := No) (r1 := No) (.inr rfl) (by kernel_rfl) (by kernel_rfl) ?_
                      refine congrArg boolA ?_
                      rw [Bool.eq_iff_iff]
                      first | (simp only [eqE, validB, dvdB, eqB, cmpI, cmpM, addM, subM, lcmM, gcdM, zeroM, degM, beq_iff_eq, bne_iff_ne, bne_self_eq_false, beq_self_eq_true, decide_eq_true_eq, decide_eq_false_iff_not, beq_eq_false_iff_ne, Bool.and_true, Bool.and_self, Bool.not_true, Bool.not_false, Bool.or_eq_true, Bool.and_eq_true, Bool.not_eq_true', Bool.not_eq_false', Bool.not_eq_true, Bool.not_eq_false, Bool.or_eq_false_iff, Bool.and_eq_false_iff, Bool.false_eq_true, Bool.true_eq_false, ne_eq, true_iff, false_iff, iff_true, iff_false, not_true_eq_false, not_false_eq_true, cond_true, cond_false] at *; done) | (simp only [eqE, validB, dvdB, eqB, cmpI, cmpM, addM, subM, lcmM, gcdM, zeroM, degM, beq_iff_eq, bne_iff_ne, bne_self_eq_false, beq_self_eq_true, decide_eq_true_eq, decide_eq_false_iff_not, beq_eq_false_iff_ne, Bool.and_true, Bool.and_self, Bool.not_true, Bool.not_false, Bool.or_eq_true, Bool.and_eq_true, Bool.not_eq_true', Bool.not_eq_false', Bool.not_eq_true, Bool.not_eq_false, Bool.or_eq_false_iff, Bool.and_eq_false_iff, Bool.false_eq_true, Bool.true_eq_false, ne_eq, true_iff, false_iff, iff_true, iff_false, not_true_eq_false, not_false_eq_true, cond_true, cond_false] at *; omega) | omega
                  ·
                    refine rs_all (s1 := ⟨[Ag a, .ptr 0 0 0, No, J 4, J 4, Yes, J 3, J 4, J 4, .ptr 0 0 4, J (a 4), Yes, Yes] ++ us 4 ++ [Yes], ⟨[.row (Mc a) 0 .ow none], 1⟩⟩) (fun cf => by kernel_rfl) ?_
                    refine ev_true (by kernel_rfl) ?_
                    refine ev_seq ?_
                    refine ev_reg (by kernel_rfl) ?_
                    refine rs_all (s1 := ⟨[Ag a, .ptr 0 0 0, No, J 4, J 4, Yes, J 3, J 4, J 4, .ptr 0 0 4, J (a 4), Yes, Yes] ++ us 4 ++ [Yes], ⟨[.row (Mc a) 0 .ow none], 1⟩⟩) (fun cf => by kernel_rfl) ?_
                    refine ev_ret ?_
                    refine leaf (r0 := No) (r1 := No) (.inr rfl) (by kernel_rfl) (by kernel_rfl) ?_
                    refine congrArg boolA ?_
                    rw [Bool.eq_iff_iff]
                    first | (simp only [eqE, validB, dvdB, eqB, cmpI, cmpM, addM, subM, lcmM, gcdM, zeroM, degM, beq_iff_eq, bne_iff_ne, bne_self_eq_false, beq_self_eq_true, decide_eq_true_eq, decide_eq_false_iff_not, beq_eq_false_iff_ne, Bool.and_true, Bool.and_self, Bool.not_true, Bool.not_false, Bool.or_eq_true, Bool.and_eq_true, Bool.not_eq_true', Bool.not_eq_false', Bool.not_eq_true, Bool.not_eq_false, Bool.or_eq_false_iff, Bool.and_eq_false_iff, Bool.false_eq_true, Bool.true_eq_false, ne_eq, true_iff, false_iff, iff_true, iff_false, not_true_eq_false, not_false_eq_true, cond_true, cond_false] at *; done) | (simp only [eqE, validB, dvdB, eqB, cmpI, cmpM, addM, subM, lcmM, gcdM, zeroM, degM, beq_iff_eq, bne_iff_ne, bne_self_eq_false, beq_self_eq_true, decide_eq_true_eq, decide_eq_false_iff_not, beq_eq_false_iff_ne, Bool.and_true, Bool.and_self, Bool.not_true, Bool.not_false, Bool.or_eq_true, Bool.and_eq_true, Bool.not_eq_true', Bool.not_eq_false', Bool.not_eq_true, Bool.not_eq_false, Bool.or_eq_false_iff, Bool.and_eq_false_iff, Bool.false_eq_true, Bool.true_eq_false, ne_eq, true_iff, false_iff, iff_true, iff_false, not_true_eq_false, not_false_eq_true, cond_true, cond_false] at *; omega) | omega
                ·
                  refine ev_true (by kernel_rfl) ?_
                  refine ev_seq ?_
                  refine ev_reg (by kernel_rfl) ?_
                  refine rs_all (s1 := ⟨[Ag a, .ptr 0 0 0, No, J 3, J 3, Yes, J 2, J 3, J 3, .ptr 0 0 3, J (a 3), No, No, J 3, .ptr 0 0 3, J (a 3), Yes, Yes], ⟨[.row (Mc a) 0 .ow none], 1⟩⟩) (fun cf => by kernel_rfl) ?_
                  refine ev_ret ?_
                  refine leaf (r0 := No) (r1 := No) (.inr rfl) (by kernel_rfl) (by kernel_rfl) ?_
                  refine congrArg boolA ?_
                  rw [Bool.eq_iff_iff]
                  first | (simp only [eqE, validB, dvdB, eqB, cmpI, cmpM, addM, subM, lcmM, gcdM, zeroM, degM, beq_iff_eq, bne_iff_ne, bne_self_eq_false, beq_self_eq_true, decide_eq_true_eq, decide_eq_false_iff_not, beq_eq_false_iff_ne, Bool.and_true, Bool.and_self, Bool.not_true, Bool.not_false, Bool.or_eq_true, Bool.and_eq_true, Bool.not_eq_true', Bool.not_eq_false', Bool.not_eq_true, Bool.not_eq_false, Bool.or_eq_false_iff, Bool.and_eq_false_iff, Bool.false_eq_true, Bool.true_eq_false, ne_eq, true_iff, false_iff, iff_true, iff_false, not_true_eq_false, not_false_eq_true, cond_true, cond_false] at *; done) | (simp only [eqE, validB, dvdB, eqB, cmpI, cmpM, addM, subM, lcmM, gcdM, zeroM, degM, beq_iff_eq, bne_iff_ne, bne_self_eq_false, beq_self_eq_true, decide_eq_true_eq, decide_eq_false_iff_not, beq_eq_false_iff_ne, Bool.and_true, Bool.and_self, Bool.not_true, Bool.not_false, Bool.or_eq_true, Bool.and_eq_true, Bool.not_eq_true', Bool.not_eq_false', Bool.not_eq_true, Bool.not_eq_false, Bool.or_eq_false_iff, Bool.and_eq_false_iff, Bool.false_eq_true, Bool.true_eq_false, ne_eq, true_iff, false_iff, iff_true, iff_false, not_true_eq_false, not_false_eq_true, cond_true, cond_false] at *; omega) | omega
              ·
                refine rs_all (s1 := ⟨[Ag a, .ptr 0 0 0, No, J 3, J 3, Yes, J 2, J 3, J 3, .ptr 0 0 3, J (a 3), Yes, Yes] ++ us 4 ++ [Yes], ⟨[.row (Mc a) 0 .ow none], 1⟩⟩) (fun cf => by kernel_rfl) ?_
                refine ev_true (by kernel_rfl) ?_
                refine ev_seq ?_
                refine ev_reg (by kernel_rfl) ?_
                refine rs_all (s1 := ⟨[Ag a, .ptr 0 0 0, No, J 3, J 3, Yes, J 2, J 3, J 3, .ptr 0 0 3, J (a 3), Yes, Yes] ++ us 4 ++ [Yes], ⟨[.row (Mc a) 0 .ow none], 1⟩⟩) (fun cf => by kernel_rfl) ?_
                refine ev_ret ?_
                refine leaf (r0 := No) (r1 := No) (.inr rfl) (by kernel_rfl) (by kernel_rfl) ?_
                refine congrArg boolA ?_
                rw [Bool.eq_iff_iff]
                first | (simp only [eqE, validB, dvdB, eqB, cmpI, cmpM, addM, subM, lcmM, gcdM, zeroM, degM, beq_iff_eq, bne_iff_ne, bne_self_eq_false, beq_self_eq_true, decide_eq_true_eq, decide_eq_false_iff_not, beq_eq_false_iff_ne, Bool.and_true, Bool.and_self, Bool.not_true, Bool.not_false, Bool.or_eq_true, Bool.and_eq_true, Bool.not_eq_true', Bool.not_eq_false', Bool.not_eq_true, Bool.not_eq_false, Bool.or_eq_false_iff, Bool.and_eq_false_iff, Bool.false_eq_true, Bool.true_eq_false, ne_eq, true_iff, false_iff, iff_true, iff_false, not_true_eq_false, not_false_eq_true, cond_true, cond_false] at *; done) | (simp only [eqE, validB, dvdB, eqB, cmpI, cmpM, addM, subM, lcmM, gcdM, zeroM, degM, beq_iff_eq, bne_iff_ne, bne_self_eq_false, beq_self_eq_true, decide_eq_true_eq, decide_eq_false_iff_not, beq_eq_false_iff_ne, Bool.and_true, Bool.and_self, Bool.not_true, Bool.not_false, Bool.or_eq_true, Bool.and_eq_true, Bool.not_eq_true', Bool.not_eq_false', Bool.not_eq_true, Bool.not_eq_false, Bool.or_eq_false_iff, Bool.and_eq_false_iff, Bool.false_eq_true, Bool.true_eq_false, ne_eq, true_iff, false_iff, iff_true, iff_false, not_true_eq_false, not_false_eq_true, cond_true, cond_false] at *; omega) | omega
            ·
              refine ev_true (by kernel_rfl) ?_
              refine ev_seq ?_
              refine ev_reg (by kernel_rfl) ?_
              refine rs_all (s1 := ⟨[Ag a, .ptr 0 0 0, No, J 2, J 2, Yes, J 1, J 2, J 2, .ptr 0 0 2, J (a 2), No, No, J 2, .ptr 0 0 2, J (a 2), Yes, Yes], ⟨[.row (Mc a) 0 .ow none], 1⟩⟩) (fun cf => by kernel_rfl) ?_
              refine ev_ret ?_
              refine leaf (r0 := No) (r1 := No) (.inr rfl) (by kernel_rfl) (by kernel_rfl) ?_
              refine congrArg boolA ?_
              rw [Bool.eq_iff_iff]
              first | (simp only [eqE, validB, dvdB, eqB, cmpI, cmpM, addM, subM, lcmM, gcdM, zeroM, degM, beq_iff_eq, bne_iff_ne, bne_self_eq_false, beq_self_eq_true, decide_eq_true_eq, decide_eq_false_iff_not, beq_eq_false_iff_ne, Bool.and_true, Bool.and_self, Bool.not_true, Bool.not_false, Bool.or_eq_true, Bool.and_eq_true, Bool.not_eq_true', Bool.not_eq_false', Bool.not_eq_true, Bool.not_eq_false, Bool.or_eq_false_iff, Bool.and_eq_false_iff, Bool.false_eq_true, Bool.true_eq_false, ne_eq, true_iff, false_iff, iff_true, iff_false, not_true_eq_false, not_false_eq_true, cond_true, cond_false] at *; done) | (simp only [eqE, validB, dvdB, eqB, cmpI, cmpM, addM, subM, lcmM, gcdM, zeroM, degM, beq_iff_eq, bne_iff_ne, bne_self_eq_false, beq_self_eq_true, decide_eq_true_eq, decide_eq_false_iff_not, beq_eq_false_iff_ne, Bool.and_true, Bool.and_self, Bool.not_true, Bool.not_false, Bool.or_eq_true, Bool.and_eq_true, Bool.not_eq_true', Bool.not_eq_false', Bool.not_eq_true, Bool.not_eq_false, Bool.or_eq_false_iff, Bool.and_eq_false_iff, Bool.false_eq_true, Bool.true_eq_false, ne_eq, true_iff, false_iff, iff_true, iff_false, not_true_eq_false, not_false_eq_true, cond_true, cond_false] at *; omega) | omega
          ·
            refine rs_all (s1 := ⟨[Ag a, .ptr 0 0 0, No, J 2, J 2, Yes, J 1, J 2, J 2, .ptr 0 0 2, J (a 2), Yes, Yes] ++ us 4 ++ [Yes], ⟨[.row (Mc a) 0 .ow none], 1⟩⟩) (fun cf => by kernel_rfl) ?_
            refine ev_true (by kernel_rfl) ?_
            refine ev_seq ?_
            refine ev_reg (by kernel_rfl) ?_
            refine rs_all (s1 := ⟨[Ag a, .ptr 0 0 0, No, J 2, J 2, Yes, J 1, J 2, J 2, .ptr 0 0 2, J (a 2), Yes, Yes] ++ us 4 ++ [Yes], ⟨[.row (Mc a) 0 .ow none], 1⟩⟩) (fun cf => by kernel_rfl) ?_
            refine ev_ret ?_
            refine leaf (r0 := No) (r1 := No) (.inr rfl) (by kernel_rfl) (by kernel_rfl) ?_
            refine congrArg boolA ?_
            rw [Bool.eq_iff_iff]
            first | (simp only [eqE, validB, dvdB, eqB, cmpI, cmpM, addM, subM, lcmM, gcdM, zeroM, degM, beq_iff_eq, bne_iff_ne, bne_self_eq_false, beq_self_eq_true, decide_eq_true_eq, decide_eq_false_iff_not, beq_eq_false_iff_ne, Bool.and_true, Bool.and_self, Bool.not_true, Bool.not_false, Bool.or_eq_true, Bool.and_eq_true, Bool.not_eq_true', Bool.not_eq_false', Bool.not_eq_true, Bool.not_eq_false, Bool.or_eq_false_iff, Bool.and_eq_false_iff, Bool.false_eq_true, Bool.true_eq_false, ne_eq, true_iff, false_iff, iff_true, iff_false, not_true_eq_false, not_false_eq_true, cond_true, cond_false] at *; done) | (simp only [eqE, validB, dvdB, eqB, cmpI, cmpM, addM, subM, lcmM, gcdM, zeroM, degM, beq_iff_eq, bne_iff_ne, bne_self_eq_false, beq_self_eq_true, decide_eq_true_eq, decide_eq_false_iff_not, beq_eq_false_iff_ne, Bool.and_true, Bool.and_self, Bool.not_true, Bool.not_false, Bool.or_eq_true, Bool.and_eq_true, Bool.not_eq_true', Bool.not_eq_false', Bool.not_eq_true, Bool.not_eq_false, Bool.or_eq_false_iff, Bool.and_eq_false_iff, Bool.false_eq_true, Bool.true_eq_false, ne_eq, true_iff, false_iff, iff_true, iff_false, not_true_eq_false, not_false_eq_true, cond_true, cond_false] at *; omega) | omega
        ·
          refine ev_true (by kernel_rfl) ?_
          refine ev_seq ?_
          refine ev_reg (by kernel_rfl) ?_
          refine rs_all (s1 := ⟨[Ag a, .ptr 0 0 0, No, J 1, J 1, Yes, J 0, J 1, J 1, .ptr 0 0 1, J (a 1), No, No, J 1, .ptr 0 0 1, J (a 1), Yes, Yes], ⟨[.row (Mc a) 0 .ow none], 1⟩⟩) (fun cf => by kernel_rfl) ?_
          refine ev_ret ?_
          refine leaf (r0 := No) (r1 := No) (.inr rfl) (by kernel_rfl) (by kernel_rfl) ?_
          refine congrArg boolA ?_
          rw [Bool.eq_iff_iff]
          first | (simp only [eqE, validB, dvdB, eqB, cmpI, cmpM, addM, subM, lcmM, gcdM, zeroM, degM, beq_iff_eq, bne_iff_ne, bne_self_eq_false, beq_self_eq_true, decide_eq_true_eq, decide_eq_false_iff_not, beq_eq_false_iff_ne, Bool.and_true, Bool.and_self, Bool.not_true, Bool.not_false, Bool.or_eq_true, Bool.and_eq_true, Bool.not_eq_true', Bool.not_eq_false', Bool.not_eq_true, Bool.not_eq_false, Bool.or_eq_false_iff, Bool.and_eq_false_iff, Bool.false_eq_true, Bool.true_eq_false, ne_eq, true_iff, false_iff, iff_true, iff_false, not_true_eq_false, not_false_eq_true, cond_true, cond_false] at *; done) | (simp only [eqE, validB, dvdB, eqB, cmpI, cmpM, addM, subM, lcmM, gcdM, zeroM, degM, beq_iff_eq, bne_iff_ne, bne_self_eq_false, beq_self_eq_true, decide_eq_true_eq, decide_eq_false_iff_not, beq_eq_false_iff_ne, Bool.and_true, Bool.and_self, Bool.not_true, Bool.not_false, Bool.or_eq_true, Bool.and_eq_true, Bool.not_eq_true', Bool.not_eq_false', Bool.not_eq_true, Bool.not_eq_false, Bool.or_eq_false_iff, Bool.and_eq_false_iff, Bool.false_eq_true, Bool.true_eq_false, ne_eq, true_iff, false_iff, iff_true, iff_false, not_true_eq_false, not_false_eq_true, cond_true, cond_false] at *; omega) | omega
      ·
        refine rs_all (s1 := ⟨[Ag a, .ptr 0 0 0, No, J 1, J 1, Yes, J 0, J 1, J 1, .ptr 0 0 1, J (a 1), Yes, Yes] ++ us 4 ++ [Yes], ⟨[.row (Mc a) 0 .ow none], 1⟩⟩) (fun cf => by kernel_rfl) ?_
        refine ev_true (by kernel_rfl) ?_
        refine ev_seq ?_
        refine ev_reg (by kernel_rfl) ?_
        refine rs_all (s1 := ⟨[Ag a, .ptr 0 0 0, No, J 1, J 1, Yes, J 0, J 1, J 1, .ptr 0 0 1, J (a 1), Yes, Yes] ++ us 4 ++ [Yes], ⟨[.row (Mc a) 0 .ow none], 1⟩⟩) (fun cf => by kernel_rfl) ?_
        refine ev_ret ?_
        refine leaf (r0 := No) (r1 := No) (.inr rfl) (by kernel_rfl) (by kernel_rfl) ?_
        refine congrArg boolA ?_
        rw [Bool.eq_iff_iff]
        first | (simp only [eqE, validB, dvdB, eqB, cmpI, cmpM, addM, subM, lcmM, gcdM, zeroM, degM, beq_iff_eq, bne_iff_ne, bne_self_eq_false, beq_self_eq_true, decide_eq_true_eq, decide_eq_false_iff_not, beq_eq_false_iff_ne, Bool.and_true, Bool.and_self, Bool.not_true, Bool.not_false, Bool.or_eq_true, Bool.and_eq_true, Bool.not_eq_true', Bool.not_eq_false', Bool.not_eq_true, Bool.not_eq_false, Bool.or_eq_false_iff, Bool.and_eq_false_iff, Bool.false_eq_true, Bool.true_eq_false, ne_eq, true_iff, false_iff, iff_true, iff_false, not_true_eq_false, not_false_eq_true, cond_true, cond_false] at *; done) | (simp only [eqE, validB, dvdB, eqB, cmpI, cmpM, addM, subM, lcmM, gcdM, zeroM, degM, beq_iff_eq, bne_iff_ne, bne_self_eq_false, beq_self_eq_true, decide_eq_true_eq, decide_eq_false_iff_not, beq_eq_false_iff_ne, Bool.and_true, Bool.and_self, Bool.not_true, Bool.not_false, Bool.or_eq_true, Bool.and_eq_true, Bool.not_eq_true', Bool.not_eq_false', Bool.not_eq_true, Bool.not_eq_false, Bool.or_eq_false_iff, Bool.and_eq_false_iff, Bool.false_eq_true, Bool.true_eq_false, ne_eq, true_iff, false_iff, iff_true, iff_false, not_true_eq_false, not_false_eq_true, cond_true, cond_false] at *; omega) | omega
    ·
      refine ev_true (by kernel_rfl) ?_
      refine ev_seq ?_
      refine ev_reg (by kernel_rfl) ?_
      refine rs_all (s1 := ⟨[Ag a, .ptr 0 0 0, No, J 0, J 0, Yes, U, U, J 0, .ptr 0 0 0, J (a 0), No, No, J 0, .ptr 0 0 0, J (a 0), Yes, Yes], ⟨[.row (Mc a) 0 .ow none], 1⟩⟩) (fun cf => by kernel_rfl) ?_
      refine ev_ret ?_
      refine leaf (r0 := No) (r1 := No) (.inr rfl) (by kernel_rfl) (by kernel_rfl) ?_
      refine congrArg boolA ?_
      rw [Bool.eq_iff_iff]
      first | (simp only [eqE, validB, dvdB, eqB, cmpI, cmpM, addM, subM, lcmM, gcdM, zeroM, degM, beq_iff_eq, bne_iff_ne, bne_self_eq_false, beq_self_eq_true, decide_eq_true_eq, decide_eq_false_iff_not, beq_eq_false_iff_ne, Bool.and_true, Bool.and_self, Bool.not_true, Bool.not_false, Bool.or_eq_true, Bool.and_eq_true, Bool.not_eq_true', Bool.not_eq_false', Bool.not_eq_true, Bool.not_eq_false, Bool.or_eq_false_iff, Bool.and_eq_false_iff, Bool.false_eq_true, Bool.true_eq_false, ne_eq, true_iff, false_iff, iff_true, iff_false, not_true_eq_false, not_false_eq_true, cond_true, cond_false] at *; done) | (simp only [eqE, validB, dvdB, eqB, cmpI, cmpM, addM, subM, lcmM, gcdM, zeroM, degM, beq_iff_eq, bne_iff_ne, bne_self_eq_false, beq_self_eq_true, decide_eq_true_eq, decide_eq_false_iff_not, beq_eq_false_iff_ne, Bool.and_true, Bool.and_self, Bool.not_true, Bool.not_false, Bool.or_eq_true, Bool.and_eq_true, Bool.not_eq_true', Bool.not_eq_false', Bool.not_eq_true, Bool.not_eq_false, Bool.or_eq_false_iff, Bool.and_eq_false_iff, Bool.false_eq_true, Bool.true_eq_false, ne_eq, true_iff, false_iff, iff_true, iff_false, not_true_eq_false, not_false_eq_true, cond_true, cond_false] at *; omega) | omega
  ·
    refine rs_all (s1 := ⟨[Ag a, .ptr 0 0 0, No, J 0, J 0, Yes, U, U, J 0, .ptr 0 0 0, J (a 0), Yes, Yes] ++ us 4 ++ [Yes], ⟨[.row (Mc a) 0 .ow none], 1⟩⟩) (fun cf => by kernel_rfl) ?_
    refine ev_true (by kernel_rfl) ?_
    refine ev_seq ?_
    refine ev_reg (by kernel_rfl) ?_
    refine rs_all (s1 := ⟨[Ag a, .ptr 0 0 0, No, J 0, J 0, Yes, U, U, J 0, .ptr 0 0 0, J (a 0), Yes, Yes] ++ us 4 ++ [Yes], ⟨[.row (Mc a) 0 .ow none], 1⟩⟩) (fun cf => by kernel_rfl) ?_
    refine ev_ret ?_
    refine leaf (r0 := No) (r1 := No) (.inr rfl) (by kernel_rfl) (by kernel_rfl) ?_
    refine congrArg boolA ?_
    rw [Bool.eq_iff_iff]
    first | (simp only [eqE, validB, dvdB, eqB, cmpI, cmpM, addM, subM, lcmM, gcdM, zeroM, degM, beq_iff_eq, bne_iff_ne, bne_self_eq_false, beq_self_eq_true, decide_eq_true_eq, decide_eq_false_iff_not, beq_eq_false_iff_ne, Bool.and_true, Bool.and_self, Bool.not_true, Bool.not_false, Bool.or_eq_true, Bool.and_eq_true, Bool.not_eq_true', Bool.not_eq_false', Bool.not_eq_true, Bool.not_eq_false, Bool.or_eq_false_iff, Bool.and_eq_false_iff, Bool.false_eq_true, Bool.true_eq_false, ne_eq, true_iff, false_iff, iff_true, iff_false, not_true_eq_false, not_false_eq_true, cond_true, cond_false] at *; done) | (simp only [eqE, validB, dvdB, eqB, cmpI, cmpM, addM, subM, lcmM, gcdM, zeroM, degM, beq_iff_eq, bne_iff_ne, bne_self_eq_false, beq_self_eq_true, decide_eq_true_eq, decide_eq_false_iff_not, beq_eq_false_iff_ne, Bool.and_true, Bool.and_self, Bool.not_true, Bool.not_false, Bool.or_eq_true, Bool.and_eq_true, Bool.not_eq_true', Bool.not_eq_false', Bool.not_eq_true, Bool.not_eq_false, Bool.or_eq_false_iff, Bool.and_eq_false_iff, Bool.false_eq_true, Bool.true_eq_false, ne_eq, true_iff, false_iff, iff_true, iff_false, not_true_eq_false, not_false_eq_true, cond_true, cond_false] at *; omega) | omega

theorem g_add {a b : Nat → Int} (ha : InR a) (hb : InR b) : Gets Try.cx 37 [Ag a, Ag b, .fn 38 []] (.ag (Mc (addM a b))) := by
  have h : Gets Try.cx 37 [Ag a, Ag b, .fn 38 []] (.ag [intA .i64 (IntKind.wrap .i64 (a 0 + b 0)), intA .i64 (IntKind.wrap .i64 (a 1 + b 1)), intA .i64 (IntKind.wrap .i64 (a 2 + b 2)), intA .i64 (IntKind.wrap .i64 (a 3 + b 3)), intA .i64 (IntKind.wrap .i64 (a 4 + b 4)), intA .i64 (IntKind.wrap .i64 (a 5 + b 5)), intA .i64 (IntKind.wrap .i64 (a 6 + b 6)), intA .i64 (IntKind.wrap .i64 (a 7 + b 7))]) := gets_run 100 (by kernel_rfl)
  have e : ∀ i, i < 8 → IntKind.wrap .i64 (a i + b i) = addM a b i := fun i hi => by
    have h1 := ha i hi
    have h2 := hb i hi
    exact wrap64 (by omega) (by omega)
  simp only [e 0 (by decide), e 1 (by decide), e 2 (by decide), e 3 (by decide), e 4 (by decide), e 5 (by decide), e 6 (by decide), e 7 (by decide)] at h
  exact h

theorem g_sub {a b : Nat → Int} (ha : InR a) (hb : InR b) : Gets Try.cx 37 [Ag a, Ag b, .fn 39 []] (.ag (Mc (subM a b))) := by
  have h : Gets Try.cx 37 [Ag a, Ag b, .fn 39 []] (.ag [intA .i64 (IntKind.wrap .i64 (a 0 - b 0)), intA .i64 (IntKind.wrap .i64 (a 1 - b 1)), intA .i64 (IntKind.wrap .i64 (a 2 - b 2)), intA .i64 (IntKind.wrap .i64 (a 3 - b 3)), intA .i64 (IntKind.wrap .i64 (a 4 - b 4)), intA .i64 (IntKind.wrap .i64 (a 5 - b 5)), intA .i64 (IntKind.wrap .i64 (a 6 - b 6)), intA .i64 (IntKind.wrap .i64 (a 7 - b 7))]) := gets_run 100 (by kernel_rfl)
  have e : ∀ i, i < 8 → IntKind.wrap .i64 (a i - b i) = subM a b i := fun i hi => by
    have h1 := ha i hi
    have h2 := hb i hi
    exact wrap64 (by omega) (by omega)
  simp only [e 0 (by decide), e 1 (by decide), e 2 (by decide), e 3 (by decide), e 4 (by decide), e 5 (by decide), e 6 (by decide), e 7 (by decide)] at h
  exact h

theorem g_emax (a b : Nat → Int) : Gets Try.cx 37 [Ag a, Ag b, .fn 41 []] (.ag (Mc (lcmM a b))) := gets_run 100 (by kernel_rfl)

theorem g_emin (a b : Nat → Int) : Gets Try.cx 37 [Ag a, Ag b, .fn 42 []] (.ag (Mc (gcdM a b))) := gets_run 100 (by kernel_rfl)

theorem g_lcm (a b : Nat → Int) : Gets Try.cx 21 [Ag a, Ag b] (.ag (Mc (lcmM a b))) := gets_run 100 (by kernel_rfl)

theorem g_lcm1 (a b : Nat → Int) : Gets Try.cx 22 [Ag a, Ag b] (.ag (Mc (lcmM a b))) := gets_run 100 (by kernel_rfl)

theorem g_gcd (a b : Nat → Int) : Gets Try.cx 23 [Ag a, Ag b] (.ag (Mc (gcdM a b))) := gets_run 100 (by kernel_rfl)

theorem g_gcd1 (a b : Nat → Int) : Gets Try.cx 24 [Ag a, Ag b] (.ag (Mc (gcdM a b))) := gets_run 100 (by kernel_rfl)

theorem g_dvd (a b : Nat → Int) : Gets Try.cx 17 [Ag a, Ag b] (boolA (dvdB a b)) := by
  refine gets_of (fn := Try.f17) (by kernel_rfl) rfl ?_
  show EvK _ _ _ ⟨[Ag a, Ag b] ++ us 8, ⟨[], 0⟩⟩ _
  refine ev_seq ?_
  refine ev_reg (by kernel_rfl) ?_
  refine rs_all (s1 := ⟨[Ag a, Ag b, .ptr 0 0 0, .ptr 1 1 0, No] ++ us 5, ⟨[.row (Mc a) 0 .ow none, .row (Mc b) 1 .ow none], 2⟩⟩) (fun cf => by kernel_rfl) ?_
  refine ev_seq ?_
  refine ev_reg (by kernel_rfl) ?_
  refine rs_take 2 (s1 := ⟨[Ag a, Ag b, .ptr 0 0 0, .ptr 1 1 0, No, Ag a, Ag b] ++ us 3, ⟨[.row (Mc a) 0 .ow none, .row (Mc b) 1 .ow none], 2⟩⟩) (fun cf => by kernel_rfl) ?_
  refine rs_pure (g := 23) (bs := [Ag a, Ag b]) (ow := false) (r := Ag (gcdM a b)) (s1 := ⟨[Ag a, Ag b, .ptr 0 0 0, .ptr 1 1 0, No, Ag a, Ag b, Ag (gcdM a b), U, U], ⟨[.row (Mc a) 0 .ow none, .row (Mc b) 1 .ow none], 2⟩⟩) (by kernel_rfl) (g_gcd a b) (by kernel_rfl) (by kernel_rfl) ?_
  refine rs_all (s1 := ⟨[Ag a, Ag b, .ptr 0 0 0, .ptr 1 1 0, boolA (eqE (gcdM a b) a), Ag a, Ag b, Ag (gcdM a b), Ag a, boolA (eqE (gcdM a b) a)], ⟨[.row (Mc a) 0 .ow none, .row (Mc b) 1 .ow none], 2⟩⟩) (fun cf => by kernel_rfl) ?_
  refine ev_ret ?_
  refine leaf (r0 := boolA (eqE (gcdM a b) a)) (r1 := boolA (eqE (gcdM a b) a)) (.inr rfl) (by kernel_rfl) (by kernel_rfl) ?_
  refine congrArg boolA ?_
  rw [Bool.eq_iff_iff]
  first | (simp only [eqE, validB, dvdB, eqB, cmpI, cmpM, addM, subM, lcmM, gcdM, zeroM, degM, beq_iff_eq, bne_iff_ne, bne_self_eq_false, beq_self_eq_true, decide_eq_true_eq, decide_eq_false_iff_not, beq_eq_false_iff_ne, Bool.and_true, Bool.and_self, Bool.not_true, Bool.not_false, Bool.or_eq_true, Bool.and_eq_true, Bool.not_eq_true', Bool.not_eq_false', Bool.not_eq_true, Bool.not_eq_false, Bool.or_eq_false_iff, Bool.and_eq_false_iff, Bool.false_eq_true, Bool.true_eq_false, ne_eq, true_iff, false_iff, iff_true, iff_false, not_true_eq_false, not_false_eq_true, cond_true, cond_false] at *; done) | (simp only [eqE, validB, dvdB, eqB, cmpI, cmpM, addM, subM, lcmM, gcdM, zeroM, degM, beq_iff_eq, bne_iff_ne, bne_self_eq_false, beq_self_eq_true, decide_eq_true_eq, decide_eq_false_iff_not, beq_eq_false_iff_ne, Bool.and_true, Bool.and_self, Bool.not_true, Bool.not_false, Bool.or_eq_true, Bool.and_eq_true, Bool.not_eq_true', Bool.not_eq_false', Bool.not_eq_true, Bool.not_eq_false, Bool.or_eq_false_iff, Bool.and_eq_false_iff, Bool.false_eq_true, Bool.true_eq_false, ne_eq, true_iff, false_iff, iff_true, iff_false, not_true_eq_false, not_false_eq_true, cond_true, cond_false] at *; omega) | omega

theorem g_dvd1 (a b : Nat → Int) : Gets Try.cx 18 [Ag a, Ag b] (boolA (dvdB a b)) := by
  refine gets_of (fn := Try.f18) (by kernel_rfl) rfl ?_
  show EvK _ _ _ ⟨[Ag a, Ag b] ++ us 15, ⟨[], 0⟩⟩ _
  refine ev_seq ?_
  refine ev_reg (by kernel_rfl) ?_
  refine rs_all (s1 := ⟨[Ag a, Ag b, .ptr 0 0 0, .ptr 1 1 0, No] ++ us 12, ⟨[.row (Mc a) 0 .ow none, .row (Mc b) 1 .ow none], 2⟩⟩) (fun cf => by kernel_rfl) ?_
  refine ev_seq ?_
  refine ev_seq ?_
  refine ev_reg (by kernel_rfl) ?_
  refine rs_all (s1 := ⟨[Ag a, Ag b, .ptr 0 0 0, .ptr 1 1 0, No, J 0] ++ us 11, ⟨[.row (Mc a) 0 .ow none, .row (Mc b) 1 .ow none], 2⟩⟩) (fun cf => by kernel_rfl) ?_
  refine ev_block ?_
  refine ev_loop ?_
  refine ev_seq ?_
  refine ev_seq ?_
  refine ev_reg (by kernel_rfl) ?_
  refine rs_all (s1 := ⟨[Ag a, Ag b, .ptr 0 0 0, .ptr 1 1 0, No, J 0, J 0, Yes] ++ us 9, ⟨[.row (Mc a) 0 .ow none, .row (Mc b) 1 .ow none], 2⟩⟩) (fun cf => by kernel_rfl) ?_
  refine ev_true (by kernel_rfl) ?_
  refine ev_skip ?_
  refine ev_seq ?_
  refine ev_block ?_
  refine ev_seq ?_
  refine ev_reg (by kernel_rfl) ?_
  refine rs_all (s1 := ⟨[Ag a, Ag b, .ptr 0 0 0, .ptr 1 1 0, No, J 0, J 0, Yes, U, U, J 0, .ptr 0 0 0, J (a 0), J 0, .ptr 1 1 0, J (b 0), boolA (decide ((a 0) > (b 0)))], ⟨[.row (Mc a) 0 .ow none, .row (Mc b) 1 .ow none], 2⟩⟩) (fun cf => by kernel_rfl) ?_
  rcases hb1 : ((decide ((a 0) > (b 0))) : Bool) with _ | _
  ·
    refine ev_false (by kernel_rfl) ?_
    refine ev_skip ?_
    refine ev_reg (by kernel_rfl) ?_
    refine rs_all (s1 := ⟨[Ag a, Ag b, .ptr 0 0 0, .ptr 1 1 0, No, J 1, J 0, Yes, J 0, J 1, J 0, .ptr 0 0 0, J (a 0), J 0, .ptr 1 1 0, J (b 0), No], ⟨[.row (Mc a) 0 .ow none, .row (Mc b) 1 .ow none], 2⟩⟩) (fun cf => by kernel_rfl) ?_
    refine ev_loop ?_
    refine ev_seq ?_
    refine ev_seq ?_
    refine ev_reg (by kernel_rfl) ?_
    refine rs_all (s1 := ⟨[Ag a, Ag b, .ptr 0 0 0, .ptr 1 1 0, No, J 1, J 1, Yes, J 0, J 1, J 0, .ptr 0 0 0, J (a 0), J 0, .ptr 1 1 0, J (b 0), No], ⟨[.row (Mc a) 0 .ow none, .row (Mc b) 1 .ow none], 2⟩⟩) (fun cf => by kernel_rfl) ?_
    refine ev_true (by kernel_rfl) ?_
    refine ev_skip ?_
    refine ev_seq ?_
    refine ev_block ?_
    refine ev_seq ?_
    refine ev_reg (by kernel_rfl) ?_
    refine rs_all (s1 := ⟨[Ag a, Ag b, .ptr 0 0 0, .ptr 1 1 0, No, J 1, J 1, Yes, J 0, J 1, J 1, .ptr 0 0 1, J (a 1), J 1, .ptr 1 1 1, J (b 1), boolA (decide ((a 1) > (b 1)))], ⟨[.row (Mc a) 0 .ow none, .row (Mc b) 1 .ow none], 2⟩⟩) (fun cf => by kernel_rfl) ?_
    rcases hb2 : ((decide ((a 1) > (b 1))) : Bool) with _ | _
    ·
      refine ev_false (by kernel_rfl) ?_
      refine ev_skip ?_
      refine ev_reg (by kernel_rfl) ?_
      refine rs_all (s1 := ⟨[Ag a, Ag b, .ptr 0 0 0, .ptr 1 1 0, No, J 2, J 1, Yes, J 1, J 2, J 1, .ptr 0 0 1, J (a 1), J 1, .ptr 1 1 1, J (b 1), No], ⟨[.row (Mc a) 0 .ow none, .row (Mc b) 1 .ow none], 2⟩⟩) (fun cf => by kernel_rfl) ?_
      refine ev_loop ?_
      refine ev_seq ?_
      refine ev_seq ?_
      refine ev_reg (by kernel_rfl) ?_
      refine rs_all (s1 := ⟨[Ag a, Ag b, .ptr 0 0 0, .ptr 1 1 0, No, J 2, J 2, Yes, J 1, J 2, J 1, .ptr 0 0 1, J (a 1), J 1, .ptr 1 1 1, J (b 1), No], ⟨[.row (Mc a) 0 .ow none, .row (Mc b) 1 .ow none], 2⟩⟩) (fun cf => by kernel_rfl) ?_
      refine ev_true (by kernel_rfl) ?_
      refine ev_skip ?_
      refine ev_seq ?_
      refine ev_block ?_
      refine ev_seq ?_
      refine ev_reg (by kernel_rfl) ?_
      refine rs_all (s1 := ⟨[Ag a, Ag b, .ptr 0 0 0, .ptr 1 1 0, No, J 2, J 2, Yes, J 1, J 2, J 2, .ptr 0 0 2, J (a 2), J 2, .ptr 1 1 2, J (b 2), boolA (decide ((a 2) > (b 2)))], ⟨[.row (Mc a) 0 .ow none, .row (Mc b) 1 .ow none], 2⟩⟩) (fun cf => by kernel_rfl) ?_
      rcases hb3 : ((decide ((a 2) > (b 2))) : Bool) with _ | _
      ·
        refine ev_false (by kernel_rfl) ?_
        refine ev_skip ?_
        refine ev_reg (by kernel_rfl) ?_
        refine rs_all (s1 := ⟨[Ag a, Ag b, .ptr 0 0 0, .ptr 1 1 0, No, J 3, J 2, Yes, J 2, J 3, J 2, .ptr 0 0 2, J (a 2), J 2, .ptr 1 1 2, J (b 2), No], ⟨[.row (Mc a) 0 .ow none, .row (Mc b) 1 .ow none], 2⟩⟩) (fun cf => by kernel_rfl) ?_
        refine ev_loop ?_
        refine ev_seq ?_
        refine ev_seq ?_
        refine ev_reg (by kernel_rfl) ?_
        refine rs_all (s1 := ⟨[Ag a, Ag b, .ptr 0 0 0, .ptr 1 1 0, No, J 3, J 3, Yes, J 2, J 3, J 2, .ptr 0 0 2, J (a 2), J 2, .ptr 1 1 2, J (b 2), No], ⟨[.row (Mc a) 0 .ow none, .row (Mc b) 1 .ow none], 2⟩⟩) (fun cf => by kernel_rfl) ?_
        refine ev_true (by kernel_rfl) ?_
        refine ev_skip ?_
        refine ev_seq ?_
        refine ev_block ?_
        refine ev_seq ?_
        refine ev_reg (by kernel_rfl) ?_
        refine rs_all (s1 := ⟨[Ag a, Ag b, .ptr 0 0 0, .ptr 1 1 0, No, J 3, J 3, Yes, J 2, J 3, J 3, .ptr 0 0 3, J (a 3), J 3, .ptr 1 1 3, J (b 3), boolA (decide ((a 3) > (b 3)))], ⟨[.row (Mc a) 0 .ow none, .row (Mc b) 1 .ow none], 2⟩⟩) (fun cf => by kernel_rfl) ?_
        rcases hb4 : ((decide ((a 3) > (b 3))) : Bool) with _ | _
        ·
          refine ev_false (by kernel_rfl) ?_
          refine ev_skip ?_
          refine ev_reg (by kernel_rfl) ?_
          refine rs_all (s1 := ⟨[Ag a, Ag b, .ptr 0 0 0, .ptr 1 1 0, No, J 4, J 3, Yes, J 3, J 4, J 3, .ptr 0 0 3, J (a 3), J 3, .ptr 1 1 3, J (b 3), No], ⟨[.row (Mc a) 0 .ow none, .row (Mc b) 1 .ow none], 2⟩⟩) (fun cf => by kernel_rfl) ?_
          refine ev_loop ?_
          refine ev_seq ?_
          refine ev_seq ?_
          refine ev_reg (by kernel_rfl) ?_
          refine rs_all (s1 := ⟨[Ag a, Ag b, .ptr 0 0 0, .ptr 1 1 0, No, J 4, J 4, Yes, J 3, J 4, J 3, .ptr 0 0 3, J (a 3), J 3, .ptr 1 1 3, J (b 3), No], ⟨[.row (Mc a) 0 .ow none, .row (Mc b) 1 .ow none], 2⟩⟩) (fun cf => by kernel_rfl) ?_
          refine ev_true (by kernel_rfl) ?_
          refine ev_skip ?_
          refine ev_seq ?_
          refine ev_block ?_
          refine ev_seq ?_
          refine ev_reg (by kernel_rfl) ?_
          refine rs_all (s1 := ⟨[Ag a, Ag b, .ptr 0 0 0, .ptr 1 1 0, No, J 4, J 4, Yes, J 3, J 4, J 4, .ptr 0 0 4, J (a 4), J 4, .ptr 1 1 4, J (b 4), boolA (decide ((a 4) > (b 4)))], ⟨[.row (Mc a) 0 .ow none, .row (Mc b) 1 .ow none], 2⟩⟩) (fun cf => by kernel_rfl) ?_
          rcases hb5 : ((decide ((a 4) > (b 4))) : Bool) with _ | _
          ·
            refine ev_false (by kernel_rfl) ?_
            refine ev_skip ?_
            refine ev_reg (by kernel_rfl) ?_
            refine rs_all (s1 := ⟨[Ag a, Ag b, .ptr 0 0 0, .ptr 1 1 0, No, J 5, J 4, Yes, J 4, J 5, J 4, .ptr 0 0 4, J (a 4), J 4, .ptr 1 1 4, J (b 4), No], ⟨[.row (Mc a) 0 .ow none, .row (Mc b) 1 .ow none], 2⟩⟩) (fun cf => by kernel_rfl) ?_
            refine ev_loop ?_
            refine ev_seq ?_
            refine ev_seq ?_
            refine ev_reg (by kernel_rfl) ?_
            refine rs_all (s1 := ⟨[Ag a, Ag b, .ptr 0 0 0, .ptr 1 1 0, No, J 5, J 5, Yes, J 4, J 5, J 4, .ptr 0 0 4, J (a 4), J 4, .ptr 1 1 4, J (b 4), No], ⟨[.row (Mc a) 0 .ow none, .row (Mc b) 1 .ow none], 2⟩⟩) (fun cf => by kernel_rfl) ?_
            refine ev_true (by kernel_rfl) ?_
            refine ev_skip ?_
            refine ev_seq ?_
            refine ev_block ?_
            refine ev_seq ?_
            refine ev_reg (by kernel_rfl) ?_
            refine rs_all (s1 := ⟨[Ag a, Ag b, .ptr 0 0 0, .ptr 1 1 0, No, J 5, J 5, Yes, J 4, J 5, J 5, .ptr 0 0 5, J (a 5), J 5, .ptr 1 1 5, J (b 5), boolA (decide ((a 5) > (b 5)))], ⟨[.row (Mc a) 0 .ow none, .row (Mc b) 1 .ow none], 2⟩⟩) (fun cf => by kernel_rfl) ?_
            rcases hb6 : ((decide ((a 5) > (b 5))) : Bool) with _ | _
            ·
              refine ev_false (by kernel_rfl) ?_
              refine ev_skip ?_
              refine ev_reg (by kernel_rfl) ?_
              refine rs_all (s1 := ⟨[Ag a, Ag b, .ptr 0 0 0, .ptr 1 1 0, No, J 6, J 5, Yes, J 5, J 6, J 5, .ptr 0 0 5, J (a 5), J 5, .ptr 1 1 5, J (b 5), No], ⟨[.row (Mc a) 0 .ow none, .row (Mc b) 1 .ow none], 2⟩⟩) (fun cf => by kernel_rfl) ?_
              refine ev_loop ?_
              refine ev_seq ?_
              refine ev_seq ?_
              refine ev_reg (by kernel_rfl) ?_
              refine rs_all (s1 := ⟨[Ag a, Ag b, .ptr 0 0 0, .ptr 1 1 0, No, J 6, J 6, Yes, J 5, J 6, J 5, .ptr 0 0 5, J (a 5), J 5, .ptr 1 1 5, J (b 5), No], ⟨[.row (Mc a) 0 .ow none, .row (Mc b) 1 .ow none], 2⟩⟩) (fun cf => by kernel_rfl) ?_
              refine ev_true (by kernel_rfl) ?_
              refine ev_skip ?_
              refine ev_seq ?_
              refine ev_block ?_
              refine ev_seq ?_
              refine ev_reg (by kernel_rfl) ?_
              refine rs_all (s1 := ⟨[Ag a, Ag b, .ptr 0 0 0, .ptr 1 1 0, No, J 6, J 6, Yes, J 5, J 6, J 6, .ptr 0 0 6, J (a 6), J 6, .ptr 1 1 6, J (b 6), boolA (decide ((a 6) > (b 6)))], ⟨[.row (Mc a) 0 .ow none, .row (Mc b) 1 .ow none], 2⟩⟩) (fun cf => by kernel_rfl) ?_
              rcases hb7 : ((decide ((a 6) > (b 6))) : Bool) with _ | _
              ·
                refine ev_false (by kernel_rfl) ?_
                refine ev_skip ?_
                refine ev_reg (by kernel_rfl) ?_
                refine rs_all (s1 := ⟨[Ag a, Ag b, .ptr 0 0 0, .ptr 1 1 0, No, J 7, J 6, Yes, J 6, J 7, J 6, .ptr 0 0 6, J (a 6), J 6, .ptr 1 1 6, J (b 6), No], ⟨[.row (Mc a) 0 .ow none, .row (Mc b) 1 .ow none], 2⟩⟩) (fun cf => by kernel_rfl) ?_
                refine ev_loop ?_
                refine ev_seq ?_
                refine ev_seq ?_
                refine ev_reg (by kernel_rfl) ?_
                refine rs_all (s1 := ⟨[Ag a, Ag b, .ptr 0 0 0, .ptr 1 1 0, No, J 7, J 7, Yes, J 6, J 7, J 6, .ptr 0 0 6, J (a 6), J 6, .ptr 1 1 6, J (b 6), No], ⟨[.row (Mc a) 0 .ow none, .row (Mc b) 1 .ow none], 2⟩⟩) (fun cf => by kernel_rfl) ?_
                refine ev_true (by kernel_rfl) ?_
                refine ev_skip ?_
                refine ev_seq ?_
                refine ev_block ?_
                refine ev_seq ?_
                refine ev_reg (by kernel_rfl) ?_
                refine rs_all (s1 := ⟨[Ag a, Ag b, .ptr 0 0 0, .ptr 1 1 0, No, J 7, J 7, Yes, J 6, J 7, J 7, .ptr 0 0 7, J (a 7), J 7, .ptr 1 1 7, J (b 7), boolA (decide ((a 7) > (b 7)))], ⟨[.row (Mc a) 0 .ow none, .row (Mc b) 1 .ow none], 2⟩⟩) (fun cf => by kernel_rfl) ?_
                rcases hb8 : ((decide ((a 7) > (b 7))) : Bool) with _ | _
                ·
                  refine ev_false (by kernel_rfl) ?_
                  refine ev_skip ?_
                  refine ev_reg (by kernel_rfl) ?_
                  refine rs_all (s1 := ⟨[Ag a, Ag b, .ptr 0 0 0, .ptr 1 1 0, No, J 8, J 7, Yes, J 7, J 8, J 7, .ptr 0 0 7, J (a 7), J 7, .ptr 1 1 7, J (b 7), No], ⟨[.row (Mc a) 0 .ow none, .row (Mc b) 1 .ow none], 2⟩⟩) (fun cf => by kernel_rfl) ?_
                  refine ev_loop ?_
                  refine ev_seq ?_
                  refine ev_seq ?_
                  refine ev_reg (by kernel_rfl) ?_
                  refine rs_all (s1 := ⟨[Ag a, Ag b, .ptr 0 0 0, .ptr 1 1 0, No, J 8, J 8, No, J 7, J 8, J 7, .ptr 0 0 7, J (a 7), J 7, .ptr 1 1 7, J (b 7), No], ⟨[.row (Mc a) 0 .ow none, .row (Mc b) 1 .ow none], 2⟩⟩) (fun cf => by kernel_rfl) ?_
                  refine ev_false (by kernel_rfl) ?_
                  refine ev_exit ?_
                  refine ev_seq ?_
                  refine ev_reg (by kernel_rfl) ?_
                  refine rs_all (s1 := ⟨[Ag a, Ag b, .ptr 0 0 0, .ptr 1 1 0, Yes, J 8, J 8, No, J 7, J 8, J 7, .ptr 0 0 7, J (a 7), J 7, .ptr 1 1 7, J (b 7), No], ⟨[.row (Mc a) 0 .ow none, .row (Mc b) 1 .ow none], 2⟩⟩) (fun cf => by kernel_rfl) ?_
                  refine ev_ret ?_
                  refine leaf (r0 := Yes) (r1 := Yes) (.inr rfl) (by kernel_rfl) (by kernel_rfl) ?_
                  refine congrArg boolA ?_
                  rw [Bool.eq_iff_iff]
                  first | (simp only [eqE, validB, dvdB, eqB, cmpI, cmpM, addM, subM, lcmM, gcdM, zeroM, degM, beq_iff_eq, bne_iff_ne, bne_self_eq_false, beq_self_eq_true, decide_eq_true_eq, decide_eq_false_iff_not, beq_eq_false_iff_ne, Bool.and_true, Bool.and_self, Bool.not_true, Bool.not_false, Bool.or_eq_true, Bool.and_eq_true, Bool.not_eq_true', Bool.not_eq_false', Bool.not_eq_true, Bool.not_eq_false, Bool.or_eq_false_iff, Bool.and_eq_false_iff, Bool.false_eq_true, Bool.true_eq_false, ne_eq, true_iff, false_iff, iff_true, iff_false, not_true_eq_false, not_false_eq_true, cond_true, cond_false] at *; done) | (simp only [eqE, validB, dvdB, eqB, cmpI, cmpM, addM, subM, lcmM, gcdM, zeroM, degM, beq_iff_eq, bne_iff_ne, bne_self_eq_false, beq_self_eq_true, decide_eq_true_eq, decide_eq_false_iff_not, beq_eq_false_iff_ne, Bool.and_true, Bool.and_self, Bool.not_true, Bool.not_false, Bool.or_eq_true, Bool.and_eq_true, Bool.not_eq_true', Bool.not_eq_false', Bool.not_eq_true, Bool.not_eq_false, Bool.or_eq_false_iff, Bool.and_eq_false_iff, Bool.false_eq_true, Bool.true_eq_false, ne_eq, true_iff, false_iff, iff_true, iff_false, not_true_eq_false, not_false_eq_true, cond_true, cond_false] at *; omega) | omega
                ·
                  refine ev_true (by kernel_rfl) ?_
                  refine ev_seq ?_
                  refine ev_reg (by kernel_rfl) ?_
                  refine rs_all (s1 := ⟨[Ag a, Ag b, .ptr 0 0 0, .ptr 1 1 0, No, J 7, J 7, Yes, J 6, J 7, J 7, .ptr 0 0 7, J (a 7), J 7, .ptr 1 1 7, J (b 7), Yes], ⟨[.row (Mc a) 0 .ow none, .row (Mc b) 1 .ow none], 2⟩⟩) (fun cf => by kernel_rfl) ?_
                  refine ev_ret ?_
                  refine leaf (r0 := No) (r1 := No) (.inr rfl) (by kernel_rfl) (by kernel_rfl) ?_
                  refine congrArg boolA ?_
                  rw [Bool.eq_iff_iff]
                  first | (simp only [eqE, validB, dvdB, eqB, cmpI, cmpM, addM, subM, lcmM, gcdM, zeroM, degM, beq_iff_eq, bne_iff_ne, bne_self_eq_false, beq_self_eq_true, decide_eq_true_eq, decide_eq_false_iff_not, beq_eq_false_iff_ne, Bool.and_true, Bool.and_self, Bool.not_true, Bool.not_false, Bool.or_eq_true, Bool.and_eq_true, Bool.not_eq_true', Bool.not_eq_false', Bool.not_eq_true, Bool.not_eq_false, Bool.or_eq_false_iff, Bool.and_eq_false_iff, Bool.false_eq_true, Bool.true_eq_false, ne_eq, true_iff, false_iff, iff_true, iff_false, not_true_eq_false, not_false_eq_true, cond_true, cond_false] at *; done) | (simp only [eqE, validB, dvdB, eqB, cmpI, cmpM, addM, subM, lcmM, gcdM, zeroM, degM, beq_iff_eq, bne_iff_ne, bne_self_eq_false, beq_self_eq_true, decide_eq_true_eq, decide_eq_false_iff_not, beq_eq_false_iff_ne, Bool.and_true, Bool.and_self, Bool.not_true, Bool.not_false, Bool.or_eq_true, Bool.and_eq_true, Bool.not_eq_true', Bool.not_eq_false', Bool.not_eq_true, Bool.not_eq_false, Bool.or_eq_false_iff, Bool.and_eq_false_iff, Bool.false_eq_true, Bool.true_eq_false, ne_eq, true_iff, false_iff, iff_true, iff_false, not_true_eq_false, not_false_eq_true, cond_true, cond_false] at *; omega) | omega
              ·
                refine ev_true (by kernel_rfl) ?_
                refine ev_seq ?_
                refine ev_reg (by kernel_rfl) ?_
                refine rs_all (s1 := ⟨[Ag a, Ag b, .ptr 0 0 0, .ptr 1 1 0, No, J 6, J 6, Yes, J 5, J 6, J 6, .ptr 0 0 6, J (a 6), J 6, .ptr 1 1 6, J (b 6), Yes], ⟨[.row (Mc a) 0 .ow none, .row (Mc b) 1 .ow none], 2⟩⟩) (fun cf => by kernel_rfl) ?_
                refine ev_ret ?_
                refine leaf (r0 := No) (r1 := No) (.inr rfl) (by kernel_rfl) (by kernel_rfl) ?_
                refine congrArg boolA ?_
                rw [Bool.eq_iff_iff]
                first | (simp only [eqE, validB, dvdB, eqB, cmpI, cmpM, addM, subM, lcmM, gcdM, zeroM, degM, beq_iff_eq, bne_iff_ne, bne_self_eq_false, beq_self_eq_true, decide_eq_true_eq, decide_eq_false_iff_not, beq_eq_false_iff_ne, Bool.and_true, Bool.and_self, Bool.not_true, Bool.not_false, Bool.or_eq_true, Bool.and_eq_true, Bool.not_eq_true', Bool.not_eq_false', Bool.not_eq_true, Bool.not_eq_false, Bool.or_eq_false_iff, Bool.and_eq_false_iff, Bool.false_eq_true, Bool.true_eq_false, ne_eq, true_iff, false_iff, iff_true, iff_false, not_true_eq_false, not_false_eq_true, cond_true, cond_false] at *; done) | (simp only [eqE, validB, dvdB, eqB, cmpI, cmpM, addM, subM, lcmM, gcdM, zeroM, degM, beq_iff_eq, bne_iff_ne, bne_self_eq_false, beq_self_eq_true, decide_eq_true_eq, decide_eq_false_iff_not, beq_eq_false_iff_ne, Bool.and_true, Bool.and_self, Bool.not_true, Bool.not_false, Bool.or_eq_true, Bool.and_eq_true, Bool.not_eq_true', Bool.not_eq_false', Bool.not_eq_true, Bool.not_eq_false, Bool.or_eq_false_iff, Bool.and_eq_false_iff, Bool.false_eq_true, Bool.true_eq_false, ne_eq, true_iff, false_iff, iff_true, iff_false, not_true_eq_false, not_false_eq_true, cond_true, cond_false] at *; omega) | omega
            ·
              refine ev_true (by kernel_rfl) ?_
              refine ev_seq ?_
              refine ev_reg (by kernel_rfl) ?_
              refine rs_all (s1 := ⟨[Ag a, Ag b, .ptr 0 0 0, .ptr 1 1 0, No, J 5, J 5, Yes, J 4, J 5, J 5, .ptr 0 0 5, J (a 5), J 5, .ptr 1 1 5, J (b 5), Yes], ⟨[.row (Mc a) 0 .ow none, .row (Mc b) 1 .ow none], 2⟩⟩) (fun cf => by kernel_rfl) ?_
              refine ev_ret ?_
              refine leaf (r0 := No) (r1 := No) (.inr rfl) (by kernel_rfl) (by kernel_rfl) ?_
              refine congrArg boolA ?_
              rw [Bool.eq_iff_iff]
              first | (simp only [eqE, validB, dvdB, eqB, cmpI, cmpM, addM, subM, lcmM, gcdM, zeroM, degM, beq_iff_eq, bne_iff_ne, bne_self_eq_false, beq_self_eq_true, decide_eq_true_eq, decide_eq_false_iff_not, beq_eq_false_iff_ne, Bool.and_true, Bool.and_self, Bool.not_true, Bool.not_false, Bool.or_eq_true, Bool.and_eq_true, Bool.not_eq_true', Bool.not_eq_false', Bool.not_eq_true, Bool.not_eq_false, Bool.or_eq_false_iff, Bool.and_eq_false_iff, Bool.false_eq_true, Bool.true_eq_false, ne_eq, true_iff, false_iff, iff_true, iff_false, not_true_eq_false, not_false_eq_true, cond_true, cond_false] at *; done) | (simp only [eqE, validB, dvdB, eqB, cmpI, cmpM, addM, subM, lcmM, gcdM, zeroM, degM, beq_iff_eq, bne_iff_ne, bne_self_eq_false, beq_self_eq_true, decide_eq_true_eq, decide_eq_false_iff_not, beq_eq_false_iff_ne, Bool.and_true, Bool.and_self, Bool.not_true, Bool.not_false, Bool.or_eq_true, Bool.and_eq_true, Bool.not_eq_true', Bool.not_eq_false', Bool.not_eq_true, Bool.not_eq_false, Bool.or_eq_false_iff, Bool.and_eq_false_iff, Bool.false_eq_true, Bool.true_eq_false, ne_eq, true_iff, false_iff, iff_true, iff_false, not_true_eq_false, not_false_eq_true, cond_true, cond_false] at *; omega) | omega
          ·
            refine ev_true (by kernel_rfl) ?_
            refine ev_seq ?_
            refine ev_reg (by kernel_rfl) ?_
            refine rs_all (s1 := ⟨[Ag a, Ag b, .ptr 0 0 0, .ptr 1 1 0, No, J 4, J 4, Yes, J 3, J 4, J 4, .ptr 0 0 4, J (a 4), J 4, .ptr 1 1 4, J (b 4), Yes], ⟨[.row (Mc a) 0 .ow none, .row (Mc b) 1 .ow none], 2⟩⟩) (fun cf => by kernel_rfl) ?_
            refine ev_ret ?_
            refine leaf (r0 := No) (r1 := No) (.inr rfl) (by kernel_rfl) (by kernel_rfl) ?_
            refine congrArg boolA ?_
            rw [Bool.eq_iff_iff]
            first | (simp only [eqE, validB, dvdB, eqB, cmpI, cmpM, addM, subM, lcmM, gcdM, zeroM, degM, beq_iff_eq, bne_iff_ne, bne_self_eq_false, beq_self_eq_true, decide_eq_true_eq, decide_eq_false_iff_not, beq_eq_false_iff_ne, Bool.and_true, Bool.and_self, Bool.not_true, Bool.not_false, Bool.or_eq_true, Bool.and_eq_true, Bool.not_eq_true', Bool.not_eq_false', Bool.not_eq_true, Bool.not_eq_false, Bool.or_eq_false_iff, Bool.and_eq_false_iff, Bool.false_eq_true, Bool.true_eq_false, ne_eq, true_iff, false_iff, iff_true, iff_false, not_true_eq_false, not_false_eq_true, cond_true, cond_false] at *; done) | (simp only [eqE, validB, dvdB, eqB, cmpI, cmpM, addM, subM, lcmM, gcdM, zeroM, degM, beq_iff_eq, bne_iff_ne, bne_self_eq_false, beq_self_eq_true, decide_eq_true_eq, decide_eq_false_iff_not, beq_eq_false_iff_ne, Bool.and_true, Bool.and_self, Bool.not_true, Bool.not_false, Bool.or_eq_true, Bool.and_eq_true, Bool.not_eq_true', Bool.not_eq_false', Bool.not_eq_true, Bool.not_eq_false, Bool.or_eq_false_iff, Bool.and_eq_false_iff, Bool.false_eq_true, Bool.true_eq_false, ne_eq, true_iff, false_iff, iff_true, iff_false, not_true_eq_false, not_false_eq_true, cond_true, cond_false] at *; omega) | omega
        ·
          refine ev_true (by kernel_rfl) ?_
          refine ev_seq ?_
          refine ev_reg (by kernel_rfl) ?_
          refine rs_all (s1 := ⟨[Ag a, Ag b, .ptr 0 0 0, .ptr 1 1 0, No, J 3, J 3, Yes, J 2, J 3, J 3, .ptr 0 0 3, J (a 3), J 3, .ptr 1 1 3, J (b 3), Yes], ⟨[.row (Mc a) 0 .ow none, .row (Mc b) 1 .ow none], 2⟩⟩) (fun cf => by kernel_rfl) ?_
          refine ev_ret ?_
          refine leaf (r0 := No) (r1 := No) (.inr rfl) (by kernel_rfl) (by kernel_rfl) ?_
          refine congrArg boolA ?_
          rw [Bool.eq_iff_iff]
          first | (simp only [eqE, validB, dvdB, eqB, cmpI, cmpM, addM, subM, lcmM, gcdM, zeroM, degM, beq_iff_eq, bne_iff_ne, bne_self_eq_false, beq_self_eq_true, decide_eq_true_eq, decide_eq_false_iff_not, beq_eq_false_iff_ne, Bool.and_true, Bool.and_self, Bool.not_true, Bool.not_false, Bool.or_eq_true, Bool.and_eq_true, Bool.not_eq_true', Bool.not_eq_false', Bool.not_eq_true, Bool.not_eq_false, Bool.or_eq_false_iff, Bool.and_eq_false_iff, Bool.false_eq_true, Bool.true_eq_false, ne_eq, true_iff, false_iff, iff_true, iff_false, not_true_eq_false, not_false_eq_true, cond_true, cond_false] at *; done) | (simp only [eqE, validB, dvdB, eqB, cmpI, cmpM, addM, subM, lcmM, gcdM, zeroM, degM, beq_iff_eq, bne_iff_ne, bne_self_eq_false, beq_self_eq_true, decide_eq_true_eq, decide_eq_false_iff_not, beq_eq_false_iff_ne, Bool.and_true, Bool.and_self, Bool.not_true, Bool.not_false, Bool.or_eq_true, Bool.and_eq_true, Bool.not_eq_true', Bool.not_eq_false', Bool.not_eq_true, Bool.not_eq_false, Bool.or_eq_false_iff, Bool.and_eq_false_iff, Bool.false_eq_true, Bool.true_eq_false, ne_eq, true_iff, false_iff, iff_true, iff_false, not_true_eq_false, not_false_eq_true, cond_true, cond_false] at *; omega) | omega
      ·
        refine ev_true (by kernel_rfl) ?_
        refine ev_seq ?_
        refine ev_reg (by kernel_rfl) ?_
        refine rs_all (s1 := ⟨[Ag a, Ag b, .ptr 0 0 0, .ptr 1 1 0, No, J 2, J 2, Yes, J 1, J 2, J 2, .ptr 0 0 2, J (a 2), J 2, .ptr 1 1 2, J (b 2), Yes], ⟨[.row (Mc a) 0 .ow none, .row (Mc b) 1 .ow none], 2⟩⟩) (fun cf => by kernel_rfl) ?_
        refine ev_ret ?_
        refine leaf (r0 := No) (r1 := No) (.inr rfl) (by kernel_rfl) (by kernel_rfl) ?_
        refine congrArg boolA ?_
        rw [Bool.eq_iff_iff]
        first | (simp only [eqE, validB, dvdB, eqB, cmpI, cmpM, addM, subM, lcmM, gcdM, zeroM, degM, beq_iff_eq, bne_iff_ne, bne_self_eq_false, beq_self_eq_true, decide_eq_true_eq, decide_eq_false_iff_not, beq_eq_false_iff_ne, Bool.and_true, Bool.and_self, Bool.not_true, Bool.not_false, Bool.or_eq_true, Bool.and_eq_true, Bool.not_eq_true', Bool.not_eq_false', Bool.not_eq_true, Bool.not_eq_false, Bool.or_eq_false_iff, Bool.and_eq_false_iff, Bool.false_eq_true, Bool.true_eq_false, ne_eq, true_iff, false_iff, iff_true, iff_false, not_true_eq_false, not_false_eq_true, cond_true, cond_false] at *; done) | (simp only [eqE, validB, dvdB, eqB, cmpI, cmpM, addM, subM, lcmM, gcdM, zeroM, degM, beq_iff_eq, bne_iff_ne, bne_self_eq_false, beq_self_eq_true, decide_eq_true_eq, decide_eq_false_iff_not, beq_eq_false_iff_ne, Bool.and_true, Bool.and_self, Bool.not_true, Bool.not_false, Bool.or_eq_true, Bool.and_eq_true, Bool.not_eq_true', Bool.not_eq_false', Bool.not_eq_true, Bool.not_eq_false, Bool.or_eq_false_iff, Bool.and_eq_false_iff, Bool.false_eq_true, Bool.true_eq_false, ne_eq, true_iff, false_iff, iff_true, iff_false, not_true_eq_false, not_false_eq_true, cond_true, cond_false] at *; omega) | omega
    ·
      refine ev_true (by kernel_rfl) ?_
      refine ev_seq ?_
      refine ev_reg (by kernel_rfl) ?_
      refine rs_all (s1 := ⟨[Ag a, Ag b, .ptr 0 0 0, .ptr 1 1 0, No, J 1, J 1, Yes, J 0, J 1, J 1, .ptr 0 0 1, J (a 1), J 1, .ptr 1 1 1, J (b 1), Yes], ⟨[.row (Mc a) 0 .ow none, .row (Mc b) 1 .ow none], 2⟩⟩) (fun cf => by kernel_rfl) ?_
      refine ev_ret ?_
      refine leaf (r0 := No) (r1 := No) (.inr rfl) (by kernel_rfl) (by kernel_rfl) ?_
      refine congrArg boolA ?_
      rw [Bool.eq_iff_iff]
      first | (simp only [eqE, validB, dvdB, eqB, cmpI, cmpM, addM, subM, lcmM, gcdM, zeroM, degM, beq_iff_eq, bne_iff_ne, bne_self_eq_false, beq_self_eq_true, decide_eq_true_eq, decide_eq_false_iff_not, beq_eq_false_iff_ne, Bool.and_true, Bool.and_self, Bool.not_true, Bool.not_false, Bool.or_eq_true, Bool.and_eq_true, Bool.not_eq_true', Bool.not_eq_false', Bool.not_eq_true, Bool.not_eq_false, Bool.or_eq_false_iff, Bool.and_eq_false_iff, Bool.false_eq_true, Bool.true_eq_false, ne_eq, true_iff, false_iff, iff_true, iff_false, not_true_eq_false, not_false_eq_true, cond_true, cond_false] at *; done) | (simp only [eqE, validB, dvdB, eqB, cmpI, cmpM, addM, subM, lcmM, gcdM, zeroM, degM, beq_iff_eq, bne_iff_ne, bne_self_eq_false, beq_self_eq_true, decide_eq_true_eq, decide_eq_false_iff_not, beq_eq_false_iff_ne, Bool.and_true, Bool.and_self, Bool.not_true, Bool.not_false, Bool.or_eq_true, Bool.and_eq_true, Bool.not_eq_true', Bool.not_eq_false', Bool.not_eq_true, Bool.not_eq_false, Bool.or_eq_false_iff, Bool.and_eq_false_iff, Bool.false_eq_true, Bool.true_eq_false, ne_eq, true_iff, false_iff, iff_true, iff_false, not_true_eq_false, not_false_eq_true, cond_true, cond_false] at *; omega) | omega
  ·
    refine ev_true (by kernel_rfl) ?_
    refine ev_seq ?_
    refine ev_reg (by kernel_rfl) ?_
    refine rs_all (s1 := ⟨[Ag a, Ag b, .ptr 0 0 0, .ptr 1 1 0, No, J 0, J 0, Yes, U, U, J 0, .ptr 0 0 0, J (a 0), J 0, .ptr 1 1 0, J (b 0), Yes], ⟨[.row (Mc a) 0 .ow none, .row (Mc b) 1 .ow none], 2⟩⟩) (fun cf => by kernel_rfl) ?_
    refine ev_ret ?_
    refine leaf (r0 := No) (r1 := No) (.inr rfl) (by kernel_rfl) (by kernel_rfl) ?_
    refine congrArg boolA ?_
    rw [Bool.eq_iff_iff]
    first | (simp only [eqE, validB, dvdB, eqB, cmpI, cmpM, addM, subM, lcmM, gcdM, zeroM, degM, beq_iff_eq, bne_iff_ne, bne_self_eq_false, beq_self_eq_true, decide_eq_true_eq, decide_eq_false_iff_not, beq_eq_false_iff_ne, Bool.and_true, Bool.and_self, Bool.not_true, Bool.not_false, Bool.or_eq_true, Bool.and_eq_true, Bool.not_eq_true', Bool.not_eq_false', Bool.not_eq_true, Bool.not_eq_false, Bool.or_eq_false_iff, Bool.and_eq_false_iff, Bool.false_eq_true, Bool.true_eq_false, ne_eq, true_iff, false_iff, iff_true, iff_false, not_true_eq_false, not_false_eq_true, cond_true, cond_false] at *; done) | (simp only [eqE, validB, dvdB, eqB, cmpI, cmpM, addM, subM, lcmM, gcdM, zeroM, degM, beq_iff_eq, bne_iff_ne, bne_self_eq_false, beq_self_eq_true, decide_eq_true_eq, decide_eq_false_iff_not, beq_eq_false_iff_ne, Bool.and_true, Bool.and_self, Bool.not_true, Bool.not_false, Bool.or_eq_true, Bool.and_eq_true, Bool.not_eq_true', Bool.not_eq_false', Bool.not_eq_true, Bool.not_eq_false, Bool.or_eq_false_iff, Bool.and_eq_false_iff, Bool.false_eq_true, Bool.true_eq_false, ne_eq, true_iff, false_iff, iff_true, iff_false, not_true_eq_false, not_false_eq_true, cond_true, cond_false] at *; omega) | omega

theorem g_mul_t {a b : Nat → Int} (ha : InR a) (hb : InR b) (hv : validB (addM a b) = true) : Gets Try.cx 13 [Ag a, Ag b] (.tu [.ag (Mc (addM a b)), intA .i64 0]) := by
  refine gets_of (fn := Try.f13) (by kernel_rfl) rfl ?_
  show EvK _ _ _ ⟨[Ag a, Ag b] ++ us 13, ⟨[], 0⟩⟩ _
  refine ev_seq ?_
  refine ev_reg (by kernel_rfl) ?_
  refine rs_all (s1 := ⟨[Ag a, Ag b, .ptr 0 0 0, .ptr 1 1 0, .ptr 2 2 0, J 0] ++ us 9, ⟨[.row (Mc a) 0 .ow none, .row (Mc b) 1 .ow none, .row (Mc zeroM) 2 .ow none], 3⟩⟩) (fun cf => by kernel_rfl) ?_
  refine ev_seq ?_
  refine ev_reg (by kernel_rfl) ?_
  refine rs_take 2 (s1 := ⟨[Ag a, Ag b, .ptr 0 0 0, .ptr 1 1 0, .ptr 2 2 0, J 0, U, Ag a, Ag b] ++ us 6, ⟨[.row (Mc a) 0 .ow none, .row (Mc b) 1 .ow none, .row (Mc zeroM) 2 .ow none], 3⟩⟩) (fun cf => by kernel_rfl) ?_
  refine rs_pure (g := 37) (bs := [Ag a, Ag b, .fn 38 []]) (ow := false) (r := Ag (addM a b)) (s1 := ⟨[Ag a, Ag b, .ptr 0 0 0, .ptr 1 1 0, .ptr 2 2 0, J 0, U, Ag a, Ag b, Ag (addM a b)] ++ us 5, ⟨[.row (Mc a) 0 .ow none, .row (Mc b) 1 .ow none, .row (Mc zeroM) 2 .ow none], 3⟩⟩) (by kernel_rfl) (g_add ha hb) (by kernel_rfl) (by kernel_rfl) ?_
  refine rs_all (s1 := ⟨[Ag a, Ag b, .ptr 0 0 0, .ptr 1 1 0, .ptr 2 2 0, J 0, .ptr 3 3 0, Ag a, Ag b, Ag (addM a b)] ++ us 5, ⟨[.row (Mc a) 0 .ow none, .row (Mc b) 1 .ow none, .row (Mc zeroM) 2 .ow none, .row (Mc (addM a b)) 3 .ow none], 4⟩⟩) (fun cf => by kernel_rfl) ?_
  refine ev_seq ?_
  refine ev_seq ?_
  refine ev_reg (by kernel_rfl) ?_
  refine rs_take 1 (s1 := ⟨[Ag a, Ag b, .ptr 0 0 0, .ptr 1 1 0, .ptr 2 2 0, J 0, .ptr 3 3 0, Ag a, Ag b, Ag (addM a b), Ag (addM a b)] ++ us 4, ⟨[.row (Mc a) 0 .ow none, .row (Mc b) 1 .ow none, .row (Mc zeroM) 2 .ow none, .row (Mc (addM a b)) 3 .ow none], 4⟩⟩) (fun cf => by kernel_rfl) ?_
  refine rs_pure (g := 29) (bs := [Ag (addM a b)]) (ow := false) (r := boolA (validB (addM a b))) (s1 := ⟨[Ag a, Ag b, .ptr 0 0 0, .ptr 1 1 0, .ptr 2 2 0, J 0, .ptr 3 3 0, Ag a, Ag b, Ag (addM a b), Ag (addM a b), boolA (validB (addM a b))] ++ us 3, ⟨[.row (Mc a) 0 .ow none, .row (Mc b) 1 .ow none, .row (Mc zeroM) 2 .ow none, .row (Mc (addM a b)) 3 .ow none], 4⟩⟩) (by kernel_rfl) (g_valid (addM a b)) (by kernel_rfl) (by kernel_rfl) ?_
  refine rs_all (s1 := ⟨[Ag a, Ag b, .ptr 0 0 0, .ptr 1 1 0, .ptr 2 2 0, J 0, .ptr 3 3 0, Ag a, Ag b, Ag (addM a b), Ag (addM a b), boolA (validB (addM a b)), boolA (!(validB (addM a b))), U, U], ⟨[.row (Mc a) 0 .ow none, .row (Mc b) 1 .ow none, .row (Mc zeroM) 2 .ow none, .row (Mc (addM a b)) 3 .ow none], 4⟩⟩) (fun cf => by kernel_rfl) ?_
  have hk1 : (!(validB (addM a b))) = false := by
    first | exact hv | simp only [hv, Bool.not_true, Bool.not_false]
  rw [hk1]
  refine ev_false (by kernel_rfl) ?_
  refine ev_skip ?_
  refine ev_seq ?_
  refine ev_reg (by kernel_rfl) ?_
  refine rs_all (s1 := ⟨[Ag a, Ag b, .ptr 0 0 0, .ptr 1 1 0, .ptr 2 2 0, J 0, .ptr 3 3 0, Ag a, Ag b, Ag (addM a b), Ag (addM a b), boolA (validB (addM a b)), No, U, Ag (addM a b)], ⟨[.row (Mc a) 0 .ow none, .row (Mc b) 1 .ow none, .row (Mc (addM a b)) 2 .ow none, .row (Mc (addM a b)) 3 .ow none], 4⟩⟩) (fun cf => by kernel_rfl) ?_
  refine ev_ret ?_
  refine leaf (r0 := .tu [Ag (addM a b), J 0]) (r1 := .tu [Ag (addM a b), J 0]) (.inr rfl) (by kernel_rfl) (by kernel_rfl) ?_
  rfl

theorem g_mul_f {a b : Nat → Int} (ha : InR a) (hb : InR b) (hv : validB (addM a b) = false) : Gets Try.cx 13 [Ag a, Ag b] (.tu [.ag (Mc zeroM), intA .i64 2]) := by
  refine gets_of (fn := Try.f13) (by kernel_rfl) rfl ?_
  show EvK _ _ _ ⟨[Ag a, Ag b] ++ us 13, ⟨[], 0⟩⟩ _
  refine ev_seq ?_
  refine ev_reg (by kernel_rfl) ?_
  refine rs_all (s1 := ⟨[Ag a, Ag b, .ptr 0 0 0, .ptr 1 1 0, .ptr 2 2 0, J 0] ++ us 9, ⟨[.row (Mc a) 0 .ow none, .row (Mc b) 1 .ow none, .row (Mc zeroM) 2 .ow none], 3⟩⟩) (fun cf => by kernel_rfl) ?_
  refine ev_seq ?_
  refine ev_reg (by kernel_rfl) ?_
  refine rs_take 2 (s1 := ⟨[Ag a, Ag b, .ptr 0 0 0, .ptr 1 1 0, .ptr 2 2 0, J 0, U, Ag a, Ag b] ++ us 6, ⟨[.row (Mc a) 0 .ow none, .row (Mc b) 1 .ow none, .row (Mc zeroM) 2 .ow none], 3⟩⟩) (fun cf => by kernel_rfl) ?_
  refine rs_pure (g := 37) (bs := [Ag a, Ag b, .fn 38 []]) (ow := false) (r := Ag (addM a b)) (s1 := ⟨[Ag a, Ag b, .ptr 0 0 0, .ptr 1 1 0, .ptr 2 2 0, J 0, U, Ag a, Ag b, Ag (addM a b)] ++ us 5, ⟨[.row (Mc a) 0 .ow none, .row (Mc b) 1 .ow none, .row (Mc zeroM) 2 .ow none], 3⟩⟩) (by kernel_rfl) (g_add ha hb) (by kernel_rfl) (by kernel_rfl) ?_
  refine rs_all (s1 := ⟨[Ag a, Ag b, .ptr 0 0 0, .ptr 1 1 0, .ptr 2 2 0, J 0, .ptr 3 3 0, Ag a, Ag b, Ag (addM a b)] ++ us 5, ⟨[.row (Mc a) 0 .ow none, .row (Mc b) 1 .ow none, .row (Mc zeroM) 2 .ow none, .row (Mc (addM a b)) 3 .ow none], 4⟩⟩) (fun cf => by kernel_rfl) ?_
  refine ev_seq ?_
  refine ev_seq ?_
  refine ev_reg (by kernel_rfl) ?_
  refine rs_take 1 (s1 := ⟨[Ag a, Ag b, .ptr 0 0 0, .ptr 1 1 0, .ptr 2 2 0, J 0, .ptr 3 3 0, Ag a, Ag b, Ag (addM a b), Ag (addM a b)] ++ us 4, ⟨[.row (Mc a) 0 .ow none, .row (Mc b) 1 .ow none, .row (Mc zeroM) 2 .ow none, .row (Mc (addM a b)) 3 .ow none], 4⟩⟩) (fun cf => by kernel_rfl) ?_
  refine rs_pure (g := 29) (bs := [Ag (addM a b)]) (ow := false) (r := boolA (validB (addM a b))) (s1 := ⟨[Ag a, Ag b, .ptr 0 0 0, .ptr 1 1 0, .ptr 2 2 0, J 0, .ptr 3 3 0, Ag a, Ag b, Ag (addM a b), Ag (addM a b), boolA (validB (addM a b))] ++ us 3, ⟨[.row (Mc a) 0 .ow none, .row (Mc b) 1 .ow none, .row (Mc zeroM) 2 .ow none, .row (Mc (addM a b)) 3 .ow none], 4⟩⟩) (by kernel_rfl) (g_valid (addM a b)) (by kernel_rfl) (by kernel_rfl) ?_
  refine rs_all (s1 := ⟨[Ag a, Ag b, .ptr 0 0 0, .ptr 1 1 0, .ptr 2 2 0, J 0, .ptr 3 3 0, Ag a, Ag b, Ag (addM a b), Ag (addM a b), boolA (validB (addM a b)), boolA (!(validB (addM a b))), U, U], ⟨[.row (Mc a) 0 .ow none, .row (Mc b) 1 .ow none, .row (Mc zeroM) 2 .ow none, .row (Mc (addM a b)) 3 .ow none], 4⟩⟩) (fun cf => by kernel_rfl) ?_
  have hk1 : (!(validB (addM a b))) = true := by
    first | exact hv | simp only [hv, Bool.not_true, Bool.not_false]
  rw [hk1]
  refine ev_true (by kernel_rfl) ?_
  refine ev_seq ?_
  refine ev_reg (by kernel_rfl) ?_
  refine rs_all (s1 := ⟨[Ag a, Ag b, .ptr 0 0 0, .ptr 1 1 0, .ptr 2 2 0, J 2, .ptr 3 3 0, Ag a, Ag b, Ag (addM a b), Ag (addM a b), boolA (validB (addM a b)), Yes, Ag zeroM, U], ⟨[.row (Mc a) 0 .ow none, .row (Mc b) 1 .ow none, .row (Mc zeroM) 2 .ow none, .row (Mc (addM a b)) 3 .ow none], 4⟩⟩) (fun cf => by kernel_rfl) ?_
  refine ev_ret ?_
  refine leaf (r0 := .tu [Ag zeroM, J 2]) (r1 := .tu [Ag zeroM, J 2]) (.inr rfl) (by kernel_rfl) (by kernel_rfl) ?_
  rfl

theorem g_mul1_t {a b : Nat → Int} (ha : InR a) (hb : InR b) (hv : validB (addM a b) = true) : Gets Try.cx 14 [Ag a, Ag b] (.tu [.ag (Mc (addM a b)), intA .i64 0]) := by
  have e0 : IntKind.wrap .i64 (a 0 + b 0) = a 0 + b 0 := wrap64 (by have h1 := ha 0 (by decide); have h2 := hb 0 (by decide); omega) (by have h1 := ha 0 (by decide); have h2 := hb 0 (by decide); omega)
  have e1 : IntKind.wrap .i64 (a 1 + b 1) = a 1 + b 1 := wrap64 (by have h1 := ha 1 (by decide); have h2 := hb 1 (by decide); omega) (by have h1 := ha 1 (by decide); have h2 := hb 1 (by decide); omega)
  have e2 : IntKind.wrap .i64 (a 2 + b 2) = a 2 + b 2 := wrap64 (by have h1 := ha 2 (by decide); have h2 := hb 2 (by decide); omega) (by have h1 := ha 2 (by decide); have h2 := hb 2 (by decide); omega)
  have e3 : IntKind.wrap .i64 (a 3 + b 3) = a 3 + b 3 := wrap64 (by have h1 := ha 3 (by decide); have h2 := hb 3 (by decide); omega) (by have h1 := ha 3 (by decide); have h2 := hb 3 (by decide); omega)
  have e4 : IntKind.wrap .i64 (a 4 + b 4) = a 4 + b 4 := wrap64 (by have h1 := ha 4 (by decide); have h2 := hb 4 (by decide); omega) (by have h1 := ha 4 (by decide); have h2 := hb 4 (by decide); omega)
  have e5 : IntKind.wrap .i64 (a 5 + b 5) = a 5 + b 5 := wrap64 (by have h1 := ha 5 (by decide); have h2 := hb 5 (by decide); omega) (by have h1 := ha 5 (by decide); have h2 := hb 5 (by decide); omega)
  have e6 : IntKind.wrap .i64 (a 6 + b 6) = a 6 + b 6 := wrap64 (by have h1 := ha 6 (by decide); have h2 := hb 6 (by decide); omega) (by have h1 := ha 6 (by decide); have h2 := hb 6 (by decide); omega)
  have e7 : IntKind.wrap .i64 (a 7 + b 7) = a 7 + b 7 := wrap64 (by have h1 := ha 7 (by decide); have h2 := hb 7 (by decide); omega) (by have h1 := ha 7 (by decide); have h2 := hb 7 (by decide); omega)
  refine gets_of (fn := Try.f14) (by kernel_rfl) rfl ?_
  show EvK _ _ _ ⟨[Ag a, Ag b] ++ us 22, ⟨[], 0⟩⟩ _
  refine ev_seq ?_
  refine ev_reg (by kernel_rfl) ?_
  refine rs_all (s1 := ⟨[Ag a, Ag b, .ptr 0 0 0, .ptr 1 1 0, .ptr 2 2 0, J 0] ++ us 18, ⟨[.row (Mc a) 0 .ow none, .row (Mc b) 1 .ow none, .row (Mc zeroM) 2 .ow none], 3⟩⟩) (fun cf => by kernel_rfl) ?_
  refine ev_seq ?_
  refine ev_seq ?_
  refine ev_reg (by kernel_rfl) ?_
  refine rs_all (s1 := ⟨[Ag a, Ag b, .ptr 0 0 0, .ptr 1 1 0, .ptr 2 2 0, J 0, J 0] ++ us 17, ⟨[.row (Mc a) 0 .ow none, .row (Mc b) 1 .ow none, .row (Mc zeroM) 2 .ow none], 3⟩⟩) (fun cf => by kernel_rfl) ?_
  refine ev_block ?_
  refine ev_loop ?_
  refine ev_seq ?_
  refine ev_seq ?_
  refine ev_reg (by kernel_rfl) ?_
  refine rs_all (s1 := ⟨[Ag a, Ag b, .ptr 0 0 0, .ptr 1 1 0, .ptr 2 2 0, J 0, J 0, J 0, Yes] ++ us 15, ⟨[.row (Mc a) 0 .ow none, .row (Mc b) 1 .ow none, .row (Mc zeroM) 2 .ow none], 3⟩⟩) (fun cf => by kernel_rfl) ?_
  refine ev_true (by kernel_rfl) ?_
  refine ev_skip ?_
  refine ev_seq ?_
  refine ev_block ?_
  refine ev_reg (by kernel_rfl) ?_
  refine rs_all (s1 := ⟨[Ag a, Ag b, .ptr 0 0 0, .ptr 1 1 0, .ptr 2 2 0, J 0, J 0, J 0, Yes, U, U, J 0, .ptr 0 0 0, J (a 0), J 0, .ptr 1 1 0, J (b 0), J (IntKind.wrap .i64 ((a 0) + (b 0))), .ptr 0 0 0] ++ us 5, ⟨[.row [J (IntKind.wrap .i64 ((a 0) + (b 0))), J (a 1), J (a 2), J (a 3), J (a 4), J (a 5), J (a 6), J (a 7)] 0 .ow none, .row (Mc b) 1 .ow none, .row (Mc zeroM) 2 .ow none], 3⟩⟩) (fun cf => by kernel_rfl) ?_
  refine ev_reg (by kernel_rfl) ?_
  refine rs_all (s1 := ⟨[Ag a, Ag b, .ptr 0 0 0, .ptr 1 1 0, .ptr 2 2 0, J 0, J 1, J 0, Yes, J 0, J 1, J 0, .ptr 0 0 0, J (a 0), J 0, .ptr 1 1 0, J (b 0), J (IntKind.wrap .i64 ((a 0) + (b 0))), .ptr 0 0 0] ++ us 5, ⟨[.row [J (IntKind.wrap .i64 ((a 0) + (b 0))), J (a 1), J (a 2), J (a 3), J (a 4), J (a 5), J (a 6), J (a 7)] 0 .ow none, .row (Mc b) 1 .ow none, .row (Mc zeroM) 2 .ow none], 3⟩⟩) (fun cf => by kernel_rfl) ?_
  refine ev_loop ?_
  refine ev_seq ?_
  refine ev_seq ?_
  refine ev_reg (by kernel_rfl) ?_
  refine rs_all (s1 := ⟨[Ag a, Ag b, .ptr 0 0 0, .ptr 1 1 0, .ptr 2 2 0, J 0, J 1, J 1, Yes, J 0, J 1, J 0, .ptr 0 0 0, J (a 0), J 0, .ptr 1 1 0, J (b 0), J (IntKind.wrap .i64 ((a 0) + (b 0))), .ptr 0 0 0] ++ us 5, ⟨[.row [J (IntKind.wrap .i64 ((a 0) + (b 0))), J (a 1), J (a 2), J (a 3), J (a 4), J (a 5), J (a 6), J (a 7)] 0 .ow none, .row (Mc b) 1 .ow none, .row (Mc zeroM) 2 .ow none], 3⟩⟩) (fun cf => by kernel_rfl) ?_
  refine ev_true (by kernel_rfl) ?_
  refine ev_skip ?_
  refine ev_seq ?_
  refine ev_block ?_
  refine ev_reg (by kernel_rfl) ?_
  refine rs_all (s1 := ⟨[Ag a, Ag b, .ptr 0 0 0, .ptr 1 1 0, .ptr 2 2 0, J 0, J 1, J 1, Yes, J 0, J 1, J 1, .ptr 0 0 1, J (a 1), J 1, .ptr 1 1 1, J (b 1), J (IntKind.wrap .i64 ((a 1) + (b 1))), .ptr 0 0 1] ++ us 5, ⟨[.row [J (IntKind.wrap .i64 ((a 0) + (b 0))), J (IntKind.wrap .i64 ((a 1) + (b 1))), J (a 2), J (a 3), J (a 4), J (a 5), J (a 6), J (a 7)] 0 .ow none, .row (Mc b) 1 .ow none, .row (Mc zeroM) 2 .ow none], 3⟩⟩) (fun cf => by kernel_rfl) ?_
  refine ev_reg (by kernel_rfl) ?_
  refine rs_all (s1 := ⟨[Ag a, Ag b, .ptr 0 0 0, .ptr 1 1 0, .ptr 2 2 0, J 0, J 2, J 1, Yes, J 1, J 2, J 1, .ptr 0 0 1, J (a 1), J 1, .ptr 1 1 1, J (b 1), J (IntKind.wrap .i64 ((a 1) + (b 1))), .ptr 0 0 1] ++ us 5, ⟨[.row [J (IntKind.wrap .i64 ((a 0) + (b 0))), J (IntKind.wrap .i64 ((a 1) + (b 1))), J (a 2), J (a 3), J (a 4), J (a 5), J (a 6), J (a 7)] 0 .ow none, .row (Mc b) 1 .ow none, .row (Mc zeroM) 2 .ow none], 3⟩⟩) (fun cf => by kernel_rfl) ?_
  refine ev_loop ?_
  refine ev_seq ?_
  refine ev_seq ?_
  refine ev_reg (by kernel_rfl) ?_
  refine rs_all (s1 := ⟨[Ag a, Ag b, .ptr 0 0 0, .ptr 1 1 0, .ptr 2 2 0, J 0, J 2, J 2, Yes, J 1, J 2, J 1, .ptr 0 0 1, J (a 1), J 1, .ptr 1 1 1, J (b 1), J (IntKind.wrap .i64 ((a 1) + (b 1))), .ptr 0 0 1] ++ us 5, ⟨[.row [J (IntKind.wrap .i64 ((a 0) + (b 0))), J (IntKind.wrap .i64 ((a 1) + (b 1))), J (a 2), J (a 3), J (a 4), J (a 5), J (a 6), J (a 7)] 0 .ow none, .row (Mc b) 1 .ow none, .row (Mc zeroM) 2 .ow none], 3⟩⟩) (fun cf => by kernel_rfl) ?_
  refine ev_true (by kernel_rfl) ?_
  refine ev_skip ?_
  refine ev_seq ?_
  refine ev_block ?_
  refine ev_reg (by kernel_rfl) ?_
  refine rs_all (s1 := ⟨[Ag a, Ag b, .ptr 0 0 0, .ptr 1 1 0, .ptr 2 2 0, J 0, J 2, J 2, Yes, J 1, J 2, J 2, .ptr 0 0 2, J (a 2), J 2, .ptr 1 1 2, J (b 2), J (IntKind.wrap .i64 ((a 2) + (b 2))), .ptr 0 0 2] ++ us 5, ⟨[.row [J (IntKind.wrap .i64 ((a 0) + (b 0))), J (IntKind.wrap .i64 ((a 1) + (b 1))), J (IntKind.wrap .i64 ((a 2) + (b 2))), J (a 3), J (a 4), J (a 5), J (a 6), J (a 7)] 0 .ow none, .row (Mc b) 1 .ow none, .row (Mc zeroM) 2 .ow none], 3⟩⟩) (fun cf => by kernel_rfl) ?_
  refine ev_reg (by kernel_rfl) ?_
  refine rs_all (s1 := ⟨[Ag a, Ag b, .ptr 0 0 0, .ptr 1 1 0, .ptr 2 2 0, J 0, J 3, J 2, Yes, J 2, J 3, J 2, .ptr 0 0 2, J (a 2), J 2, .ptr 1 1 2, J (b 2), J (IntKind.wrap .i64 ((a 2) + (b 2))), .ptr 0 0 2] ++ us 5, ⟨[.row [J (IntKind.wrap .i64 ((a 0) + (b 0))), J (IntKind.wrap .i64 ((a 1) + (b 1))), J (IntKind.wrap .i64 ((a 2) + (b 2))), J (a 3), J (a 4), J (a 5), J (a 6), J (a 7)] 0 .ow none, .row (Mc b) 1 .ow none, .row (Mc zeroM) 2 .ow none], 3⟩⟩) (fun cf => by kernel_rfl) ?_
  refine ev_loop ?_
  refine ev_seq ?_
  refine ev_seq ?_
  refine ev_reg (by kernel_rfl) ?_
  refine rs_all (s1 := ⟨[Ag a, Ag b, .ptr 0 0 0, .ptr 1 1 0, .ptr 2 2 0, J 0, J 3, J 3, Yes, J 2, J 3, J 2, .ptr 0 0 2, J (a 2), J 2, .ptr 1 1 2, J (b 2), J (IntKind.wrap .i64 ((a 2) + (b 2))), .ptr 0 0 2] ++ us 5, ⟨[.row [J (IntKind.wrap .i64 ((a 0) + (b 0))), J (IntKind.wrap .i64 ((a 1) + (b 1))), J (IntKind.wrap .i64 ((a 2) + (b 2))), J (a 3), J (a 4), J (a 5), J (a 6), J (a 7)] 0 .ow none, .row (Mc b) 1 .ow none, .row (Mc zeroM) 2 .ow none], 3⟩⟩) (fun cf => by kernel_rfl) ?_
  refine ev_true (by kernel_rfl) ?_
  refine ev_skip ?_
  refine ev_seq ?_
  refine ev_block ?_
  refine ev_reg (by kernel_rfl) ?_
  refine rs_all (s1 := ⟨[Ag a, Ag b, .ptr 0 0 0, .ptr 1 1 0, .ptr 2 2 0, J 0, J 3, J 3, Yes, J 2, J 3, J 3, .ptr 0 0 3, J (a 3), J 3, .ptr 1 1 3, J (b 3), J (IntKind.wrap .i64 ((a 3) + (b 3))), .ptr 0 0 3] ++ us 5, ⟨[.row [J (IntKind.wrap .i64 ((a 0) + (b 0))), J (IntKind.wrap .i64 ((a 1) + (b 1))), J (IntKind.wrap .i64 ((a 2) + (b 2))), J (IntKind.wrap .i64 ((a 3) + (b 3))), J (a 4), J (a 5), J (a 6), J (a 7)] 0 .ow none, .row (Mc b) 1 .ow none, .row (Mc zeroM) 2 .ow none], 3⟩⟩) (fun cf => by kernel_rfl) ?_
  refine ev_reg (by kernel_rfl) ?_
  refine rs_all (s1 := ⟨[Ag a, Ag b, .ptr 0 0 0, .ptr 1 1 0, .ptr 2 2 0, J 0, J 4, J 3, Yes, J 3, J 4, J 3, .ptr 0 0 3, J (a 3), J 3, .ptr 1 1 3, J (b 3), J (IntKind.wrap .i64 ((a 3) + (b 3))), .ptr 0 0 3] ++ us 5, ⟨[.row [J (IntKind.wrap .i64 ((a 0) + (b 0))), J (IntKind.wrap .i64 ((a 1) + (b 1))), J (IntKind.wrap .i64 ((a 2) + (b 2))), J (IntKind.wrap .i64 ((a 3) + (b 3))), J (a 4), J (a 5), J (a 6), J (a 7)] 0 .ow none, .row (Mc b) 1 .ow none, .row (Mc zeroM) 2 .ow none], 3⟩⟩) (fun cf => by kernel_rfl) ?_
  refine ev_loop ?_
  refine ev_seq ?_
  refine ev_seq ?_
  refine ev_reg (by kernel_rfl) ?_
  refine rs_all (s1 := ⟨[Ag a, Ag b, .ptr 0 0 0, .ptr 1 1 0, .ptr 2 2 0, J 0, J 4, J 4, Yes, J 3, J 4, J 3, .ptr 0 0 3, J (a 3), J 3, .ptr 1 1 3, J (b 3), J (IntKind.wrap .i64 ((a 3) + (b 3))), .ptr 0 0 3] ++ us 5, ⟨[.row [J (IntKind.wrap .i64 ((a 0) + (b 0))), J (IntKind.wrap .i64 ((a 1) + (b 1))), J (IntKind.wrap .i64 ((a 2) + (b 2))), J (IntKind.wrap .i64 ((a 3) + (b 3))), J (a 4), J (a 5), J (a 6), J (a 7)] 0 .ow none, .row (Mc b) 1 .ow none, .row (Mc zeroM) 2 .ow none], 3⟩⟩) (fun cf => by kernel_rfl) ?_
  refine ev_true (by kernel_rfl) ?_
  refine ev_skip ?_
  refine ev_seq ?_
  refine ev_block ?_
  refine ev_reg (by kernel_rfl) ?_
  refine rs_all (s1 := ⟨[Ag a, Ag b, .ptr 0 0 0, .ptr 1 1 0, .ptr 2 2 0, J 0, J 4, J 4, Yes, J 3, J 4, J 4, .ptr 0 0 4, J (a 4), J 4, .ptr 1 1 4, J (b 4), J (IntKind.wrap .i64 ((a 4) + (b 4))), .ptr 0 0 4] ++ us 5, ⟨[.row [J (IntKind.wrap .i64 ((a 0) + (b 0))), J (IntKind.wrap .i64 ((a 1) + (b 1))), J (IntKind.wrap .i64 ((a 2) + (b 2))), J (IntKind.wrap .i64 ((a 3) + (b 3))), J (IntKind.wrap .i64 ((a 4) + (b 4))), J (a 5), J (a 6), J (a 7)] 0 .ow none, .row (Mc b) 1 .ow none, .row (Mc zeroM) 2 .ow none], 3⟩⟩) (fun cf => by kernel_rfl) ?_
  refine ev_reg (by kernel_rfl) ?_
  refine rs_all (s1 := ⟨[Ag a, Ag b, .ptr 0 0 0, .ptr 1 1 0, .ptr 2 2 0, J 0, J 5, J 4, Yes, J 4, J 5, J 4, .ptr 0 0 4, J (a 4), J 4, .ptr 1 1 4, J (b 4), J (IntKind.wrap .i64 ((a 4) + (b 4))), .ptr 0 0 4] ++ us 5, ⟨[.row [J (IntKind.wrap .i64 ((a 0) + (b 0))), J (IntKind.wrap .i64 ((a 1) + (b 1))), J (IntKind.wrap .i64 ((a 2) + (b 2))), J (IntKind.wrap .i64 ((a 3) + (b 3))), J (IntKind.wrap .i64 ((a 4) + (b 4))), J (a 5), J (a 6), J (a 7)] 0 .ow none, .row (Mc b) 1 .ow none, .row (Mc zeroM) 2 .ow none], 3⟩⟩) (fun cf => by kernel_rfl) ?_
  refine ev_loop ?_
  refine ev_seq ?_
  refine ev_seq ?_
  refine ev_reg (by kernel_rfl) ?_
  refine rs_all (s1 := ⟨[Ag a, Ag b, .ptr 0 0 0, .ptr 1 1 0, .ptr 2 2 0, J 0, J 5, J 5, Yes, J 4, J 5, J 4, .ptr 0 0 4, J (a 4), J 4, .ptr 1 1 4, J (b 4), J (IntKind.wrap .i64 ((a 4) + (b 4))), .ptr 0 0 4] ++ us 5, ⟨[.row [J (IntKind.wrap .i64 ((a 0) + (b 0))), J (IntKind.wrap .i64 ((a 1) + (b 1))), J (IntKind.wrap .i64 ((a 2) + (b 2))), J (IntKind.wrap .i64 ((a 3) + (b 3))), J (IntKind.wrap .i64 ((a 4) + (b 4))), J (a 5), J (a 6), J (a 7)] 0 .ow none, .row (Mc b) 1 .ow none, .row (Mc zeroM) 2 .ow none], 3⟩⟩) (fun cf => by kernel_rfl) ?_
  refine ev_true (by kernel_rfl) ?_
  refine ev_skip ?_
  refine ev_seq ?_
  refine ev_block ?_
  refine ev_reg (by kernel_rfl) ?_
  refine rs_all (s1 := ⟨[Ag a, Ag b, .ptr 0 0 0, .ptr 1 1 0, .ptr 2 2 0, J 0, J 5, J 5, Yes, J 4, J 5, J 5, .ptr 0 0 5, J (a 5), J 5, .ptr 1 1 5, J (b 5), J (IntKind.wrap .i64 ((a 5) + (b 5))), .ptr 0 0 5] ++ us 5, ⟨[.row [J (IntKind.wrap .i64 ((a 0) + (b 0))), J (IntKind.wrap .i64 ((a 1) + (b 1))), J (IntKind.wrap .i64 ((a 2) + (b 2))), J (IntKind.wrap .i64 ((a 3) + (b 3))), J (IntKind.wrap .i64 ((a 4) + (b 4))), J (IntKind.wrap .i64 ((a 5) + (b 5))), J (a 6), J (a 7)] 0 .ow none, .row (Mc b) 1 .ow none, .row (Mc zeroM) 2 .ow none], 3⟩⟩) (fun cf => by kernel_rfl) ?_
  refine ev_reg (by kernel_rfl) ?_
  refine rs_all (s1 := ⟨[Ag a, Ag b, .ptr 0 0 0, .ptr 1 1 0, .ptr 2 2 0, J 0, J 6, J 5, Yes, J 5, J 6, J 5, .ptr 0 0 5, J (a 5), J 5, .ptr 1 1 5, J (b 5), J (IntKind.wrap .i64 ((a 5) + (b 5))), .ptr 0 0 5] ++ us 5, ⟨[.row [J (IntKind.wrap .i64 ((a 0) + (b 0))), J (IntKind.wrap .i64 ((a 1) + (b 1))), J (IntKind.wrap .i64 ((a 2) + (b 2))), J (IntKind.wrap .i64 ((a 3) + (b 3))), J (IntKind.wrap .i64 ((a 4) + (b 4))), J (IntKind.wrap .i64 ((a 5) + (b 5))), J (a 6), J (a 7)] 0 .ow none, .row (Mc b) 1 .ow none, .row (Mc zeroM) 2 .ow none], 3⟩⟩) (fun cf => by kernel_rfl) ?_
  refine ev_loop ?_
  refine ev_seq ?_
  refine ev_seq ?_
  refine ev_reg (by kernel_rfl) ?_
  refine rs_all (s1 := ⟨[Ag a, Ag b, .ptr 0 0 0, .ptr 1 1 0, .ptr 2 2 0, J 0, J 6, J 6, Yes, J 5, J 6, J 5, .ptr 0 0 5, J (a 5), J 5, .ptr 1 1 5, J (b 5), J (IntKind.wrap .i64 ((a 5) + (b 5))), .ptr 0 0 5] ++ us 5, ⟨[.row [J (IntKind.wrap .i64 ((a 0) + (b 0))), J (IntKind.wrap .i64 ((a 1) + (b 1))), J (IntKind.wrap .i64 ((a 2) + (b 2))), J (IntKind.wrap .i64 ((a 3) + (b 3))), J (IntKind.wrap .i64 ((a 4) + (b 4))), J (IntKind.wrap .i64 ((a 5) + (b 5))), J (a 6), J (a 7)] 0 .ow none, .row (Mc b) 1 .ow none, .row (Mc zeroM) 2 .ow none], 3⟩⟩) (fun cf => by kernel_rfl) ?_
  refine ev_true (by kernel_rfl) ?_
  refine ev_skip ?_
  refine ev_seq ?_
  refine ev_block ?_
  refine ev_reg (by kernel_rfl) ?_
  refine rs_all (s1 := ⟨[Ag a, Ag b, .ptr 0 0 0, .ptr 1 1 0, .ptr 2 2 0, J 0, J 6, J 6, Yes, J 5, J 6, J 6, .ptr 0 0 6, J (a 6), J 6, .ptr 1 1 6, J (b 6), J (IntKind.wrap .i64 ((a 6) + (b 6))), .ptr 0 0 6] ++ us 5, ⟨[.row [J (IntKind.wrap .i64 ((a 0) + (b 0))), J (IntKind.wrap .i64 ((a 1) + (b 1))), J (IntKind.wrap .i64 ((a 2) + (b 2))), J (IntKind.wrap .i64 ((a 3) + (b 3))), J (IntKind.wrap .i64 ((a 4) + (b 4))), J (IntKind.wrap .i64 ((a 5) + (b 5))), J (IntKind.wrap .i64 ((a 6) + (b 6))), J (a 7)] 0 .ow none, .row (Mc b) 1 .ow none, .row (Mc zeroM) 2 .ow none], 3⟩⟩) (fun cf => by kernel_rfl) ?_
  refine ev_reg (by kernel_rfl) ?_
  refine rs_all (s1 := ⟨[Ag a, Ag b, .ptr 0 0 0, .ptr 1 1 0, .ptr 2 2 0, J 0, J 7, J 6, Yes, J 6, J 7, J 6, .ptr 0 0 6, J (a 6), J 6, .ptr 1 1 6, J (b 6), J (IntKind.wrap .i64 ((a 6) + (b 6))), .ptr 0 0 6] ++ us 5, ⟨[.row [J (IntKind.wrap .i64 ((a 0) + (b 0))), J (IntKind.wrap .i64 ((a 1) + (b 1))), J (IntKind.wrap .i64 ((a 2) + (b 2))), J (IntKind.wrap .i64 ((a 3) + (b 3))), J (IntKind.wrap .i64 ((a 4) + (b 4))), J (IntKind.wrap .i64 ((a 5) + (b 5))), J (IntKind.wrap .i64 ((a 6) + (b 6))), J (a 7)] 0 .ow none, .row (Mc b) 1 .ow none, .row (Mc zeroM) 2 .ow none], 3⟩⟩) (fun cf => by kernel_rfl) ?_
  refine ev_loop ?_
  refine ev_seq ?_
  refine ev_seq ?_
  refine ev_reg (by kernel_rfl) ?_
  refine rs_all (s1 := ⟨[Ag a, Ag b, .ptr 0 0 0, .ptr 1 1 0, .ptr 2 2 0, J 0, J 7, J 7, Yes, J 6, J 7, J 6, .ptr 0 0 6, J (a 6), J 6, .ptr 1 1 6, J (b 6), J (IntKind.wrap .i64 ((a 6) + (b 6))), .ptr 0 0 6] ++ us 5, ⟨[.row [J (IntKind.wrap .i64 ((a 0) + (b 0))), J (IntKind.wrap .i64 ((a 1) + (b 1))), J (IntKind.wrap .i64 ((a 2) + (b 2))), J (IntKind.wrap .i64 ((a 3) + (b 3))), J (IntKind.wrap .i64 ((a 4) + (b 4))), J (IntKind.wrap .i64 ((a 5) + (b 5))), J (IntKind.wrap .i64 ((a 6) + (b 6))), J (a 7)] 0 .ow none, .row (Mc b) 1 .ow none, .row (Mc zeroM) 2 .ow none], 3⟩⟩) (fun cf => by kernel_rfl) ?_
  refine ev_true (by kernel_rfl) ?_
  refine ev_skip ?_
  refine ev_seq ?_
  refine ev_block ?_
  refine ev_reg (by kernel_rfl) ?_
  refine rs_all (s1 := ⟨[Ag a, Ag b, .ptr 0 0 0, .ptr 1 1 0, .ptr 2 2 0, J 0, J 7, J 7, Yes, J 6, J 7, J 7, .ptr 0 0 7, J (a 7), J 7, .ptr 1 1 7, J (b 7), J (IntKind.wrap .i64 ((a 7) + (b 7))), .ptr 0 0 7] ++ us 5, ⟨[.row [J (IntKind.wrap .i64 ((a 0) + (b 0))), J (IntKind.wrap .i64 ((a 1) + (b 1))), J (IntKind.wrap .i64 ((a 2) + (b 2))), J (IntKind.wrap .i64 ((a 3) + (b 3))), J (IntKind.wrap .i64 ((a 4) + (b 4))), J (IntKind.wrap .i64 ((a 5) + (b 5))), J (IntKind.wrap .i64 ((a 6) + (b 6))), J (IntKind.wrap .i64 ((a 7) + (b 7)))] 0 .ow none, .row (Mc b) 1 .ow none, .row (Mc zeroM) 2 .ow none], 3⟩⟩) (fun cf => by kernel_rfl) ?_
  refine ev_reg (by kernel_rfl) ?_
  refine rs_all (s1 := ⟨[Ag a, Ag b, .ptr 0 0 0, .ptr 1 1 0, .ptr 2 2 0, J 0, J 8, J 7, Yes, J 7, J 8, J 7, .ptr 0 0 7, J (a 7), J 7, .ptr 1 1 7, J (b 7), J (IntKind.wrap .i64 ((a 7) + (b 7))), .ptr 0 0 7] ++ us 5, ⟨[.row [J (IntKind.wrap .i64 ((a 0) + (b 0))), J (IntKind.wrap .i64 ((a 1) + (b 1))), J (IntKind.wrap .i64 ((a 2) + (b 2))), J (IntKind.wrap .i64 ((a 3) + (b 3))), J (IntKind.wrap .i64 ((a 4) + (b 4))), J (IntKind.wrap .i64 ((a 5) + (b 5))), J (IntKind.wrap .i64 ((a 6) + (b 6))), J (IntKind.wrap .i64 ((a 7) + (b 7)))] 0 .ow none, .row (Mc b) 1 .ow none, .row (Mc zeroM) 2 .ow none], 3⟩⟩) (fun cf => by kernel_rfl) ?_
  refine ev_loop ?_
  refine ev_seq ?_
  refine ev_seq ?_
  refine ev_reg (by kernel_rfl) ?_
  refine rs_all (s1 := ⟨[Ag a, Ag b, .ptr 0 0 0, .ptr 1 1 0, .ptr 2 2 0, J 0, J 8, J 8, No, J 7, J 8, J 7, .ptr 0 0 7, J (a 7), J 7, .ptr 1 1 7, J (b 7), J (IntKind.wrap .i64 ((a 7) + (b 7))), .ptr 0 0 7] ++ us 5, ⟨[.row [J (IntKind.wrap .i64 ((a 0) + (b 0))), J (IntKind.wrap .i64 ((a 1) + (b 1))), J (IntKind.wrap .i64 ((a 2) + (b 2))), J (IntKind.wrap .i64 ((a 3) + (b 3))), J (IntKind.wrap .i64 ((a 4) + (b 4))), J (IntKind.wrap .i64 ((a 5) + (b 5))), J (IntKind.wrap .i64 ((a 6) + (b 6))), J (IntKind.wrap .i64 ((a 7) + (b 7)))] 0 .ow none, .row (Mc b) 1 .ow none, .row (Mc zeroM) 2 .ow none], 3⟩⟩) (fun cf => by kernel_rfl) ?_
  refine ev_false (by kernel_rfl) ?_
  refine ev_exit ?_
  refine ev_seq ?_
  refine ev_seq ?_
  refine ev_reg (by kernel_rfl) ?_
  refine rs_take 1 (s1 := ⟨[Ag a, Ag b, .ptr 0 0 0, .ptr 1 1 0, .ptr 2 2 0, J 0, J 8, J 8, No, J 7, J 8, J 7, .ptr 0 0 7, J (a 7), J 7, .ptr 1 1 7, J (b 7), J (IntKind.wrap .i64 ((a 7) + (b 7))), .ptr 0 0 7, .ag [J (IntKind.wrap .i64 ((a 0) + (b 0))), J (IntKind.wrap .i64 ((a 1) + (b 1))), J (IntKind.wrap .i64 ((a 2) + (b 2))), J (IntKind.wrap .i64 ((a 3) + (b 3))), J (IntKind.wrap .i64 ((a 4) + (b 4))), J (IntKind.wrap .i64 ((a 5) + (b 5))), J (IntKind.wrap .i64 ((a 6) + (b 6))), J (IntKind.wrap .i64 ((a 7) + (b 7)))]] ++ us 4, ⟨[.row [J (IntKind.wrap .i64 ((a 0) + (b 0))), J (IntKind.wrap .i64 ((a 1) + (b 1))), J (IntKind.wrap .i64 ((a 2) + (b 2))), J (IntKind.wrap .i64 ((a 3) + (b 3))), J (IntKind.wrap .i64 ((a 4) + (b 4))), J (IntKind.wrap .i64 ((a 5) + (b 5))), J (IntKind.wrap .i64 ((a 6) + (b 6))), J (IntKind.wrap .i64 ((a 7) + (b 7)))] 0 .ow none, .row (Mc b) 1 .ow none, .row (Mc zeroM) 2 .ow none], 3⟩⟩) (fun cf => by kernel_rfl) ?_
  refine rs_pure (g := 31) (bs := [.ag [J (IntKind.wrap .i64 ((a 0) + (b 0))), J (IntKind.wrap .i64 ((a 1) + (b 1))), J (IntKind.wrap .i64 ((a 2) + (b 2))), J (IntKind.wrap .i64 ((a 3) + (b 3))), J (IntKind.wrap .i64 ((a 4) + (b 4))), J (IntKind.wrap .i64 ((a 5) + (b 5))), J (IntKind.wrap .i64 ((a 6) + (b 6))), J (IntKind.wrap .i64 ((a 7) + (b 7)))]]) (ow := false) (r := boolA (validB (fun i => (IntKind.wrap .i64 ((a i) + (b i)))))) (s1 := ⟨[Ag a, Ag b, .ptr 0 0 0, .ptr 1 1 0, .ptr 2 2 0, J 0, J 8, J 8, No, J 7, J 8, J 7, .ptr 0 0 7, J (a 7), J 7, .ptr 1 1 7, J (b 7), J (IntKind.wrap .i64 ((a 7) + (b 7))), .ptr 0 0 7, .ag [J (IntKind.wrap .i64 ((a 0) + (b 0))), J (IntKind.wrap .i64 ((a 1) + (b 1))), J (IntKind.wrap .i64 ((a 2) + (b 2))), J (IntKind.wrap .i64 ((a 3) + (b 3))), J (IntKind.wrap .i64 ((a 4) + (b 4))), J (IntKind.wrap .i64 ((a 5) + (b 5))), J (IntKind.wrap .i64 ((a 6) + (b 6))), J (IntKind.wrap .i64 ((a 7) + (b 7)))], boolA (validB (fun i => (IntKind.wrap .i64 ((a i) + (b i)))))] ++ us 3, ⟨[.row [J (IntKind.wrap .i64 ((a 0) + (b 0))), J (IntKind.wrap .i64 ((a 1) + (b 1))), J (IntKind.wrap .i64 ((a 2) + (b 2))), J (IntKind.wrap .i64 ((a 3) + (b 3))), J (IntKind.wrap .i64 ((a 4) + (b 4))), J (IntKind.wrap .i64 ((a 5) + (b 5))), J (IntKind.wrap .i64 ((a 6) + (b 6))), J (IntKind.wrap .i64 ((a 7) + (b 7)))] 0 .ow none, .row (Mc b) 1 .ow none, .row (Mc zeroM) 2 .ow none], 3⟩⟩) (by kernel_rfl) (g_valid1 (fun i => (IntKind.wrap .i64 ((a i) + (b i))))) (by kernel_rfl) (by kernel_rfl) ?_
  refine rs_all (s1 := ⟨[Ag a, Ag b, .ptr 0 0 0, .ptr 1 1 0, .ptr 2 2 0, J 0, J 8, J 8, No, J 7, J 8, J 7, .ptr 0 0 7, J (a 7), J 7, .ptr 1 1 7, J (b 7), J (IntKind.wrap .i64 ((a 7) + (b 7))), .ptr 0 0 7, .ag [J (IntKind.wrap .i64 ((a 0) + (b 0))), J (IntKind.wrap .i64 ((a 1) + (b 1))), J (IntKind.wrap .i64 ((a 2) + (b 2))), J (IntKind.wrap .i64 ((a 3) + (b 3))), J (IntKind.wrap .i64 ((a 4) + (b 4))), J (IntKind.wrap .i64 ((a 5) + (b 5))), J (IntKind.wrap .i64 ((a 6) + (b 6))), J (IntKind.wrap .i64 ((a 7) + (b 7)))], boolA (validB (fun i => (IntKind.wrap .i64 ((a i) + (b i))))), boolA (!(validB (fun i => (IntKind.wrap .i64 ((a i) + (b i)))))), U, U], ⟨[.row [J (IntKind.wrap .i64 ((a 0) + (b 0))), J (IntKind.wrap .i64 ((a 1) + (b 1))), J (IntKind.wrap .i64 ((a 2) + (b 2))), J (IntKind.wrap .i64 ((a 3) + (b 3))), J (IntKind.wrap .i64 ((a 4) + (b 4))), J (IntKind.wrap .i64 ((a 5) + (b 5))), J (IntKind.wrap .i64 ((a 6) + (b 6))), J (IntKind.wrap .i64 ((a 7) + (b 7)))] 0 .ow none, .row (Mc b) 1 .ow none, .row (Mc zeroM) 2 .ow none], 3⟩⟩) (fun cf => by kernel_rfl) ?_
  have hk1 : (!(validB (fun i => (IntKind.wrap .i64 ((a i) + (b i)))))) = false := by
    have hv1 : validB (fun i => IntKind.wrap .i64 (a i + b i)) = validB (addM a b) := by unfold validB; rw [decide_eq_decide]; simp only [addM, e0, e1, e2, e3, e4, e5, e6, e7]
    rw [hv1, hv]
    rfl
  rw [hk1]
  refine ev_false (by kernel_rfl) ?_
  refine ev_skip ?_
  refine ev_seq ?_
  refine ev_reg (by kernel_rfl) ?_
  refine rs_all (s1 := ⟨[Ag a, Ag b, .ptr 0 0 0, .ptr 1 1 0, .ptr 2 2 0, J 0, J 8, J 8, No, J 7, J 8, J 7, .ptr 0 0 7, J (a 7), J 7, .ptr 1 1 7, J (b 7), J (IntKind.wrap .i64 ((a 7) + (b 7))), .ptr 0 0 7, .ag [J (IntKind.wrap .i64 ((a 0) + (b 0))), J (IntKind.wrap .i64 ((a 1) + (b 1))), J (IntKind.wrap .i64 ((a 2) + (b 2))), J (IntKind.wrap .i64 ((a 3) + (b 3))), J (IntKind.wrap .i64 ((a 4) + (b 4))), J (IntKind.wrap .i64 ((a 5) + (b 5))), J (IntKind.wrap .i64 ((a 6) + (b 6))), J (IntKind.wrap .i64 ((a 7) + (b 7)))], boolA (validB (fun i => (IntKind.wrap .i64 ((a i) + (b i))))), No, U, .ag [J (IntKind.wrap .i64 ((a 0) + (b 0))), J (IntKind.wrap .i64 ((a 1) + (b 1))), J (IntKind.wrap .i64 ((a 2) + (b 2))), J (IntKind.wrap .i64 ((a 3) + (b 3))), J (IntKind.wrap .i64 ((a 4) + (b 4))), J (IntKind.wrap .i64 ((a 5) + (b 5))), J (IntKind.wrap .i64 ((a 6) + (b 6))), J (IntKind.wrap .i64 ((a 7) + (b 7)))]], ⟨[.row [J (IntKind.wrap .i64 ((a 0) + (b 0))), J (IntKind.wrap .i64 ((a 1) + (b 1))), J (IntKind.wrap .i64 ((a 2) + (b 2))), J (IntKind.wrap .i64 ((a 3) + (b 3))), J (IntKind.wrap .i64 ((a 4) + (b 4))), J (IntKind.wrap .i64 ((a 5) + (b 5))), J (IntKind.wrap .i64 ((a 6) + (b 6))), J (IntKind.wrap .i64 ((a 7) + (b 7)))] 0 .ow none, .row (Mc b) 1 .ow none, .row [J (IntKind.wrap .i64 ((a 0) + (b 0))), J (IntKind.wrap .i64 ((a 1) + (b 1))), J (IntKind.wrap .i64 ((a 2) + (b 2))), J (IntKind.wrap .i64 ((a 3) + (b 3))), J (IntKind.wrap .i64 ((a 4) + (b 4))), J (IntKind.wrap .i64 ((a 5) + (b 5))), J (IntKind.wrap .i64 ((a 6) + (b 6))), J (IntKind.wrap .i64 ((a 7) + (b 7)))] 2 .ow none], 3⟩⟩) (fun cf => by kernel_rfl) ?_
  refine ev_ret ?_
  refine leaf (r0 := .tu [.ag [J (IntKind.wrap .i64 ((a 0) + (b 0))), J (IntKind.wrap .i64 ((a 1) + (b 1))), J (IntKind.wrap .i64 ((a 2) + (b 2))), J (IntKind.wrap .i64 ((a 3) + (b 3))), J (IntKind.wrap .i64 ((a 4) + (b 4))), J (IntKind.wrap .i64 ((a 5) + (b 5))), J (IntKind.wrap .i64 ((a 6) + (b 6))), J (IntKind.wrap .i64 ((a 7) + (b 7)))], J 0]) (r1 := .tu [.ag [J (IntKind.wrap .i64 ((a 0) + (b 0))), J (IntKind.wrap .i64 ((a 1) + (b 1))), J (IntKind.wrap .i64 ((a 2) + (b 2))), J (IntKind.wrap .i64 ((a 3) + (b 3))), J (IntKind.wrap .i64 ((a 4) + (b 4))), J (IntKind.wrap .i64 ((a 5) + (b 5))), J (IntKind.wrap .i64 ((a 6) + (b 6))), J (IntKind.wrap .i64 ((a 7) + (b 7)))], J 0]) (.inr rfl) (by kernel_rfl) (by kernel_rfl) ?_
  first | rfl | simp only [Mc, addM, e0, e1, e2, e3, e4, e5, e6, e7]

theorem g_mul1_f {a b : Nat → Int} (ha : InR a) (hb : InR b) (hv : validB (addM a b) = false) : Gets Try.cx 14 [Ag a, Ag b] (.tu [.ag (Mc zeroM), intA .i64 2]) := by
  have e0 : IntKind.wrap .i64 (a 0 + b 0) = a 0 + b 0 := wrap64 (by have h1 := ha 0 (by decide); have h2 := hb 0 (by decide); omega) (by have h1 := ha 0 (by decide); have h2 := hb 0 (by decide); omega)
  have e1 : IntKind.wrap .i64 (a 1 + b 1) = a 1 + b 1 := wrap64 (by have h1 := ha 1 (by decide); have h2 := hb 1 (by decide); omega) (by have h1 := ha 1 (by decide); have h2 := hb 1 (by decide); omega)
  have e2 : IntKind.wrap .i64 (a 2 + b 2) = a 2 + b 2 := wrap64 (by have h1 := ha 2 (by decide); have h2 := hb 2 (by decide); omega) (by have h1 := ha 2 (by decide); have h2 := hb 2 (by decide); omega)
  have e3 : IntKind.wrap .i64 (a 3 + b 3) = a 3 + b 3 := wrap64 (by have h1 := ha 3 (by decide); have h2 := hb 3 (by decide); omega) (by have h1 := ha 3 (by decide); have h2 := hb 3 (by decide); omega)
  have e4 : IntKind.wrap .i64 (a 4 + b 4) = a 4 + b 4 := wrap64 (by have h1 := ha 4 (by decide); have h2 := hb 4 (by decide); omega) (by have h1 := ha 4 (by decide); have h2 := hb 4 (by decide); omega)
  have e5 : IntKind.wrap .i64 (a 5 + b 5) = a 5 + b 5 := wrap64 (by have h1 := ha 5 (by decide); have h2 := hb 5 (by decide); omega) (by have h1 := ha 5 (by decide); have h2 := hb 5 (by decide); omega)
  have e6 : IntKind.wrap .i64 (a 6 + b 6) = a 6 + b 6 := wrap64 (by have h1 := ha 6 (by decide); have h2 := hb 6 (by decide); omega) (by have h1 := ha 6 (by decide); have h2 := hb 6 (by decide); omega)
  have e7 : IntKind.wrap .i64 (a 7 + b 7) = a 7 + b 7 := wrap64 (by have h1 := ha 7 (by decide); have h2 := hb 7 (by decide); omega) (by have h1 := ha 7 (by decide); have h2 := hb 7 (by decide); omega)
  refine gets_of (fn := Try.f14) (by kernel_rfl) rfl ?_
  show EvK _ _ _ ⟨[Ag a, Ag b] ++ us 22, ⟨[], 0⟩⟩ _
  refine ev_seq ?_
  refine ev_reg (by kernel_rfl) ?_
  refine rs_all (s1 := ⟨[Ag a, Ag b, .ptr 0 0 0, .ptr 1 1 0, .ptr 2 2 0, J 0] ++ us 18, ⟨[.row (Mc a) 0 .ow none, .row (Mc b) 1 .ow none, .row (Mc zeroM) 2 .ow none], 3⟩⟩) (fun cf => by kernel_rfl) ?_
  refine ev_seq ?_
  refine ev_seq ?_
  refine ev_reg (by kernel_rfl) ?_
  refine rs_all (s1 := ⟨[Ag a, Ag b, .ptr 0 0 0, .ptr 1 1 0, .ptr 2 2 0, J 0, J 0] ++ us 17, ⟨[.row (Mc a) 0 .ow none, .row (Mc b) 1 .ow none, .row (Mc zeroM) 2 .ow none], 3⟩⟩) (fun cf => by kernel_rfl) ?_
  refine ev_block ?_
  refine ev_loop ?_
  refine ev_seq ?_
  refine ev_seq ?_
  refine ev_reg (by kernel_rfl) ?_
  refine rs_all (s1 := ⟨[Ag a, Ag b, .ptr 0 0 0, .ptr 1 1 0, .ptr 2 2 0, J 0, J 0, J 0, Yes] ++ us 15, ⟨[.row (Mc a) 0 .ow none, .row (Mc b) 1 .ow none, .row (Mc zeroM) 2 .ow none], 3⟩⟩) (fun cf => by kernel_rfl) ?_
  refine ev_true (by kernel_rfl) ?_
  refine ev_skip ?_
  refine ev_seq ?_
  refine ev_block ?_
  refine ev_reg (by kernel_rfl) ?_
  refine rs_all (s1 := ⟨[Ag a, Ag b, .ptr 0 0 0, .ptr 1 1 0, .ptr 2 2 0, J 0, J 0, J 0, Yes, U, U, J 0, .ptr 0 0 0, J (a 0), J 0, .ptr 1 1 0, J (b 0), J (IntKind.wrap .i64 ((a 0) + (b 0))), .ptr 0 0 0] ++ us 5, ⟨[.row [J (IntKind.wrap .i64 ((a 0) + (b 0))), J (a 1), J (a 2), J (a 3), J (a 4), J (a 5), J (a 6), J (a 7)] 0 .ow none, .row (Mc b) 1 .ow none, .row (Mc zeroM) 2 .ow none], 3⟩⟩) (fun cf => by kernel_rfl) ?_
  refine ev_reg (by kernel_rfl) ?_
  refine rs_all (s1 := ⟨[Ag a, Ag b, .ptr 0 0 0, .ptr 1 1 0, .ptr 2 2 0, J 0, J 1, J 0, Yes, J 0, J 1, J 0, .ptr 0 0 0, J (a 0), J 0, .ptr 1 1 0, J (b 0), J (IntKind.wrap .i64 ((a 0) + (b 0))), .ptr 0 0 0] ++ us 5, ⟨[.row [J (IntKind.wrap .i64 ((a 0) + (b 0))), J (a 1), J (a 2), J (a 3), J (a 4), J (a 5), J (a 6), J (a 7)] 0 .ow none, .row (Mc b) 1 .ow none, .row (Mc zeroM) 2 .ow none], 3⟩⟩) (fun cf => by kernel_rfl) ?_
  refine ev_loop ?_
  refine ev_seq ?_
  refine ev_seq ?_
  refine ev_reg (by kernel_rfl) ?_
  refine rs_all (s1 := ⟨[Ag a, Ag b, .ptr 0 0 0, .ptr 1 1 0, .ptr 2 2 0, J 0, J 1, J 1, Yes, J 0, J 1, J 0, .ptr 0 0 0, J (a 0), J 0, .ptr 1 1 0, J (b 0), J (IntKind.wrap .i64 ((a 0) + (b 0))), .ptr 0 0 0] ++ us 5, ⟨[.row [J (IntKind.wrap .i64 ((a 0) + (b 0))), J (a 1), J (a 2), J (a 3), J (a 4), J (a 5), J (a 6), J (a 7)] 0 .ow none, .row (Mc b) 1 .ow none, .row (Mc zeroM) 2 .ow none], 3⟩⟩) (fun cf => by kernel_rfl) ?_
  refine ev_true (by kernel_rfl) ?_
  refine ev_skip ?_
  refine ev_seq ?_
  refine ev_block ?_
  refine ev_reg (by kernel_rfl) ?_
  refine rs_all (s1 := ⟨[Ag a, Ag b, .ptr 0 0 0, .ptr 1 1 0, .ptr 2 2 0, J 0, J 1, J 1, Yes, J 0, J 1, J 1, .ptr 0 0 1, J (a 1), J 1, .ptr 1 1 1, J (b 1), J (IntKind.wrap .i64 ((a 1) + (b 1))), .ptr 0 0 1] ++ us 5, ⟨[.row [J (IntKind.wrap .i64 ((a 0) + (b 0))), J (IntKind.wrap .i64 ((a 1) + (b 1))), J (a 2), J (a 3), J (a 4), J (a 5), J (a 6), J (a 7)] 0 .ow none, .row (Mc b) 1 .ow none, .row (Mc zeroM) 2 .ow none], 3⟩⟩) (fun cf => by kernel_rfl) ?_
  refine ev_reg (by kernel_rfl) ?_
  refine rs_all (s1 := ⟨[Ag a, Ag b, .ptr 0 0 0, .ptr 1 1 0, .ptr 2 2 0, J 0, J 2, J 1, Yes, J 1, J 2, J 1, .ptr 0 0 1, J (a 1), J 1, .ptr 1 1 1, J (b 1), J (IntKind.wrap .i64 ((a 1) + (b 1))), .ptr 0 0 1] ++ us 5, ⟨[.row [J (IntKind.wrap .i64 ((a 0) + (b 0))), J (IntKind.wrap .i64 ((a 1) + (b 1))), J (a 2), J (a 3), J (a 4), J (a 5), J (a 6), J (a 7)] 0 .ow none, .row (Mc b) 1 .ow none, .row (Mc zeroM) 2 .ow none], 3⟩⟩) (fun cf => by kernel_rfl) ?_
  refine ev_loop ?_
  refine ev_seq ?_
  refine ev_seq ?_
  refine ev_reg (by kernel_rfl) ?_
  refine rs_all (s1 := ⟨[Ag a, Ag b, .ptr 0 0 0, .ptr 1 1 0, .ptr 2 2 0, J 0, J 2, J 2, Yes, J 1, J 2, J 1, .ptr 0 0 1, J (a 1), J 1, .ptr 1 1 1, J (b 1), J (IntKind.wrap .i64 ((a 1) + (b 1))), .ptr 0 0 1] ++ us 5, ⟨[.row [J (IntKind.wrap .i64 ((a 0) + (b 0))), J (IntKind.wrap .i64 ((a 1) + (b 1))), J (a 2), J (a 3), J (a 4), J (a 5), J (a 6), J (a 7)] 0 .ow none, .row (Mc b) 1 .ow none, .row (Mc zeroM) 2 .ow none], 3⟩⟩) (fun cf => by kernel_rfl) ?_
  refine ev_true (by kernel_rfl) ?_
  refine ev_skip ?_
  refine ev_seq ?_
  refine ev_block ?_
  refine ev_reg (by kernel_rfl) ?_
  refine rs_all (s1 := ⟨[Ag a, Ag b, .ptr 0 0 0, .ptr 1 1 0, .ptr 2 2 0, J 0, J 2, J 2, Yes, J 1, J 2, J 2, .ptr 0 0 2, J (a 2), J 2, .ptr 1 1 2, J (b 2), J (IntKind.wrap .i64 ((a 2) + (b 2))), .ptr 0 0 2] ++ us 5, ⟨[.row [J (IntKind.wrap .i64 ((a 0) + (b 0))), J (IntKind.wrap .i64 ((a 1) + (b 1))), J (IntKind.wrap .i64 ((a 2) + (b 2))), J (a 3), J (a 4), J (a 5), J (a 6), J (a 7)] 0 .ow none, .row (Mc b) 1 .ow none, .row (Mc zeroM) 2 .ow none], 3⟩⟩) (fun cf => by kernel_rfl) ?_
  refine ev_reg (by kernel_rfl) ?_
  refine rs_all (s1 := ⟨[Ag a, Ag b, .ptr 0 0 0, .ptr 1 1 0, .ptr 2 2 0, J 0, J 3, J 2, Yes, J 2, J 3, J 2, .ptr 0 0 2, J (a 2), J 2, .ptr 1 1 2, J (b 2), J (IntKind.wrap .i64 ((a 2) + (b 2))), .ptr 0 0 2] ++ us 5, ⟨[.row [J (IntKind.wrap .i64 ((a 0) + (b 0))), J (IntKind.wrap .i64 ((a 1) + (b 1))), J (IntKind.wrap .i64 ((a 2) + (b 2))), J (a 3), J (a 4), J (a 5), J (a 6), J (a 7)] 0 .ow none, .row (Mc b) 1 .ow none, .row (Mc zeroM) 2 .ow none], 3⟩⟩) (fun cf => by kernel_rfl) ?_
  refine ev_loop ?_
  refine ev_seq ?_
  refine ev_seq ?_
  refine ev_reg (by kernel_rfl) ?_
  refine rs_all (s1 := ⟨[Ag a, Ag b, .ptr 0 0 0, .ptr 1 1 0, .ptr 2 2 0, J 0, J 3, J 3, Yes, J 2, J 3, J 2, .ptr 0 0 2, J (a 2), J 2, .ptr 1 1 2, J (b 2), J (IntKind.wrap .i64 ((a 2) + (b 2))), .ptr 0 0 2] ++ us 5, ⟨[.row [J (IntKind.wrap .i64 ((a 0) + (b 0))), J (IntKind.wrap .i64 ((a 1) + (b 1))), J (IntKind.wrap .i64 ((a 2) + (b 2))), J (a 3), J (a 4), J (a 5), J (a 6), J (a 7)] 0 .ow none, .row (Mc b) 1 .ow none, .row (Mc zeroM) 2 .ow none], 3⟩⟩) (fun cf => by kernel_rfl) ?_
  refine ev_true (by kernel_rfl) ?_
  refine ev_skip ?_
  refine ev_seq ?_
  refine ev_block ?_
  refine ev_reg (by kernel_rfl) ?_
  refine rs_all (s1 := ⟨[Ag a, Ag b, .ptr 0 0 0, .ptr 1 1 0, .ptr 2 2 0, J 0, J 3, J 3, Yes, J 2, J 3, J 3, .ptr 0 0 3, J (a 3), J 3, .ptr 1 1 3, J (b 3), J (IntKind.wrap .i64 ((a 3) + (b 3))), .ptr 0 0 3] ++ us 5, ⟨[.row [J (IntKind.wrap .i64 ((a 0) + (b 0))), J (IntKind.wrap .i64 ((a 1) + (b 1))), J (IntKind.wrap .i64 ((a 2) + (b 2))), J (IntKind.wrap .i64 ((a 3) + (b 3))), J (a 4), J (a 5), J (a 6), J (a 7)] 0 .ow none, .row (Mc b) 1 .ow none, .row (Mc zeroM) 2 .ow none], 3⟩⟩) (fun cf => by kernel_rfl) ?_
  refine ev_reg (by kernel_rfl) ?_
  refine rs_all (s1 := ⟨[Ag a, Ag b, .ptr 0 0 0, .ptr 1 1 0, .ptr 2 2 0, J 0, J 4, J 3, Yes, J 3, J 4, J 3, .ptr 0 0 3, J (a 3), J 3, .ptr 1 1 3, J (b 3), J (IntKind.wrap .i64 ((a 3) + (b 3))), .ptr 0 0 3] ++ us 5, ⟨[.row [J (IntKind.wrap .i64 ((a 0) + (b 0))), J (IntKind.wrap .i64 ((a 1) + (b 1))), J (IntKind.wrap .i64 ((a 2) + (b 2))), J (IntKind.wrap .i64 ((a 3) + (b 3))), J (a 4), J (a 5), J (a 6), J (a 7)] 0 .ow none, .row (Mc b) 1 .ow none, .row (Mc zeroM) 2 .ow none], 3⟩⟩) (fun cf => by kernel_rfl) ?_
  refine ev_loop ?_
  refine ev_seq ?_
  refine ev_seq ?_
  refine ev_reg (by kernel_rfl) ?_
  refine rs_all (s1 := ⟨[Ag a, Ag b, .ptr 0 0 0, .ptr 1 1 0, .ptr 2 2 0, J 0, J 4, J 4, Yes, J 3, J 4, J 3, .ptr 0 0 3, J (a 3), J 3, .ptr 1 1 3, J (b 3), J (IntKind.wrap .i64 ((a 3) + (b 3))), .ptr 0 0 3] ++ us 5, ⟨[.row [J (IntKind.wrap .i64 ((a 0) + (b 0))), J (IntKind.wrap .i64 ((a 1) + (b 1))), J (IntKind.wrap .i64 ((a 2) + (b 2))), J (IntKind.wrap .i64 ((a 3) + (b 3))), J (a 4), J (a 5), J (a 6), J (a 7)] 0 .ow none, .row (Mc b) 1 .ow none, .row (Mc zeroM) 2 .ow none], 3⟩⟩) (fun cf => by kernel_rfl) ?_
  refine ev_true (by kernel_rfl) ?_
  refine ev_skip ?_
  refine ev_seq ?_
  refine ev_block ?_
  refine ev_reg (by kernel_rfl) ?_
  refine rs_all (s1 := ⟨[Ag a, Ag b, .ptr 0 0 0, .ptr 1 1 0, .ptr 2 2 0, J 0, J 4, J 4, Yes, J 3, J 4, J 4, .ptr 0 0 4, J (a 4), J 4, .ptr 1 1 4, J (b 4), J (IntKind.wrap .i64 ((a 4) + (b 4))), .ptr 0 0 4] ++ us 5, ⟨[.row [J (IntKind.wrap .i64 ((a 0) + (b 0))), J (IntKind.wrap .i64 ((a 1) + (b 1))), J (IntKind.wrap .i64 ((a 2) + (b 2))), J (IntKind.wrap .i64 ((a 3) + (b 3))), J (IntKind.wrap .i64 ((a 4) + (b 4))), J (a 5), J (a 6), J (a 7)] 0 .ow none, .row (Mc b) 1 .ow none, .row (Mc zeroM) 2 .ow none], 3⟩⟩) (fun cf => by kernel_rfl) ?_
  refine ev_reg (by kernel_rfl) ?_
  refine rs_all (s1 := ⟨[Ag a, Ag b, .ptr 0 0 0, .ptr 1 1 0, .ptr 2 2 0, J 0, J 5, J 4, Yes, J 4, J 5, J 4, .ptr 0 0 4, J (a 4), J 4, .ptr 1 1 4, J (b 4), J (IntKind.wrap .i64 ((a 4) + (b 4))), .ptr 0 0 4] ++ us 5, ⟨[.row [J (IntKind.wrap .i64 ((a 0) + (b 0))), J (IntKind.wrap .i64 ((a 1) + (b 1))), J (IntKind.wrap .i64 ((a 2) + (b 2))), J (IntKind.wrap .i64 ((a 3) + (b 3))), J (IntKind.wrap .i64 ((a 4) + (b 4))), J (a 5), J (a 6), J (a 7)] 0 .ow none, .row (Mc b) 1 .ow none, .row (Mc zeroM) 2 .ow none], 3⟩⟩) (fun cf => by kernel_rfl) ?_
  refine ev_loop ?_
  refine ev_seq ?_
  refine ev_seq ?_
  refine ev_reg (by kernel_rfl) ?_
  refine rs_all (s1 := ⟨[Ag a, Ag b, .ptr 0 0 0, .ptr 1 1 0, .ptr 2 2 0, J 0, J 5, J 5, Yes, J 4, J 5, J 4, .ptr 0 0 4, J (a 4), J 4, .ptr 1 1 4, J (b 4), J (IntKind.wrap .i64 ((a 4) + (b 4))), .ptr 0 0 4] ++ us 5, ⟨[.row [J (IntKind.wrap .i64 ((a 0) + (b 0))), J (IntKind.wrap .i64 ((a 1) + (b 1))), J (IntKind.wrap .i64 ((a 2) + (b 2))), J (IntKind.wrap .i64 ((a 3) + (b 3))), J (IntKind.wrap .i64 ((a 4) + (b 4))), J (a 5), J (a 6), J (a 7)] 0 .ow none, .row (Mc b) 1 .ow none, .row (Mc zeroM) 2 .ow none], 3⟩⟩) (fun cf => by kernel_rfl) ?_
  refine ev_true (by kernel_rfl) ?_
  refine ev_skip ?_
  refine ev_seq ?_
  refine ev_block ?_
  refine ev_reg (by kernel_rfl) ?_
  refine rs_all (s1 := ⟨[Ag a, Ag b, .ptr 0 0 0, .ptr 1 1 0, .ptr 2 2 0, J 0, J 5, J 5, Yes, J 4, J 5, J 5, .ptr 0 0 5, J (a 5), J 5, .ptr 1 1 5, J (b 5), J (IntKind.wrap .i64 ((a 5) + (b 5))), .ptr 0 0 5] ++ us 5, ⟨[.row [J (IntKind.wrap .i64 ((a 0) + (b 0))), J (IntKind.wrap .i64 ((a 1) + (b 1))), J (IntKind.wrap .i64 ((a 2) + (b 2))), J (IntKind.wrap .i64 ((a 3) + (b 3))), J (IntKind.wrap .i64 ((a 4) + (b 4))), J (IntKind.wrap .i64 ((a 5) + (b 5))), J (a 6), J (a 7)] 0 .ow none, .row (Mc b) 1 .ow none, .row (Mc zeroM) 2 .ow none], 3⟩⟩) (fun cf => by kernel_rfl) ?_
  refine ev_reg (by kernel_rfl) ?_
  refine rs_all (s1 := ⟨[Ag a, Ag b, .ptr 0 0 0, .ptr 1 1 0, .ptr 2 2 0, J 0, J 6, J 5, Yes, J 5, J 6, J 5, .ptr 0 0 5, J (a 5), J 5, .ptr 1 1 5, J (b 5), J (IntKind.wrap .i64 ((a 5) + (b 5))), .ptr 0 0 5] ++ us 5, ⟨[.row [J (IntKind.wrap .i64 ((a 0) + (b 0))), J (IntKind.wrap .i64 ((a 1) + (b 1))), J (IntKind.wrap .i64 ((a 2) + (b 2))), J (IntKind.wrap .i64 ((a 3) + (b 3))), J (IntKind.wrap .i64 ((a 4) + (b 4))), J (IntKind.wrap .i64 ((a 5) + (b 5))), J (a 6), J (a 7)] 0 .ow none, .row (Mc b) 1 .ow none, .row (Mc zeroM) 2 .ow none], 3⟩⟩) (fun cf => by kernel_rfl) ?_
  refine ev_loop ?_
  refine ev_seq ?_
  refine ev_seq ?_
  refine ev_reg (by kernel_rfl) ?_
  refine rs_all (s1 := ⟨[Ag a, Ag b, .ptr 0 0 0, .ptr 1 1 0, .ptr 2 2 0, J 0, J 6, J 6, Yes, J 5, J 6, J 5, .ptr 0 0 5, J (a 5), J 5, .ptr 1 1 5, J (b 5), J (IntKind.wrap .i64 ((a 5) + (b 5))), .ptr 0 0 5] ++ us 5, ⟨[.row [J (IntKind.wrap .i64 ((a 0) + (b 0))), J (IntKind.wrap .i64 ((a 1) + (b 1))), J (IntKind.wrap .i64 ((a 2) + (b 2))), J (IntKind.wrap .i64 ((a 3) + (b 3))), J (IntKind.wrap .i64 ((a 4) + (b 4))), J (IntKind.wrap .i64 ((a 5) + (b 5))), J (a 6), J (a 7)] 0 .ow none, .row (Mc b) 1 .ow none, .row (Mc zeroM) 2 .ow none], 3⟩⟩) (fun cf => by kernel_rfl) ?_
  refine ev_true (by kernel_rfl) ?_
  refine ev_skip ?_
  refine ev_seq ?_
  refine ev_block ?_
  refine ev_reg (by kernel_rfl) ?_
  refine rs_all (s1 := ⟨[Ag a, Ag b, .ptr 0 0 0, .ptr 1 1 0, .ptr 2 2 0, J 0, J 6, J 6, Yes, J 5, J 6, J 6, .ptr 0 0 6, J (a 6), J 6, .ptr 1 1 6, J (b 6), J (IntKind.wrap .i64 ((a 6) + (b 6))), .ptr 0 0 6] ++ us 5, ⟨[.row [J (IntKind.wrap .i64 ((a 0) + (b 0))), J (IntKind.wrap .i64 ((a 1) + (b 1))), J (IntKind.wrap .i64 ((a 2) + (b 2))), J (IntKind.wrap .i64 ((a 3) + (b 3))), J (IntKind.wrap .i64 ((a 4) + (b 4))), J (IntKind.wrap .i64 ((a 5) + (b 5))), J (IntKind.wrap .i64 ((a 6) + (b 6))), J (a 7)] 0 .ow none, .row (Mc b) 1 .ow none, .row (Mc zeroM) 2 .ow none], 3⟩⟩) (fun cf => by kernel_rfl) ?_
  refine ev_reg (by kernel_rfl) ?_
  refine rs_all (s1 := ⟨[Ag a, Ag b, .ptr 0 0 0, .ptr 1 1 0, .ptr 2 2 0, J 0, J 7, J 6, Yes, J 6, J 7, J 6, .ptr 0 0 6, J (a 6), J 6, .ptr 1 1 6, J (b 6), J (IntKind.wrap .i64 ((a 6) + (b 6))), .ptr 0 0 6] ++ us 5, ⟨[.row [J (IntKind.wrap .i64 ((a 0) + (b 0))), J (IntKind.wrap .i64 ((a 1) + (b 1))), J (IntKind.wrap .i64 ((a 2) + (b 2))), J (IntKind.wrap .i64 ((a 3) + (b 3))), J (IntKind.wrap .i64 ((a 4) + (b 4))), J (IntKind.wrap .i64 ((a 5) + (b 5))), J (IntKind.wrap .i64 ((a 6) + (b 6))), J (a 7)] 0 .ow none, .row (Mc b) 1 .ow none, .row (Mc zeroM) 2 .ow none], 3⟩⟩) (fun cf => by kernel_rfl) ?_
  refine ev_loop ?_
  refine ev_seq ?_
  refine ev_seq ?_
  refine ev_reg (by kernel_rfl) ?_
  refine rs_all (s1 := ⟨[Ag a, Ag b, .ptr 0 0 0, .ptr 1 1 0, .ptr 2 2 0, J 0, J 7, J 7, Yes, J 6, J 7, J 6, .ptr 0 0 6, J (a 6), J 6, .ptr 1 1 6, J (b 6), J (IntKind.wrap .i64 ((a 6) + (b 6))), .ptr 0 0 6] ++ us 5, ⟨[.row [J (IntKind.wrap .i64 ((a 0) + (b 0))), J (IntKind.wrap .i64 ((a 1) + (b 1))), J (IntKind.wrap .i64 ((a 2) + (b 2))), J (IntKind.wrap .i64 ((a 3) + (b 3))), J (IntKind.wrap .i64 ((a 4) + (b 4))), J (IntKind.wrap .i64 ((a 5) + (b 5))), J (IntKind.wrap .i64 ((a 6) + (b 6))), J (a 7)] 0 .ow none, .row (Mc b) 1 .ow none, .row (Mc zeroM) 2 .ow none], 3⟩⟩) (fun cf => by kernel_rfl) ?_
  refine ev_true (by kernel_rfl) ?_
  refine ev_skip ?_
  refine ev_seq ?_
  refine ev_block ?_
  refine ev_reg (by kernel_rfl) ?_
  refine rs_all (s1 := ⟨[Ag a, Ag b, .ptr 0 0 0, .ptr 1 1 0, .ptr 2 2 0, J 0, J 7, J 7, Yes, J 6, J 7, J 7, .ptr 0 0 7, J (a 7), J 7, .ptr 1 1 7, J (b 7), J (IntKind.wrap .i64 ((a 7) + (b 7))), .ptr 0 0 7] ++ us 5, ⟨[.row [J (IntKind.wrap .i64 ((a 0) + (b 0))), J (IntKind.wrap .i64 ((a 1) + (b 1))), J (IntKind.wrap .i64 ((a 2) + (b 2))), J (IntKind.wrap .i64 ((a 3) + (b 3))), J (IntKind.wrap .i64 ((a 4) + (b 4))), J (IntKind.wrap .i64 ((a 5) + (b 5))), J (IntKind.wrap .i64 ((a 6) + (b 6))), J (IntKind.wrap .i64 ((a 7) + (b 7)))] 0 .ow none, .row (Mc b) 1 .ow none, .row (Mc zeroM) 2 .ow none], 3⟩⟩) (fun cf => by kernel_rfl) ?_
  refine ev_reg (by kernel_rfl) ?_
  refine rs_all (s1 := ⟨[Ag a, Ag b, .ptr 0 0 0, .ptr 1 1 0, .ptr 2 2 0, J 0, J 8, J 7, Yes, J 7, J 8, J 7, .ptr 0 0 7, J (a 7), J 7, .ptr 1 1 7, J (b 7), J (IntKind.wrap .i64 ((a 7) + (b 7))), .ptr 0 0 7] ++ us 5, ⟨[.row [J (IntKind.wrap .i64 ((a 0) + (b 0))), J (IntKind.wrap .i64 ((a 1) + (b 1))), J (IntKind.wrap .i64 ((a 2) + (b 2))), J (IntKind.wrap .i64 ((a 3) + (b 3))), J (IntKind.wrap .i64 ((a 4) + (b 4))), J (IntKind.wrap .i64 ((a 5) + (b 5))), J (IntKind.wrap .i64 ((a 6) + (b 6))), J (IntKind.wrap .i64 ((a 7) + (b 7)))] 0 .ow none, .row (Mc b) 1 .ow none, .row (Mc zeroM) 2 .ow none], 3⟩⟩) (fun cf => by kernel_rfl) ?_
  refine ev_loop ?_
  refine ev_seq ?_
  refine ev_seq ?_
  refine ev_reg (by kernel_rfl) ?_
  refine rs_all (s1 := ⟨[Ag a, Ag b, .ptr 0 0 0, .ptr 1 1 0, .ptr 2 2 0, J 0, J 8, J 8, No, J 7, J 8, J 7, .ptr 0 0 7, J (a 7), J 7, .ptr 1 1 7, J (b 7), J (IntKind.wrap .i64 ((a 7) + (b 7))), .ptr 0 0 7] ++ us 5, ⟨[.row [J (IntKind.wrap .i64 ((a 0) + (b 0))), J (IntKind.wrap .i64 ((a 1) + (b 1))), J (IntKind.wrap .i64 ((a 2) + (b 2))), J (IntKind.wrap .i64 ((a 3) + (b 3))), J (IntKind.wrap .i64 ((a 4) + (b 4))), J (IntKind.wrap .i64 ((a 5) + (b 5))), J (IntKind.wrap .i64 ((a 6) + (b 6))), J (IntKind.wrap .i64 ((a 7) + (b 7)))] 0 .ow none, .row (Mc b) 1 .ow none, .row (Mc zeroM) 2 .ow none], 3⟩⟩) (fun cf => by kernel_rfl) ?_
  refine ev_false (by kernel_rfl) ?_
  refine ev_exit ?_
  refine ev_seq ?_
  refine ev_seq ?_
  refine ev_reg (by kernel_rfl) ?_
  refine rs_take 1 (s1 := ⟨[Ag a, Ag b, .ptr 0 0 0, .ptr 1 1 0, .ptr 2 2 0, J 0, J 8, J 8, No, J 7, J 8, J 7, .ptr 0 0 7, J (a 7), J 7, .ptr 1 1 7, J (b 7), J (IntKind.wrap .i64 ((a 7) + (b 7))), .ptr 0 0 7, .ag [J (IntKind.wrap .i64 ((a 0) + (b 0))), J (IntKind.wrap .i64 ((a 1) + (b 1))), J (IntKind.wrap .i64 ((a 2) + (b 2))), J (IntKind.wrap .i64 ((a 3) + (b 3))), J (IntKind.wrap .i64 ((a 4) + (b 4))), J (IntKind.wrap .i64 ((a 5) + (b 5))), J (IntKind.wrap .i64 ((a 6) + (b 6))), J (IntKind.wrap .i64 ((a 7) + (b 7)))]] ++ us 4, ⟨[.row [J (IntKind.wrap .i64 ((a 0) + (b 0))), J (IntKind.wrap .i64 ((a 1) + (b 1))), J (IntKind.wrap .i64 ((a 2) + (b 2))), J (IntKind.wrap .i64 ((a 3) + (b 3))), J (IntKind.wrap .i64 ((a 4) + (b 4))), J (IntKind.wrap .i64 ((a 5) + (b 5))), J (IntKind.wrap .i64 ((a 6) + (b 6))), J (IntKind.wrap .i64 ((a 7) + (b 7)))] 0 .ow none, .row (Mc b) 1 .ow none, .row (Mc zeroM) 2 .ow none], 3⟩⟩) (fun cf => by kernel_rfl) ?_
  refine rs_pure (g := 31) (bs := [.ag [J (IntKind.wrap .i64 ((a 0) + (b 0))), J (IntKind.wrap .i64 ((a 1) + (b 1))), J (IntKind.wrap .i64 ((a 2) + (b 2))), J (IntKind.wrap .i64 ((a 3) + (b 3))), J (IntKind.wrap .i64 ((a 4) + (b 4))), J (IntKind.wrap .i64 ((a 5) + (b 5))), J (IntKind.wrap .i64 ((a 6) + (b 6))), J (IntKind.wrap .i64 ((a 7) + (b 7)))]]) (ow := false) (r := boolA (validB (fun i => (IntKind.wrap .i64 ((a i) + (b i)))))) (s1 := ⟨[Ag a, Ag b, .ptr 0 0 0, .ptr 1 1 0, .ptr 2 2 0, J 0, J 8, J 8, No, J 7, J 8, J 7, .ptr 0 0 7, J (a 7), J 7, .ptr 1 1 7, J (b 7), J (IntKind.wrap .i64 ((a 7) + (b 7))), .ptr 0 0 7, .ag [J (IntKind.wrap .i64 ((a 0) + (b 0))), J (IntKind.wrap .i64 ((a 1) + (b 1))), J (IntKind.wrap .i64 ((a 2) + (b 2))), J (IntKind.wrap .i64 ((a 3) + (b 3))), J (IntKind.wrap .i64 ((a 4) + (b 4))), J (IntKind.wrap .i64 ((a 5) + (b 5))), J (IntKind.wrap .i64 ((a 6) + (b 6))), J (IntKind.wrap .i64 ((a 7) + (b 7)))], boolA (validB (fun i => (IntKind.wrap .i64 ((a i) + (b i)))))] ++ us 3, ⟨[.row [J (IntKind.wrap .i64 ((a 0) + (b 0))), J (IntKind.wrap .i64 ((a 1) + (b 1))), J (IntKind.wrap .i64 ((a 2) + (b 2))), J (IntKind.wrap .i64 ((a 3) + (b 3))), J (IntKind.wrap .i64 ((a 4) + (b 4))), J (IntKind.wrap .i64 ((a 5) + (b 5))), J (IntKind.wrap .i64 ((a 6) + (b 6))), J (IntKind.wrap .i64 ((a 7) + (b 7)))] 0 .ow none, .row (Mc b) 1 .ow none, .row (Mc zeroM) 2 .ow none], 3⟩⟩) (by kernel_rfl) (g_valid1 (fun i => (IntKind.wrap .i64 ((a i) + (b i))))) (by kernel_rfl) (by kernel_rfl) ?_
  refine rs_all (s1 := ⟨[Ag a, Ag b, .ptr 0 0 0, .ptr 1 1 0, .ptr 2 2 0, J 0, J 8, J 8, No, J 7, J 8, J 7, .ptr 0 0 7, J (a 7), J 7, .ptr 1 1 7, J (b 7), J (IntKind.wrap .i64 ((a 7) + (b 7))), .ptr 0 0 7, .ag [J (IntKind.wrap .i64 ((a 0) + (b 0))), J (IntKind.wrap .i64 ((a 1) + (b 1))), J (IntKind.wrap .i64 ((a 2) + (b 2))), J (IntKind.wrap .i64 ((a 3) + (b 3))), J (IntKind.wrap .i64 ((a 4) + (b 4))), J (IntKind.wrap .i64 ((a 5) + (b 5))), J (IntKind.wrap .i64 ((a 6) + (b 6))), J (IntKind.wrap .i64 ((a 7) + (b 7)))], boolA (validB (fun i => (IntKind.wrap .i64 ((a i) + (b i))))), boolA (!(validB (fun i => (IntKind.wrap .i64 ((a i) + (b i)))))), U, U], ⟨[.row [J (IntKind.wrap .i64 ((a 0) + (b 0))), J (IntKind.wrap .i64 ((a 1) + (b 1))), J (IntKind.wrap .i64 ((a 2) + (b 2))), J (IntKind.wrap .i64 ((a 3) + (b 3))), J (IntKind.wrap .i64 ((a 4) + (b 4))), J (IntKind.wrap .i64 ((a 5) + (b 5))), J (IntKind.wrap .i64 ((a 6) + (b 6))), J (IntKind.wrap .i64 ((a 7) + (b 7)))] 0 .ow none, .row (Mc b) 1 .ow none, .row (Mc zeroM) 2 .ow none], 3⟩⟩) (fun cf => by kernel_rfl) ?_
  have hk1 : (!(validB (fun i => (IntKind.wrap .i64 ((a i) + (b i)))))) = true := by
    have hv1 : validB (fun i => IntKind.wrap .i64 (a i + b i)) = validB (addM a b) := by unfold validB; rw [decide_eq_decide]; simp only [addM, e0, e1, e2, e3, e4, e5, e6, e7]
    rw [hv1, hv]
    rfl
  rw [hk1]
  refine ev_true (by kernel_rfl) ?_
  refine ev_seq ?_
  refine ev_reg (by kernel_rfl) ?_
  refine rs_all (s1 := ⟨[Ag a, Ag b, .ptr 0 0 0, .ptr 1 1 0, .ptr 2 2 0, J 2, J 8, J 8, No, J 7, J 8, J 7, .ptr 0 0 7, J (a 7), J 7, .ptr 1 1 7, J (b 7), J (IntKind.wrap .i64 ((a 7) + (b 7))), .ptr 0 0 7, .ag [J (IntKind.wrap .i64 ((a 0) + (b 0))), J (IntKind.wrap .i64 ((a 1) + (b 1))), J (IntKind.wrap .i64 ((a 2) + (b 2))), J (IntKind.wrap .i64 ((a 3) + (b 3))), J (IntKind.wrap .i64 ((a 4) + (b 4))), J (IntKind.wrap .i64 ((a 5) + (b 5))), J (IntKind.wrap .i64 ((a 6) + (b 6))), J (IntKind.wrap .i64 ((a 7) + (b 7)))], boolA (validB (fun i => (IntKind.wrap .i64 ((a i) + (b i))))), Yes, Ag zeroM, U], ⟨[.row [J (IntKind.wrap .i64 ((a 0) + (b 0))), J (IntKind.wrap .i64 ((a 1) + (b 1))), J (IntKind.wrap .i64 ((a 2) + (b 2))), J (IntKind.wrap .i64 ((a 3) + (b 3))), J (IntKind.wrap .i64 ((a 4) + (b 4))), J (IntKind.wrap .i64 ((a 5) + (b 5))), J (IntKind.wrap .i64 ((a 6) + (b 6))), J (IntKind.wrap .i64 ((a 7) + (b 7)))] 0 .ow none, .row (Mc b) 1 .ow none, .row (Mc zeroM) 2 .ow none], 3⟩⟩) (fun cf => by kernel_rfl) ?_
  refine ev_ret ?_
  refine leaf (r0 := .tu [Ag zeroM, J 2]) (r1 := .tu [Ag zeroM, J 2]) (.inr rfl) (by kernel_rfl) (by kernel_rfl) ?_
  first | rfl | simp only [Mc, addM, e0, e1, e2, e3, e4, e5, e6, e7]

theorem g_quo_t {a b : Nat → Int} (ha : InR a) (hb : InR b) (hv : dvdB b a = true) : Gets Try.cx 15 [Ag a, Ag b] (.tu [.ag (Mc (subM a b)), boolA true]) := by
  have e0 : IntKind.wrap .i64 (a 0 - b 0) = a 0 - b 0 := wrap64 (by have h1 := ha 0 (by decide); have h2 := hb 0 (by decide); omega) (by have h1 := ha 0 (by decide); have h2 := hb 0 (by decide); omega)
  have e1 : IntKind.wrap .i64 (a 1 - b 1) = a 1 - b 1 := wrap64 (by have h1 := ha 1 (by decide); have h2 := hb 1 (by decide); omega) (by have h1 := ha 1 (by decide); have h2 := hb 1 (by decide); omega)
  have e2 : IntKind.wrap .i64 (a 2 - b 2) = a 2 - b 2 := wrap64 (by have h1 := ha 2 (by decide); have h2 := hb 2 (by decide); omega) (by have h1 := ha 2 (by decide); have h2 := hb 2 (by decide); omega)
  have e3 : IntKind.wrap .i64 (a 3 - b 3) = a 3 - b 3 := wrap64 (by have h1 := ha 3 (by decide); have h2 := hb 3 (by decide); omega) (by have h1 := ha 3 (by decide); have h2 := hb 3 (by decide); omega)
  have e4 : IntKind.wrap .i64 (a 4 - b 4) = a 4 - b 4 := wrap64 (by have h1 := ha 4 (by decide); have h2 := hb 4 (by decide); omega) (by have h1 := ha 4 (by decide); have h2 := hb 4 (by decide); omega)
  have e5 : IntKind.wrap .i64 (a 5 - b 5) = a 5 - b 5 := wrap64 (by have h1 := ha 5 (by decide); have h2 := hb 5 (by decide); omega) (by have h1 := ha 5 (by decide); have h2 := hb 5 (by decide); omega)
  have e6 : IntKind.wrap .i64 (a 6 - b 6) = a 6 - b 6 := wrap64 (by have h1 := ha 6 (by decide); have h2 := hb 6 (by decide); omega) (by have h1 := ha 6 (by decide); have h2 := hb 6 (by decide); omega)
  have e7 : IntKind.wrap .i64 (a 7 - b 7) = a 7 - b 7 := wrap64 (by have h1 := ha 7 (by decide); have h2 := hb 7 (by decide); omega) (by have h1 := ha 7 (by decide); have h2 := hb 7 (by decide); omega)
  refine gets_of (fn := Try.f15) (by kernel_rfl) rfl ?_
  show EvK _ _ _ ⟨[Ag a, Ag b] ++ us 12, ⟨[], 0⟩⟩ _
  refine ev_seq ?_
  refine ev_reg (by kernel_rfl) ?_
  refine rs_all (s1 := ⟨[Ag a, Ag b, .ptr 0 0 0, .ptr 1 1 0, .ptr 2 2 0, No] ++ us 8, ⟨[.row (Mc a) 0 .ow none, .row (Mc b) 1 .ow none, .row (Mc zeroM) 2 .ow none], 3⟩⟩) (fun cf => by kernel_rfl) ?_
  refine ev_seq ?_
  refine ev_seq ?_
  refine ev_reg (by kernel_rfl) ?_
  refine rs_take 2 (s1 := ⟨[Ag a, Ag b, .ptr 0 0 0, .ptr 1 1 0, .ptr 2 2 0, No, Ag b, Ag a] ++ us 6, ⟨[.row (Mc a) 0 .ow none, .row (Mc b) 1 .ow none, .row (Mc zeroM) 2 .ow none], 3⟩⟩) (fun cf => by kernel_rfl) ?_
  refine rs_pure (g := 17) (bs := [Ag b, Ag a]) (ow := false) (r := boolA (dvdB b a)) (s1 := ⟨[Ag a, Ag b, .ptr 0 0 0, .ptr 1 1 0, .ptr 2 2 0, No, Ag b, Ag a, boolA (dvdB b a)] ++ us 5, ⟨[.row (Mc a) 0 .ow none, .row (Mc b) 1 .ow none, .row (Mc zeroM) 2 .ow none], 3⟩⟩) (by kernel_rfl) (g_dvd b a) (by kernel_rfl) (by kernel_rfl) ?_
  refine rs_all (s1 := ⟨[Ag a, Ag b, .ptr 0 0 0, .ptr 1 1 0, .ptr 2 2 0, No, Ag b, Ag a, boolA (dvdB b a), boolA (!(dvdB b a))] ++ us 4, ⟨[.row (Mc a) 0 .ow none, .row (Mc b) 1 .ow none, .row (Mc zeroM) 2 .ow none], 3⟩⟩) (fun cf => by kernel_rfl) ?_
  have hk1 : (!(dvdB b a)) = false := by
    first | exact hv | simp only [hv, Bool.not_true, Bool.not_false]
  rw [hk1]
  refine ev_false (by kernel_rfl) ?_
  refine ev_skip ?_
  refine ev_seq ?_
  refine ev_reg (by kernel_rfl) ?_
  refine rs_take 2 (s1 := ⟨[Ag a, Ag b, .ptr 0 0 0, .ptr 1 1 0, .ptr 2 2 0, No, Ag b, Ag a, boolA (dvdB b a), No, U, Ag a, Ag b, U], ⟨[.row (Mc a) 0 .ow none, .row (Mc b) 1 .ow none, .row (Mc zeroM) 2 .ow none], 3⟩⟩) (fun cf => by kernel_rfl) ?_
  refine rs_pure (g := 37) (bs := [Ag a, Ag b, .fn 39 []]) (ow := false) (r := Ag (subM a b)) (s1 := ⟨[Ag a, Ag b, .ptr 0 0 0, .ptr 1 1 0, .ptr 2 2 0, No, Ag b, Ag a, boolA (dvdB b a), No, U, Ag a, Ag b, Ag (subM a b)], ⟨[.row (Mc a) 0 .ow none, .row (Mc b) 1 .ow none, .row (Mc zeroM) 2 .ow none], 3⟩⟩) (by kernel_rfl) (g_sub ha hb) (by kernel_rfl) (by kernel_rfl) ?_
  refine rs_all (s1 := ⟨[Ag a, Ag b, .ptr 0 0 0, .ptr 1 1 0, .ptr 2 2 0, Yes, Ag b, Ag a, boolA (dvdB b a), No, U, Ag a, Ag b, Ag (subM a b)], ⟨[.row (Mc a) 0 .ow none, .row (Mc b) 1 .ow none, .row (Mc (subM a b)) 2 .ow none], 3⟩⟩) (fun cf => by kernel_rfl) ?_
  refine ev_ret ?_
  refine leaf (r0 := .tu [Ag (subM a b), Yes]) (r1 := .tu [Ag (subM a b), Yes]) (.inr rfl) (by kernel_rfl) (by kernel_rfl) ?_
  first | rfl | simp only [Mc, subM, e0, e1, e2, e3, e4, e5, e6, e7]

theorem g_quo_f {a b : Nat → Int} (ha : InR a) (hb : InR b) (hv : dvdB b a = false) : Gets Try.cx 15 [Ag a, Ag b] (.tu [.ag (Mc zeroM), boolA false]) := by
  have e0 : IntKind.wrap .i64 (a 0 - b 0) = a 0 - b 0 := wrap64 (by have h1 := ha 0 (by decide); have h2 := hb 0 (by decide); omega) (by have h1 := ha 0 (by decide); have h2 := hb 0 (by decide); omega)
  have e1 : IntKind.wrap .i64 (a 1 - b 1) = a 1 - b 1 := wrap64 (by have h1 := ha 1 (by decide); have h2 := hb 1 (by decide); omega) (by have h1 := ha 1 (by decide); have h2 := hb 1 (by decide); omega)
  have e2 : IntKind.wrap .i64 (a 2 - b 2) = a 2 - b 2 := wrap64 (by have h1 := ha 2 (by decide); have h2 := hb 2 (by decide); omega) (by have h1 := ha 2 (by decide); have h2 := hb 2 (by decide); omega)
  have e3 : IntKind.wrap .i64 (a 3 - b 3) = a 3 - b 3 := wrap64 (by have h1 := ha 3 (by decide); have h2 := hb 3 (by decide); omega) (by have h1 := ha 3 (by decide); have h2 := hb 3 (by decide); omega)
  have e4 : IntKind.wrap .i64 (a 4 - b 4) = a 4 - b 4 := wrap64 (by have h1 := ha 4 (by decide); have h2 := hb 4 (by decide); omega) (by have h1 := ha 4 (by decide); have h2 := hb 4 (by decide); omega)
  have e5 : IntKind.wrap .i64 (a 5 - b 5) = a 5 - b 5 := wrap64 (by have h1 := ha 5 (by decide); have h2 := hb 5 (by decide); omega) (by have h1 := ha 5 (by decide); have h2 := hb 5 (by decide); omega)
  have e6 : IntKind.wrap .i64 (a 6 - b 6) = a 6 - b 6 := wrap64 (by have h1 := ha 6 (by decide); have h2 := hb 6 (by decide); omega) (by have h1 := ha 6 (by decide); have h2 := hb 6 (by decide); omega)
  have e7 : IntKind.wrap .i64 (a 7 - b 7) = a 7 - b 7 := wrap64 (by have h1 := ha 7 (by decide); have h2 := hb 7 (by decide); omega) (by have h1 := ha 7 (by decide); have h2 := hb 7 (by decide); omega)
  refine gets_of (fn := Try.f15) (by kernel_rfl) rfl ?_
  show EvK _ _ _ ⟨[Ag a, Ag b] ++ us 12, ⟨[], 0⟩⟩ _
  refine ev_seq ?_
  refine ev_reg (by kernel_rfl) ?_
  refine rs_all (s1 := ⟨[Ag a, Ag b, .ptr 0 0 0, .ptr 1 1 0, .ptr 2 2 0, No] ++ us 8, ⟨[.row (Mc a) 0 .ow none, .row (Mc b) 1 .ow none, .row (Mc zeroM) 2 .ow none], 3⟩⟩) (fun cf => by kernel_rfl) ?_
  refine ev_seq ?_
  refine ev_seq ?_
  refine ev_reg (by kernel_rfl) ?_
  refine rs_take 2 (s1 := ⟨[Ag a, Ag b, .ptr 0 0 0, .ptr 1 1 0, .ptr 2 2 0, No, Ag b, Ag a] ++ us 6, ⟨[.row (Mc a) 0 .ow none, .row (Mc b) 1 .ow none, .row (Mc zeroM) 2 .ow none], 3⟩⟩) (fun cf => by kernel_rfl) ?_
  refine rs_pure (g := 17) (bs := [Ag b, Ag a]) (ow := false) (r := boolA (dvdB b a)) (s1 := ⟨[Ag a, Ag b, .ptr 0 0 0, .ptr 1 1 0, .ptr 2 2 0, No, Ag b, Ag a, boolA (dvdB b a)] ++ us 5, ⟨[.row (Mc a) 0 .ow none, .row (Mc b) 1 .ow none, .row (Mc zeroM) 2 .ow none], 3⟩⟩) (by kernel_rfl) (g_dvd b a) (by kernel_rfl) (by kernel_rfl) ?_
  refine rs_all (s1 := ⟨[Ag a, Ag b, .ptr 0 0 0, .ptr 1 1 0, .ptr 2 2 0, No, Ag b, Ag a, boolA (dvdB b a), boolA (!(dvdB b a))] ++ us 4, ⟨[.row (Mc a) 0 .ow none, .row (Mc b) 1 .ow none, .row (Mc zeroM) 2 .ow none], 3⟩⟩) (fun cf => by kernel_rfl) ?_
  have hk1 : (!(dvdB b a)) = true := by
    first | exact hv | simp only [hv, Bool.not_true, Bool.not_false]
  rw [hk1]
  refine ev_true (by kernel_rfl) ?_
  refine ev_seq ?_
  refine ev_reg (by kernel_rfl) ?_
  refine rs_all (s1 := ⟨[Ag a, Ag b, .ptr 0 0 0, .ptr 1 1 0, .ptr 2 2 0, No, Ag b, Ag a, boolA (dvdB b a), Yes, Ag zeroM] ++ us 3, ⟨[.row (Mc a) 0 .ow none, .row (Mc b) 1 .ow none, .row (Mc zeroM) 2 .ow none], 3⟩⟩) (fun cf => by kernel_rfl) ?_
  refine ev_ret ?_
  refine leaf (r0 := .tu [Ag zeroM, No]) (r1 := .tu [Ag zeroM, No]) (.inr rfl) (by kernel_rfl) (by kernel_rfl) ?_
  first | rfl | simp only [Mc, subM, e0, e1, e2, e3, e4, e5, e6, e7]

theorem g_quo1_t {a b : Nat → Int} (ha : InR a) (hb : InR b) (hv : dvdB b a = true) : Gets Try.cx 16 [Ag a, Ag b] (.tu [.ag (Mc (subM a b)), boolA true]) := by
  have e0 : IntKind.wrap .i64 (a 0 - b 0) = a 0 - b 0 := wrap64 (by have h1 := ha 0 (by decide); have h2 := hb 0 (by decide); omega) (by have h1 := ha 0 (by decide); have h2 := hb 0 (by decide); omega)
  have e1 : IntKind.wrap .i64 (a 1 - b 1) = a 1 - b 1 := wrap64 (by have h1 := ha 1 (by decide); have h2 := hb 1 (by decide); omega) (by have h1 := ha 1 (by decide); have h2 := hb 1 (by decide); omega)
  have e2 : IntKind.wrap .i64 (a 2 - b 2) = a 2 - b 2 := wrap64 (by have h1 := ha 2 (by decide); have h2 := hb 2 (by decide); omega) (by have h1 := ha 2 (by decide); have h2 := hb 2 (by decide); omega)
  have e3 : IntKind.wrap .i64 (a 3 - b 3) = a 3 - b 3 := wrap64 (by have h1 := ha 3 (by decide); have h2 := hb 3 (by decide); omega) (by have h1 := ha 3 (by decide); have h2 := hb 3 (by decide); omega)
  have e4 : IntKind.wrap .i64 (a 4 - b 4) = a 4 - b 4 := wrap64 (by have h1 := ha 4 (by decide); have h2 := hb 4 (by decide); omega) (by have h1 := ha 4 (by decide); have h2 := hb 4 (by decide); omega)
  have e5 : IntKind.wrap .i64 (a 5 - b 5) = a 5 - b 5 := wrap64 (by have h1 := ha 5 (by decide); have h2 := hb 5 (by decide); omega) (by have h1 := ha 5 (by decide); have h2 := hb 5 (by decide); omega)
  have e6 : IntKind.wrap .i64 (a 6 - b 6) = a 6 - b 6 := wrap64 (by have h1 := ha 6 (by decide); have h2 := hb 6 (by decide); omega) (by have h1 := ha 6 (by decide); have h2 := hb 6 (by decide); omega)
  have e7 : IntKind.wrap .i64 (a 7 - b 7) = a 7 - b 7 := wrap64 (by have h1 := ha 7 (by decide); have h2 := hb 7 (by decide); omega) (by have h1 := ha 7 (by decide); have h2 := hb 7 (by decide); omega)
  refine gets_of (fn := Try.f16) (by kernel_rfl) rfl ?_
  show EvK _ _ _ ⟨[Ag a, Ag b] ++ us 23, ⟨[], 0⟩⟩ _
  refine ev_seq ?_
  refine ev_reg (by kernel_rfl) ?_
  refine rs_all (s1 := ⟨[Ag a, Ag b, .ptr 0 0 0, .ptr 1 1 0, .ptr 2 2 0, No] ++ us 19, ⟨[.row (Mc a) 0 .ow none, .row (Mc b) 1 .ow none, .row (Mc zeroM) 2 .ow none], 3⟩⟩) (fun cf => by kernel_rfl) ?_
  refine ev_seq ?_
  refine ev_seq ?_
  refine ev_reg (by kernel_rfl) ?_
  refine rs_take 2 (s1 := ⟨[Ag a, Ag b, .ptr 0 0 0, .ptr 1 1 0, .ptr 2 2 0, No, U, Ag b, Ag a] ++ us 16, ⟨[.row (Mc a) 0 .ow none, .row (Mc b) 1 .ow none, .row (Mc zeroM) 2 .ow none], 3⟩⟩) (fun cf => by kernel_rfl) ?_
  refine rs_pure (g := 18) (bs := [Ag b, Ag a]) (ow := false) (r := boolA (dvdB b a)) (s1 := ⟨[Ag a, Ag b, .ptr 0 0 0, .ptr 1 1 0, .ptr 2 2 0, No, U, Ag b, Ag a, boolA (dvdB b a)] ++ us 15, ⟨[.row (Mc a) 0 .ow none, .row (Mc b) 1 .ow none, .row (Mc zeroM) 2 .ow none], 3⟩⟩) (by kernel_rfl) (g_dvd1 b a) (by kernel_rfl) (by kernel_rfl) ?_
  refine rs_all (s1 := ⟨[Ag a, Ag b, .ptr 0 0 0, .ptr 1 1 0, .ptr 2 2 0, No, U, Ag b, Ag a, boolA (dvdB b a), boolA (!(dvdB b a))] ++ us 14, ⟨[.row (Mc a) 0 .ow none, .row (Mc b) 1 .ow none, .row (Mc zeroM) 2 .ow none], 3⟩⟩) (fun cf => by kernel_rfl) ?_
  have hk1 : (!(dvdB b a)) = false := by
    first | exact hv | simp only [hv, Bool.not_true, Bool.not_false]
  rw [hk1]
  refine ev_false (by kernel_rfl) ?_
  refine ev_skip ?_
  refine ev_seq ?_
  refine ev_seq ?_
  refine ev_reg (by kernel_rfl) ?_
  refine rs_all (s1 := ⟨[Ag a, Ag b, .ptr 0 0 0, .ptr 1 1 0, .ptr 2 2 0, No, J 0, Ag b, Ag a, boolA (dvdB b a), No] ++ us 14, ⟨[.row (Mc a) 0 .ow none, .row (Mc b) 1 .ow none, .row (Mc zeroM) 2 .ow none], 3⟩⟩) (fun cf => by kernel_rfl) ?_
  refine ev_block ?_
  refine ev_loop ?_
  refine ev_seq ?_
  refine ev_seq ?_
  refine ev_reg (by kernel_rfl) ?_
  refine rs_all (s1 := ⟨[Ag a, Ag b, .ptr 0 0 0, .ptr 1 1 0, .ptr 2 2 0, No, J 0, Ag b, Ag a, boolA (dvdB b a), No, U, J 0, Yes] ++ us 11, ⟨[.row (Mc a) 0 .ow none, .row (Mc b) 1 .ow none, .row (Mc zeroM) 2 .ow none], 3⟩⟩) (fun cf => by kernel_rfl) ?_
  refine ev_true (by kernel_rfl) ?_
  refine ev_skip ?_
  refine ev_seq ?_
  refine ev_block ?_
  refine ev_reg (by kernel_rfl) ?_
  refine rs_all (s1 := ⟨[Ag a, Ag b, .ptr 0 0 0, .ptr 1 1 0, .ptr 2 2 0, No, J 0, Ag b, Ag a, boolA (dvdB b a), No, U, J 0, Yes, U, U, J 0, .ptr 0 0 0, J (a 0), J 0, .ptr 1 1 0, J (b 0), J (IntKind.wrap .i64 ((a 0) - (b 0))), .ptr 0 0 0, U], ⟨[.row [J (IntKind.wrap .i64 ((a 0) - (b 0))), J (a 1), J (a 2), J (a 3), J (a 4), J (a 5), J (a 6), J (a 7)] 0 .ow none, .row (Mc b) 1 .ow none, .row (Mc zeroM) 2 .ow none], 3⟩⟩) (fun cf => by kernel_rfl) ?_
  refine ev_reg (by kernel_rfl) ?_
  refine rs_all (s1 := ⟨[Ag a, Ag b, .ptr 0 0 0, .ptr 1 1 0, .ptr 2 2 0, No, J 1, Ag b, Ag a, boolA (dvdB b a), No, U, J 0, Yes, J 0, J 1, J 0, .ptr 0 0 0, J (a 0), J 0, .ptr 1 1 0, J (b 0), J (IntKind.wrap .i64 ((a 0) - (b 0))), .ptr 0 0 0, U], ⟨[.row [J (IntKind.wrap .i64 ((a 0) - (b 0))), J (a 1), J (a 2), J (a 3), J (a 4), J (a 5), J (a 6), J (a 7)] 0 .ow none, .row (Mc b) 1 .ow none, .row (Mc zeroM) 2 .ow none], 3⟩⟩) (fun cf => by kernel_rfl) ?_
  refine ev_loop ?_
  refine ev_seq ?_
  refine ev_seq ?_
  refine ev_reg (by kernel_rfl) ?_
  refine rs_all (s1 := ⟨[Ag a, Ag b, .ptr 0 0 0, .ptr 1 1 0, .ptr 2 2 0, No, J 1, Ag b, Ag a, boolA (dvdB b a), No, U, J 1, Yes, J 0, J 1, J 0, .ptr 0 0 0, J (a 0), J 0, .ptr 1 1 0, J (b 0), J (IntKind.wrap .i64 ((a 0) - (b 0))), .ptr 0 0 0, U], ⟨[.row [J (IntKind.wrap .i64 ((a 0) - (b 0))), J (a 1), J (a 2), J (a 3), J (a 4), J (a 5), J (a 6), J (a 7)] 0 .ow none, .row (Mc b) 1 .ow none, .row (Mc zeroM) 2 .ow none], 3⟩⟩) (fun cf => by kernel_rfl) ?_
  refine ev_true (by kernel_rfl) ?_
  refine ev_skip ?_
  refine ev_seq ?_
  refine ev_block ?_
  refine ev_reg (by kernel_rfl) ?_
  refine rs_all (s1 := ⟨[Ag a, Ag b, .ptr 0 0 0, .ptr 1 1 0, .ptr 2 2 0, No, J 1, Ag b, Ag a, boolA (dvdB b a), No, U, J 1, Yes, J 0, J 1, J 1, .ptr 0 0 1, J (a 1), J 1, .ptr 1 1 1, J (b 1), J (IntKind.wrap .i64 ((a 1) - (b 1))), .ptr 0 0 1, U], ⟨[.row [J (IntKind.wrap .i64 ((a 0) - (b 0))), J (IntKind.wrap .i64 ((a 1) - (b 1))), J (a 2), J (a 3), J (a 4), J (a 5), J (a 6), J (a 7)] 0 .ow none, .row (Mc b) 1 .ow none, .row (Mc zeroM) 2 .ow none], 3⟩⟩) (fun cf => by kernel_rfl) ?_
  refine ev_reg (by kernel_rfl) ?_
  refine rs_all (s1 := ⟨[Ag a, Ag b, .ptr 0 0 0, .ptr 1 1 0, .ptr 2 2 0, No, J 2, Ag b, Ag a, boolA (dvdB b a), No, U, J 1, Yes, J 1, J 2, J 1, .ptr 0 0 1, J (a 1), J 1, .ptr 1 1 1, J (b 1), J (IntKind.wrap .i64 ((a 1) - (b 1))), .ptr 0 0 1, U], ⟨[.row [J (IntKind.wrap .i64 ((a 0) - (b 0))), J (IntKind.wrap .i64 ((a 1) - (b 1))), J (a 2), J (a 3), J (a 4), J (a 5), J (a 6), J (a 7)] 0 .ow none, .row (Mc b) 1 .ow none, .row (Mc zeroM) 2 .ow none], 3⟩⟩) (fun cf => by kernel_rfl) ?_
  refine ev_loop ?_
  refine ev_seq ?_
  refine ev_seq ?_
  refine ev_reg (by kernel_rfl) ?_
  refine rs_all (s1 := ⟨[Ag a, Ag b, .ptr 0 0 0, .ptr 1 1 0, .ptr 2 2 0, No, J 2, Ag b, Ag a, boolA (dvdB b a), No, U, J 2, Yes, J 1, J 2, J 1, .ptr 0 0 1, J (a 1), J 1, .ptr 1 1 1, J (b 1), J (IntKind.wrap .i64 ((a 1) - (b 1))), .ptr 0 0 1, U], ⟨[.row [J (IntKind.wrap .i64 ((a 0) - (b 0))), J (IntKind.wrap .i64 ((a 1) - (b 1))), J (a 2), J (a 3), J (a 4), J (a 5), J (a 6), J (a 7)] 0 .ow none, .row (Mc b) 1 .ow none, .row (Mc zeroM) 2 .ow none], 3⟩⟩) (fun cf => by kernel_rfl) ?_
  refine ev_true (by kernel_rfl) ?_
  refine ev_skip ?_
  refine ev_seq ?_
  refine ev_block ?_
  refine ev_reg (by kernel_rfl) ?_
  refine rs_all (s1 := ⟨[Ag a, Ag b, .ptr 0 0 0, .ptr 1 1 0, .ptr 2 2 0, No, J 2, Ag b, Ag a, boolA (dvdB b a), No, U, J 2, Yes, J 1, J 2, J 2, .ptr 0 0 2, J (a 2), J 2, .ptr 1 1 2, J (b 2), J (IntKind.wrap .i64 ((a 2) - (b 2))), .ptr 0 0 2, U], ⟨[.row [J (IntKind.wrap .i64 ((a 0) - (b 0))), J (IntKind.wrap .i64 ((a 1) - (b 1))), J (IntKind.wrap .i64 ((a 2) - (b 2))), J (a 3), J (a 4), J (a 5), J (a 6), J (a 7)] 0 .ow none, .row (Mc b) 1 .ow none, .row (Mc zeroM) 2 .ow none], 3⟩⟩) (fun cf => by kernel_rfl) ?_
  refine ev_reg (by kernel_rfl) ?_
  refine rs_all (s1 := ⟨[Ag a, Ag b, .ptr 0 0 0, .ptr 1 1 0, .ptr 2 2 0, No, J 3, Ag b, Ag a, boolA (dvdB b a), No, U, J 2, Yes, J 2, J 3, J 2, .ptr 0 0 2, J (a 2), J 2, .ptr 1 1 2, J (b 2), J (IntKind.wrap .i64 ((a 2) - (b 2))), .ptr 0 0 2, U], ⟨[.row [J (IntKind.wrap .i64 ((a 0) - (b 0))), J (IntKind.wrap .i64 ((a 1) - (b 1))), J (IntKind.wrap .i64 ((a 2) - (b 2))), J (a 3), J (a 4), J (a 5), J (a 6), J (a 7)] 0 .ow none, .row (Mc b) 1 .ow none, .row (Mc zeroM) 2 .ow none], 3⟩⟩) (fun cf => by kernel_rfl) ?_
  refine ev_loop ?_
  refine ev_seq ?_
  refine ev_seq ?_
  refine ev_reg (by kernel_rfl) ?_
  refine rs_all (s1 := ⟨[Ag a, Ag b, .ptr 0 0 0, .ptr 1 1 0, .ptr 2 2 0, No, J 3, Ag b, Ag a, boolA (dvdB b a), No, U, J 3, Yes, J 2, J 3, J 2, .ptr 0 0 2, J (a 2), J 2, .ptr 1 1 2, J (b 2), J (IntKind.wrap .i64 ((a 2) - (b 2))), .ptr 0 0 2, U], ⟨[.row [J (IntKind.wrap .i64 ((a 0) - (b 0))), J (IntKind.wrap .i64 ((a 1) - (b 1))), J (IntKind.wrap .i64 ((a 2) - (b 2))), J (a 3), J (a 4), J (a 5), J (a 6), J (a 7)] 0 .ow none, .row (Mc b) 1 .ow none, .row (Mc zeroM) 2 .ow none], 3⟩⟩) (fun cf => by kernel_rfl) ?_
  refine ev_true (by kernel_rfl) ?_
  refine ev_skip ?_
  refine ev_seq ?_
  refine ev_block ?_
  refine ev_reg (by kernel_rfl) ?_
  refine rs_all (s1 := ⟨[Ag a, Ag b, .ptr 0 0 0, .ptr 1 1 0, .ptr 2 2 0, No, J 3, Ag b, Ag a, boolA (dvdB b a), No, U, J 3, Yes, J 2, J 3, J 3, .ptr 0 0 3, J (a 3), J 3, .ptr 1 1 3, J (b 3), J (IntKind.wrap .i64 ((a 3) - (b 3))), .ptr 0 0 3, U], ⟨[.row [J (IntKind.wrap .i64 ((a 0) - (b 0))), J (IntKind.wrap .i64 ((a 1) - (b 1))), J (IntKind.wrap .i64 ((a 2) - (b 2))), J (IntKind.wrap .i64 ((a 3) - (b 3))), J (a 4), J (a 5), J (a 6), J (a 7)] 0 .ow none, .row (Mc b) 1 .ow none, .row (Mc zeroM) 2 .ow none], 3⟩⟩) (fun cf => by kernel_rfl) ?_
  refine ev_reg (by kernel_rfl) ?_
  refine rs_all (s1 := ⟨[Ag a, Ag b, .ptr 0 0 0, .ptr 1 1 0, .ptr 2 2 0, No, J 4, Ag b, Ag a, boolA (dvdB b a), No, U, J 3, Yes, J 3, J 4, J 3, .ptr 0 0 3, J (a 3), J 3, .ptr 1 1 3, J (b 3), J (IntKind.wrap .i64 ((a 3) - (b 3))), .ptr 0 0 3, U], ⟨[.row [J (IntKind.wrap .i64 ((a 0) - (b 0))), J (IntKind.wrap .i64 ((a 1) - (b 1))), J (IntKind.wrap .i64 ((a 2) - (b 2))), J (IntKind.wrap .i64 ((a 3) - (b 3))), J (a 4), J (a 5), J (a 6), J (a 7)] 0 .ow none, .row (Mc b) 1 .ow none, .row (Mc zeroM) 2 .ow none], 3⟩⟩) (fun cf => by kernel_rfl) ?_
  refine ev_loop ?_
  refine ev_seq ?_
  refine ev_seq ?_
  refine ev_reg (by kernel_rfl) ?_
  refine rs_all (s1 := ⟨[Ag a, Ag b, .ptr 0 0 0, .ptr 1 1 0, .ptr 2 2 0, No, J 4, Ag b, Ag a, boolA (dvdB b a), No, U, J 4, Yes, J 3, J 4, J 3, .ptr 0 0 3, J (a 3), J 3, .ptr 1 1 3, J (b 3), J (IntKind.wrap .i64 ((a 3) - (b 3))), .ptr 0 0 3, U], ⟨[.row [J (IntKind.wrap .i64 ((a 0) - (b 0))), J (IntKind.wrap .i64 ((a 1) - (b 1))), J (IntKind.wrap .i64 ((a 2) - (b 2))), J (IntKind.wrap .i64 ((a 3) - (b 3))), J (a 4), J (a 5), J (a 6), J (a 7)] 0 .ow none, .row (Mc b) 1 .ow none, .row (Mc zeroM) 2 .ow none], 3⟩⟩) (fun cf => by kernel_rfl) ?_
  refine ev_true (by kernel_rfl) ?_
  refine ev_skip ?_
  refine ev_seq ?_
  refine ev_block ?_
  refine ev_reg (by kernel_rfl) ?_
  refine rs_all (s1 := ⟨[Ag a, Ag b, .ptr 0 0 0, .ptr 1 1 0, .ptr 2 2 0, No, J 4, Ag b, Ag a, boolA (dvdB b a), No, U, J 4, Yes, J 3, J 4, J 4, .ptr 0 0 4, J (a 4), J 4, .ptr 1 1 4, J (b 4), J (IntKind.wrap .i64 ((a 4) - (b 4))), .ptr 0 0 4, U], ⟨[.row [J (IntKind.wrap .i64 ((a 0) - (b 0))), J (IntKind.wrap .i64 ((a 1) - (b 1))), J (IntKind.wrap .i64 ((a 2) - (b 2))), J (IntKind.wrap .i64 ((a 3) - (b 3))), J (IntKind.wrap .i64 ((a 4) - (b 4))), J (a 5), J (a 6), J (a 7)] 0 .ow none, .row (Mc b) 1 .ow none, .row (Mc zeroM) 2 .ow none], 3⟩⟩) (fun cf => by kernel_rfl) ?_
  refine ev_reg (by kernel_rfl) ?_
  refine rs_all (s1 := ⟨[Ag a, Ag b, .ptr 0 0 0, .ptr 1 1 0, .ptr 2 2 0, No, J 5, Ag b, Ag a, boolA (dvdB b a), No, U, J 4, Yes, J 4, J 5, J 4, .ptr 0 0 4, J (a 4), J 4, .ptr 1 1 4, J (b 4), J (IntKind.wrap .i64 ((a 4) - (b 4))), .ptr 0 0 4, U], ⟨[.row [J (IntKind.wrap .i64 ((a 0) - (b 0))), J (IntKind.wrap .i64 ((a 1) - (b 1))), J (IntKind.wrap .i64 ((a 2) - (b 2))), J (IntKind.wrap .i64 ((a 3) - (b 3))), J (IntKind.wrap .i64 ((a 4) - (b 4))), J (a 5), J (a 6), J (a 7)] 0 .ow none, .row (Mc b) 1 .ow none, .row (Mc zeroM) 2 .ow none], 3⟩⟩) (fun cf => by kernel_rfl) ?_
  refine ev_loop ?_
  refine ev_seq ?_
  refine ev_seq ?_
  refine ev_reg (by kernel_rfl) ?_
  refine rs_all (s1 := ⟨[Ag a, Ag b, .ptr 0 0 0, .ptr 1 1 0, .ptr 2 2 0, No, J 5, Ag b, Ag a, boolA (dvdB b a), No, U, J 5, Yes, J 4, J 5, J 4, .ptr 0 0 4, J (a 4), J 4, .ptr 1 1 4, J (b 4), J (IntKind.wrap .i64 ((a 4) - (b 4))), .ptr 0 0 4, U], ⟨[.row [J (IntKind.wrap .i64 ((a 0) - (b 0))), J (IntKind.wrap .i64 ((a 1) - (b 1))), J (IntKind.wrap .i64 ((a 2) - (b 2))), J (IntKind.wrap .i64 ((a 3) - (b 3))), J (IntKind.wrap .i64 ((a 4) - (b 4))), J (a 5), J (a 6), J (a 7)] 0 .ow none, .row (Mc b) 1 .ow none, .row (Mc zeroM) 2 .ow none], 3⟩⟩) (fun cf => by kernel_rfl) ?_
  refine ev_true (by kernel_rfl) ?_
  refine ev_skip ?_
  refine ev_seq ?_
  refine ev_block ?_
  refine ev_reg (by kernel_rfl) ?_
  refine rs_all (s1 := ⟨[Ag a, Ag b, .ptr 0 0 0, .ptr 1 1 0, .ptr 2 2 0, No, J 5, Ag b, Ag a, boolA (dvdB b a), No, U, J 5, Yes, J 4, J 5, J 5, .ptr 0 0 5, J (a 5), J 5, .ptr 1 1 5, J (b 5), J (IntKind.wrap .i64 ((a 5) - (b 5))), .ptr 0 0 5, U], ⟨[.row [J (IntKind.wrap .i64 ((a 0) - (b 0))), J (IntKind.wrap .i64 ((a 1) - (b 1))), J (IntKind.wrap .i64 ((a 2) - (b 2))), J (IntKind.wrap .i64 ((a 3) - (b 3))), J (IntKind.wrap .i64 ((a 4) - (b 4))), J (IntKind.wrap .i64 ((a 5) - (b 5))), J (a 6), J (a 7)] 0 .ow none, .row (Mc b) 1 .ow none, .row (Mc zeroM) 2 .ow none], 3⟩⟩) (fun cf => by kernel_rfl) ?_
  refine ev_reg (by kernel_rfl) ?_
  refine rs_all (s1 := ⟨[Ag a, Ag b, .ptr 0 0 0, .ptr 1 1 0, .ptr 2 2 0, No, J 6, Ag b, Ag a, boolA (dvdB b a), No, U, J 5, Yes, J 5, J 6, J 5, .ptr 0 0 5, J (a 5), J 5, .ptr 1 1 5, J (b 5), J (IntKind.wrap .i64 ((a 5) - (b 5))), .ptr 0 0 5, U], ⟨[.row [J (IntKind.wrap .i64 ((a 0) - (b 0))), J (IntKind.wrap .i64 ((a 1) - (b 1))), J (IntKind.wrap .i64 ((a 2) - (b 2))), J (IntKind.wrap .i64 ((a 3) - (b 3))), J (IntKind.wrap .i64 ((a 4) - (b 4))), J (IntKind.wrap .i64 ((a 5) - (b 5))), J (a 6), J (a 7)] 0 .ow none, .row (Mc b) 1 .ow none, .row (Mc zeroM) 2 .ow none], 3⟩⟩) (fun cf => by kernel_rfl) ?_
  refine ev_loop ?_
  refine ev_seq ?_
  refine ev_seq ?_
  refine ev_reg (by kernel_rfl) ?_
  refine rs_all (s1 := ⟨[Ag a, Ag b, .ptr 0 0 0, .ptr 1 1 0, .ptr 2 2 0, No, J 6, Ag b, Ag a, boolA (dvdB b a), No, U, J 6, Yes, J 5, J 6, J 5, .ptr 0 0 5, J (a 5), J 5, .ptr 1 1 5, J (b 5), J (IntKind.wrap .i64 ((a 5) - (b 5))), .ptr 0 0 5, U], ⟨[.row [J (IntKind.wrap .i64 ((a 0) - (b 0))), J (IntKind.wrap .i64 ((a 1) - (b 1))), J (IntKind.wrap .i64 ((a 2) - (b 2))), J (IntKind.wrap .i64 ((a 3) - (b 3))), J (IntKind.wrap .i64 ((a 4) - (b 4))), J (IntKind.wrap .i64 ((a 5) - (b 5))), J (a 6), J (a 7)] 0 .ow none, .row (Mc b) 1 .ow none, .row (Mc zeroM) 2 .ow none], 3⟩⟩) (fun cf => by kernel_rfl) ?_
  refine ev_true (by kernel_rfl) ?_
  refine ev_skip ?_
  refine ev_seq ?_
  refine ev_block ?_
  refine ev_reg (by kernel_rfl) ?_
  refine rs_all (s1 := ⟨[Ag a, Ag b, .ptr 0 0 0, .ptr 1 1 0, .ptr 2 2 0, No, J 6, Ag b, Ag a, boolA (dvdB b a), No, U, J 6, Yes, J 5, J 6, J 6, .ptr 0 0 6, J (a 6), J 6, .ptr 1 1 6, J (b 6), J (IntKind.wrap .i64 ((a 6) - (b 6))), .ptr 0 0 6, U], ⟨[.row [J (IntKind.wrap .i64 ((a 0) - (b 0))), J (IntKind.wrap .i64 ((a 1) - (b 1))), J (IntKind.wrap .i64 ((a 2) - (b 2))), J (IntKind.wrap .i64 ((a 3) - (b 3))), J (IntKind.wrap .i64 ((a 4) - (b 4))), J (IntKind.wrap .i64 ((a 5) - (b 5))), J (IntKind.wrap .i64 ((a 6) - (b 6))), J (a 7)] 0 .ow none, .row (Mc b) 1 .ow none, .row (Mc zeroM) 2 .ow none], 3⟩⟩) (fun cf => by kernel_rfl) ?_
  refine ev_reg (by kernel_rfl) ?_
  refine rs_all (s1 := ⟨[Ag a, Ag b, .ptr 0 0 0, .ptr 1 1 0, .ptr 2 2 0, No, J 7, Ag b, Ag a, boolA (dvdB b a), No, U, J 6, Yes, J 6, J 7, J 6, .ptr 0 0 6, J (a 6), J 6, .ptr 1 1 6, J (b 6), J (IntKind.wrap .i64 ((a 6) - (b 6))), .ptr 0 0 6, U], ⟨[.row [J (IntKind.wrap .i64 ((a 0) - (b 0))), J (IntKind.wrap .i64 ((a 1) - (b 1))), J (IntKind.wrap .i64 ((a 2) - (b 2))), J (IntKind.wrap .i64 ((a 3) - (b 3))), J (IntKind.wrap .i64 ((a 4) - (b 4))), J (IntKind.wrap .i64 ((a 5) - (b 5))), J (IntKind.wrap .i64 ((a 6) - (b 6))), J (a 7)] 0 .ow none, .row (Mc b) 1 .ow none, .row (Mc zeroM) 2 .ow none], 3⟩⟩) (fun cf => by kernel_rfl) ?_
  refine ev_loop ?_
  refine ev_seq ?_
  refine ev_seq ?_
  refine ev_reg (by kernel_rfl) ?_
  refine rs_all (s1 := ⟨[Ag a, Ag b, .ptr 0 0 0, .ptr 1 1 0, .ptr 2 2 0, No, J 7, Ag b, Ag a, boolA (dvdB b a), No, U, J 7, Yes, J 6, J 7, J 6, .ptr 0 0 6, J (a 6), J 6, .ptr 1 1 6, J (b 6), J (IntKind.wrap .i64 ((a 6) - (b 6))), .ptr 0 0 6, U], ⟨[.row [J (IntKind.wrap .i64 ((a 0) - (b 0))), J (IntKind.wrap .i64 ((a 1) - (b 1))), J (IntKind.wrap .i64 ((a 2) - (b 2))), J (IntKind.wrap .i64 ((a 3) - (b 3))), J (IntKind.wrap .i64 ((a 4) - (b 4))), J (IntKind.wrap .i64 ((a 5) - (b 5))), J (IntKind.wrap .i64 ((a 6) - (b 6))), J (a 7)] 0 .ow none, .row (Mc b) 1 .ow none, .row (Mc zeroM) 2 .ow none], 3⟩⟩) (fun cf => by kernel_rfl) ?_
  refine ev_true (by kernel_rfl) ?_
  refine ev_skip ?_
  refine ev_seq ?_
  refine ev_block ?_
  refine ev_reg (by kernel_rfl) ?_
  refine rs_all (s1 := ⟨[Ag a, Ag b, .ptr 0 0 0, .ptr 1 1 0, .ptr 2 2 0, No, J 7, Ag b, Ag a, boolA (dvdB b a), No, U, J 7, Yes, J 6, J 7, J 7, .ptr 0 0 7, J (a 7), J 7, .ptr 1 1 7, J (b 7), J (IntKind.wrap .i64 ((a 7) - (b 7))), .ptr 0 0 7, U], ⟨[.row [J (IntKind.wrap .i64 ((a 0) - (b 0))), J (IntKind.wrap .i64 ((a 1) - (b 1))), J (IntKind.wrap .i64 ((a 2) - (b 2))), J (IntKind.wrap .i64 ((a 3) - (b 3))), J (IntKind.wrap .i64 ((a 4) - (b 4))), J (IntKind.wrap .i64 ((a 5) - (b 5))), J (IntKind.wrap .i64 ((a 6) - (b 6))), J (IntKind.wrap .i64 ((a 7) - (b 7)))] 0 .ow none, .row (Mc b) 1 .ow none, .row (Mc zeroM) 2 .ow none], 3⟩⟩) (fun cf => by kernel_rfl) ?_
  refine ev_reg (by kernel_rfl) ?_
  refine rs_all (s1 := ⟨[Ag a, Ag b, .ptr 0 0 0, .ptr 1 1 0, .ptr 2 2 0, No, J 8, Ag b, Ag a, boolA (dvdB b a), No, U, J 7, Yes, J 7, J 8, J 7, .ptr 0 0 7, J (a 7), J 7, .ptr 1 1 7, J (b 7), J (IntKind.wrap .i64 ((a 7) - (b 7))), .ptr 0 0 7, U], ⟨[.row [J (IntKind.wrap .i64 ((a 0) - (b 0))), J (IntKind.wrap .i64 ((a 1) - (b 1))), J (IntKind.wrap .i64 ((a 2) - (b 2))), J (IntKind.wrap .i64 ((a 3) - (b 3))), J (IntKind.wrap .i64 ((a 4) - (b 4))), J (IntKind.wrap .i64 ((a 5) - (b 5))), J (IntKind.wrap .i64 ((a 6) - (b 6))), J (IntKind.wrap .i64 ((a 7) - (b 7)))] 0 .ow none, .row (Mc b) 1 .ow none, .row (Mc zeroM) 2 .ow none], 3⟩⟩) (fun cf => by kernel_rfl) ?_
  refine ev_loop ?_
  refine ev_seq ?_
  refine ev_seq ?_
  refine ev_reg (by kernel_rfl) ?_
  refine rs_all (s1 := ⟨[Ag a, Ag b, .ptr 0 0 0, .ptr 1 1 0, .ptr 2 2 0, No, J 8, Ag b, Ag a, boolA (dvdB b a), No, U, J 8, No, J 7, J 8, J 7, .ptr 0 0 7, J (a 7), J 7, .ptr 1 1 7, J (b 7), J (IntKind.wrap .i64 ((a 7) - (b 7))), .ptr 0 0 7, U], ⟨[.row [J (IntKind.wrap .i64 ((a 0) - (b 0))), J (IntKind.wrap .i64 ((a 1) - (b 1))), J (IntKind.wrap .i64 ((a 2) - (b 2))), J (IntKind.wrap .i64 ((a 3) - (b 3))), J (IntKind.wrap .i64 ((a 4) - (b 4))), J (IntKind.wrap .i64 ((a 5) - (b 5))), J (IntKind.wrap .i64 ((a 6) - (b 6))), J (IntKind.wrap .i64 ((a 7) - (b 7)))] 0 .ow none, .row (Mc b) 1 .ow none, .row (Mc zeroM) 2 .ow none], 3⟩⟩) (fun cf => by kernel_rfl) ?_
  refine ev_false (by kernel_rfl) ?_
  refine ev_exit ?_
  refine ev_seq ?_
  refine ev_reg (by kernel_rfl) ?_
  refine rs_all (s1 := ⟨[Ag a, Ag b, .ptr 0 0 0, .ptr 1 1 0, .ptr 2 2 0, Yes, J 8, Ag b, Ag a, boolA (dvdB b a), No, U, J 8, No, J 7, J 8, J 7, .ptr 0 0 7, J (a 7), J 7, .ptr 1 1 7, J (b 7), J (IntKind.wrap .i64 ((a 7) - (b 7))), .ptr 0 0 7, .ag [J (IntKind.wrap .i64 ((a 0) - (b 0))), J (IntKind.wrap .i64 ((a 1) - (b 1))), J (IntKind.wrap .i64 ((a 2) - (b 2))), J (IntKind.wrap .i64 ((a 3) - (b 3))), J (IntKind.wrap .i64 ((a 4) - (b 4))), J (IntKind.wrap .i64 ((a 5) - (b 5))), J (IntKind.wrap .i64 ((a 6) - (b 6))), J (IntKind.wrap .i64 ((a 7) - (b 7)))]], ⟨[.row [J (IntKind.wrap .i64 ((a 0) - (b 0))), J (IntKind.wrap .i64 ((a 1) - (b 1))), J (IntKind.wrap .i64 ((a 2) - (b 2))), J (IntKind.wrap .i64 ((a 3) - (b 3))), J (IntKind.wrap .i64 ((a 4) - (b 4))), J (IntKind.wrap .i64 ((a 5) - (b 5))), J (IntKind.wrap .i64 ((a 6) - (b 6))), J (IntKind.wrap .i64 ((a 7) - (b 7)))] 0 .ow none, .row (Mc b) 1 .ow none, .row [J (IntKind.wrap .i64 ((a 0) - (b 0))), J (IntKind.wrap .i64 ((a 1) - (b 1))), J (IntKind.wrap .i64 ((a 2) - (b 2))), J (IntKind.wrap .i64 ((a 3) - (b 3))), J (IntKind.wrap .i64 ((a 4) - (b 4))), J (IntKind.wrap .i64 ((a 5) - (b 5))), J (IntKind.wrap .i64 ((a 6) - (b 6))), J (IntKind.wrap .i64 ((a 7) - (b 7)))] 2 .ow none], 3⟩⟩) (fun cf => by kernel_rfl) ?_
  refine ev_ret ?_
  refine leaf (r0 := .tu [.ag [J (IntKind.wrap .i64 ((a 0) - (b 0))), J (IntKind.wrap .i64 ((a 1) - (b 1))), J (IntKind.wrap .i64 ((a 2) - (b 2))), J (IntKind.wrap .i64 ((a 3) - (b 3))), J (IntKind.wrap .i64 ((a 4) - (b 4))), J (IntKind.wrap .i64 ((a 5) - (b 5))), J (IntKind.wrap .i64 ((a 6) - (b 6))), J (IntKind.wrap .i64 ((a 7) - (b 7)))], Yes]) (r1 := .tu [.ag [J (IntKind.wrap .i64 ((a 0) - (b 0))), J (IntKind.wrap .i64 ((a 1) - (b 1))), J (IntKind.wrap .i64 ((a 2) - (b 2))), J (IntKind.wrap .i64 ((a 3) - (b 3))), J (IntKind.wrap .i64 ((a 4) - (b 4))), J (IntKind.wrap .i64 ((a 5) - (b 5))), J (IntKind.wrap .i64 ((a 6) - (b 6))), J (IntKind.wrap .i64 ((a 7) - (b 7)))], Yes]) (.inr rfl) (by kernel_rfl) (by kernel_rfl) ?_
  first | rfl | simp only [Mc, subM, e0, e1, e2, e3, e4, e5, e6, e7]

theorem g_quo1_f {a b : Nat → Int} (ha : InR a) (hb : InR b) (hv : dvdB b a = false) : Gets Try.cx 16 [Ag a, Ag b] (.tu [.ag (Mc zeroM), boolA false]) := by
  have e0 : IntKind.wrap .i64 (a 0 - b 0) = a 0 - b 0 := wrap64 (by have h1 := ha 0 (by decide); have h2 := hb 0 (by decide); omega) (by have h1 := ha 0 (by decide); have h2 := hb 0 (by decide); omega)
  have e1 : IntKind.wrap .i64 (a 1 - b 1) = a 1 - b 1 := wrap64 (by have h1 := ha 1 (by decide); have h2 := hb 1 (by decide); omega) (by have h1 := ha 1 (by decide); have h2 := hb 1 (by decide); omega)
  have e2 : IntKind.wrap .i64 (a 2 - b 2) = a 2 - b 2 := wrap64 (by have h1 := ha 2 (by decide); have h2 := hb 2 (by decide); omega) (by have h1 := ha 2 (by decide); have h2 := hb 2 (by decide); omega)
  have e3 : IntKind.wrap .i64 (a 3 - b 3) = a 3 - b 3 := wrap64 (by have h1 := ha 3 (by decide); have h2 := hb 3 (by decide); omega) (by have h1 := ha 3 (by decide); have h2 := hb 3 (by decide); omega)
  have e4 : IntKind.wrap .i64 (a 4 - b 4) = a 4 - b 4 := wrap64 (by have h1 := ha 4 (by decide); have h2 := hb 4 (by decide); omega) (by have h1 := ha 4 (by decide); have h2 := hb 4 (by decide); omega)
  have e5 : IntKind.wrap .i64 (a 5 - b 5) = a 5 - b 5 := wrap64 (by have h1 := ha 5 (by decide); have h2 := hb 5 (by decide); omega) (by have h1 := ha 5 (by decide); have h2 := hb 5 (by decide); omega)
  have e6 : IntKind.wrap .i64 (a 6 - b 6) = a 6 - b 6 := wrap64 (by have h1 := ha 6 (by decide); have h2 := hb 6 (by decide); omega) (by have h1 := ha 6 (by decide); have h2 := hb 6 (by decide); omega)
  have e7 : IntKind.wrap .i64 (a 7 - b 7) = a 7 - b 7 := wrap64 (by have h1 := ha 7 (by decide); have h2 := hb 7 (by decide); omega) (by have h1 := ha 7 (by decide); have h2 := hb 7 (by decide); omega)
  refine gets_of (fn := Try.f16) (by kernel_rfl) rfl ?_
  show EvK _ _ _ ⟨[Ag a, Ag b] ++ us 23, ⟨[], 0⟩⟩ _
  refine ev_seq ?_
  refine ev_reg (by kernel_rfl) ?_
  refine rs_all (s1 := ⟨[Ag a, Ag b, .ptr 0 0 0, .ptr 1 1 0, .ptr 2 2 0, No] ++ us 19, ⟨[.row (Mc a) 0 .ow none, .row (Mc b) 1 .ow none, .row (Mc zeroM) 2 .ow none], 3⟩⟩) (fun cf => by kernel_rfl) ?_
  refine ev_seq ?_
  refine ev_seq ?_
  refine ev_reg (by kernel_rfl) ?_
  refine rs_take 2 (s1 := ⟨[Ag a, Ag b, .ptr 0 0 0, .ptr 1 1 0, .ptr 2 2 0, No, U, Ag b, Ag a] ++ us 16, ⟨[.row (Mc a) 0 .ow none, .row (Mc b) 1 .ow none, .row (Mc zeroM) 2 .ow none], 3⟩⟩) (fun cf => by kernel_rfl) ?_
  refine rs_pure (g := 18) (bs := [Ag b, Ag a]) (ow := false) (r := boolA (dvdB b a)) (s1 := ⟨[Ag a, Ag b, .ptr 0 0 0, .ptr 1 1 0, .ptr 2 2 0, No, U, Ag b, Ag a, boolA (dvdB b a)] ++ us 15, ⟨[.row (Mc a) 0 .ow none, .row (Mc b) 1 .ow none, .row (Mc zeroM) 2 .ow none], 3⟩⟩) (by kernel_rfl) (g_dvd1 b a) (by kernel_rfl) (by kernel_rfl) ?_
  refine rs_all (s1 := ⟨[Ag a, Ag b, .ptr 0 0 0, .ptr 1 1 0, .ptr 2 2 0, No, U, Ag b, Ag a, boolA (dvdB b a), boolA (!(dvdB b a))] ++ us 14, ⟨[.row (Mc a) 0 .ow none, .row (Mc b) 1 .ow none, .row (Mc zeroM) 2 .ow none], 3⟩⟩) (fun cf => by kernel_rfl) ?_
  have hk1 : (!(dvdB b a)) = true := by
    first | exact hv | simp only [hv, Bool.not_true, Bool.not_false]
  rw [hk1]
  refine ev_true (by kernel_rfl) ?_
  refine ev_seq ?_
  refine ev_reg (by kernel_rfl) ?_
  refine rs_all (s1 := ⟨[Ag a, Ag b, .ptr 0 0 0, .ptr 1 1 0, .ptr 2 2 0, No, U, Ag b, Ag a, boolA (dvdB b a), Yes, Ag zeroM] ++ us 13, ⟨[.row (Mc a) 0 .ow none, .row (Mc b) 1 .ow none, .row (Mc zeroM) 2 .ow none], 3⟩⟩) (fun cf => by kernel_rfl) ?_
  refine ev_ret ?_
  refine leaf (r0 := .tu [Ag zeroM, No]) (r1 := .tu [Ag zeroM, No]) (.inr rfl) (by kernel_rfl) (by kernel_rfl) ?_
  first | rfl | simp only [Mc, subM, e0, e1, e2, e3, e4, e5, e6, e7]

end Go.Proofs.Ytcnpldkadgloiaa
