/-
  Powers and inverses: the runs of the functions. Made by program. Conditions: none.
-/
import Derived.Test.YtgkjdfojogemhaaInva
set_option maxRecDepth 100000
set_option maxHeartbeats 20000000
set_option linter.unusedSimpArgs false
set_option linter.unusedVariables false
namespace Go.Proofs.Ytgkjdfojogemhaa
open Go.Am


noncomputable def powL : Code := (lft (lft (lft (rgt (rgt (Try.f20.body.getD .skip))))))

theorem pow_out {K : Out → St → Prop} {b n c p : Nat} (x8 x9 x10 x11 x12 : AV) (hg : decide ((n : Int) > 0) = false) (z13 z14 z15 z16 z17 z18 z19 z20 z21 z22 z23 z24 z25 z26 z27 z28 z29 : AV) (h : ∀ z13 z14 z15 z16 z17 z18 z19 z20 z21 z22 z23 z24 z25 z26 z27 z28 z29, K (.exit 0) ⟨[intA .u64 (b : Int), intA .u64 (n : Int), intA .u64 (p : Int)] ++ us 3 ++ [intA .u64 0, intA .u64 (c : Int), x8, x9, x10, x11, x12, z13, z14, z15, z16, z17, z18, z19, z20, z21, z22, z23, z24, z25, z26, z27, z28, z29, U], ⟨[], 0⟩⟩) : EvK Try.cx 20 (.loop powL) ⟨[intA .u64 (b : Int), intA .u64 (n : Int), intA .u64 (p : Int)] ++ us 3 ++ [intA .u64 0, intA .u64 (c : Int), x8, x9, x10, x11, x12, z13, z14, z15, z16, z17, z18, z19, z20, z21, z22, z23, z24, z25, z26, z27, z28, z29, U], ⟨[], 0⟩⟩ K := by
  refine ev_loop ?_
  refine ev_seq ?_
  refine ev_seq ?_
  refine ev_reg (by kernel_rfl) ?_
  refine rs_take 2 (s1 := ⟨[intA .u64 (b : Int), intA .u64 (n : Int), intA .u64 (p : Int)] ++ us 3 ++ [intA .u64 0, intA .u64 (c : Int), x8, x9, x10, x11, x12, intA .u64 (n : Int), boolA (decide ((n : Int) > 0)), z15, z16, z17, z18, z19, z20, z21, z22, z23, z24, z25, z26, z27, z28, z29, U], ⟨[], 0⟩⟩) (fun cf => by kernel_rfl) ?_
  rw [hg]
  refine rs_done (by kernel_rfl) ?_
  refine ev_false (by kernel_rfl) ?_
  refine ev_exit ?_
  exact h _ _ _ _ _ _ _ _ _ _ _ _ _ _ _ _ _

theorem pow_even {K : Out → St → Prop} {b n c p : Nat} (x8 x9 x10 x11 x12 : AV) (hg : decide ((n : Int) > 0) = true) (ha : (IntKind.wrap .u64 (BitVec.ofInt (IntKind.bits .u64) (n : Int) &&& BitVec.ofInt (IntKind.bits .u64) 1).toNat) = ((n % 2 : Nat) : Int)) (hbit : (((n % 2 : Nat) : Int) == 1) = false) (hp : p ≠ 0) (hbb : IntKind.wrap .u64 ((b : Int) * (b : Int)) = ((b * b : Nat) : Int)) (hsh : Int.fdiv (n : Int) (2 ^ 1) = ((n / 2 : Nat) : Int)) (z13 z14 z15 z16 z17 z18 z19 z20 z21 z22 z23 z24 z25 z26 z27 z28 z29 : AV) (h : ∀ z13 z14 z15 z16 z17 z18 z19 z20 z21 z22 z23 z24 z25 z26 z27 z28 z29, EvK Try.cx 20 (.loop powL) ⟨[intA .u64 ((b * b % p : Nat) : Int), intA .u64 ((n / 2 : Nat) : Int), intA .u64 (p : Int)] ++ us 3 ++ [intA .u64 0, intA .u64 (c : Int), x8, x9, x10, x11, x12, z13, z14, z15, z16, z17, z18, z19, z20, z21, z22, z23, z24, z25, z26, z27, z28, z29, U], ⟨[], 0⟩⟩ K) : EvK Try.cx 20 (.loop powL) ⟨[intA .u64 (b : Int), intA .u64 (n : Int), intA .u64 (p : Int)] ++ us 3 ++ [intA .u64 0, intA .u64 (c : Int), x8, x9, x10, x11, x12, z13, z14, z15, z16, z17, z18, z19, z20, z21, z22, z23, z24, z25, z26, z27, z28, z29, U], ⟨[], 0⟩⟩ K := by
  refine ev_loop ?_
  refine ev_seq ?_
  refine ev_seq ?_
  refine ev_reg (by kernel_rfl) ?_
  refine rs_take 2 (s1 := ⟨[intA .u64 (b : Int), intA .u64 (n : Int), intA .u64 (p : Int)] ++ us 3 ++ [intA .u64 0, intA .u64 (c : Int), x8, x9, x10, x11, x12, intA .u64 (n : Int), boolA (decide ((n : Int) > 0)), z15, z16, z17, z18, z19, z20, z21, z22, z23, z24, z25, z26, z27, z28, z29, U], ⟨[], 0⟩⟩) (fun cf => by kernel_rfl) ?_
  rw [hg]
  refine rs_done (by kernel_rfl) ?_
  refine ev_true (by kernel_rfl) ?_
  refine ev_skip ?_
  refine ev_seq ?_
  refine ev_block ?_
  refine ev_seq ?_
  refine ev_seq ?_
  refine ev_reg (by kernel_rfl) ?_
  refine rs_take 2 (s1 := ⟨[intA .u64 (b : Int), intA .u64 (n : Int), intA .u64 (p : Int)] ++ us 3 ++ [intA .u64 0, intA .u64 (c : Int), x8, x9, x10, x11, x12, intA .u64 (n : Int), Yes, z15, z16, intA .u64 (n : Int), intA .u64 (IntKind.wrap .u64 (BitVec.ofInt (IntKind.bits .u64) (n : Int) &&& BitVec.ofInt (IntKind.bits .u64) 1).toNat), z19, z20, z21, z22, z23, z24, z25, z26, z27, z28, z29, U], ⟨[], 0⟩⟩) (fun cf => by kernel_rfl) ?_
  rw [ha]
  refine rs_take 1 (s1 := ⟨[intA .u64 (b : Int), intA .u64 (n : Int), intA .u64 (p : Int)] ++ us 3 ++ [intA .u64 0, intA .u64 (c : Int), x8, x9, x10, x11, x12, intA .u64 (n : Int), Yes, z15, z16, intA .u64 (n : Int), intA .u64 ((n % 2 : Nat) : Int), boolA (((n % 2 : Nat) : Int) == 1), z20, z21, z22, z23, z24, z25, z26, z27, z28, z29, U], ⟨[], 0⟩⟩) (fun cf => by kernel_rfl) ?_
  rw [hbit]
  refine rs_done (by kernel_rfl) ?_
  refine ev_false (by kernel_rfl) ?_
  refine ev_skip ?_
  refine ev_reg (by kernel_rfl) ?_
  refine rs_take 3 (s1 := ⟨[intA .u64 (b : Int), intA .u64 (n : Int), intA .u64 (p : Int)] ++ us 3 ++ [intA .u64 0, intA .u64 (c : Int), x8, x9, x10, x11, x12, intA .u64 (n : Int), Yes, z15, z16, intA .u64 (n : Int), intA .u64 ((n % 2 : Nat) : Int), No, z20, z21, z22, z23, z24, intA .u64 (b : Int), intA .u64 (b : Int), intA .u64 (IntKind.wrap .u64 ((b : Int) * (b : Int))), z28, z29, U], ⟨[], 0⟩⟩) (fun cf => by kernel_rfl) ?_
  rw [hbb]
  refine rs_take 1 (s1 := ⟨[intA .u64 (b : Int), intA .u64 (n : Int), intA .u64 (p : Int)] ++ us 3 ++ [intA .u64 0, intA .u64 (c : Int), x8, x9, x10, x11, x12, intA .u64 (n : Int), Yes, z15, z16, intA .u64 (n : Int), intA .u64 ((n % 2 : Nat) : Int), No, z20, z21, z22, z23, z24, intA .u64 (b : Int), intA .u64 (b : Int), intA .u64 ((b * b : Nat) : Int), intA .u64 (p : Int), z29, U], ⟨[], 0⟩⟩) (fun cf => by kernel_rfl) ?_
  refine rs_take 1 (s1 := ⟨[intA .u64 (b : Int), intA .u64 (n : Int), intA .u64 (p : Int)] ++ us 3 ++ [intA .u64 0, intA .u64 (c : Int), x8, x9, x10, x11, x12, intA .u64 (n : Int), Yes, z15, z16, intA .u64 (n : Int), intA .u64 ((n % 2 : Nat) : Int), No, z20, z21, z22, z23, z24, intA .u64 (b : Int), intA .u64 (b : Int), intA .u64 ((b * b : Nat) : Int), intA .u64 (p : Int), intA .u64 (((b * b) % p : Nat) : Int), U], ⟨[], 0⟩⟩) (fun cf => Eq.trans (b := match (binA Try.cx (⟨[], 0⟩ : Mem) .rem 23 (intA .u64 ((b * b : Nat) : Int)) (intA .u64 (p : Int))).map (fun r9 => (r9, (⟨[], 0⟩ : Mem))) with | some (r9, m9) => some (⟨[intA .u64 (b : Int), intA .u64 (n : Int), intA .u64 (p : Int)] ++ us 3 ++ [intA .u64 0, intA .u64 (c : Int), x8, x9, x10, x11, x12, intA .u64 (n : Int), Yes, z15, z16, intA .u64 (n : Int), intA .u64 ((n % 2 : Nat) : Int), No, z20, z21, z22, z23, z24, intA .u64 (b : Int), intA .u64 (b : Int), intA .u64 ((b * b : Nat) : Int), intA .u64 (p : Int), r9, U], m9⟩ : St) | none => none) (by kernel_rfl) (by rw [rem_u (a := b * b) hp] <;> rfl)) ?_
  refine rs_all (s1 := ⟨[intA .u64 (((b * b) % p : Nat) : Int), intA .u64 (n : Int), intA .u64 (p : Int)] ++ us 3 ++ [intA .u64 0, intA .u64 (c : Int), x8, x9, x10, x11, x12, intA .u64 (n : Int), Yes, z15, z16, intA .u64 (n : Int), intA .u64 ((n % 2 : Nat) : Int), No, z20, z21, z22, z23, z24, intA .u64 (b : Int), intA .u64 (b : Int), intA .u64 ((b * b : Nat) : Int), intA .u64 (p : Int), intA .u64 (((b * b) % p : Nat) : Int), U], ⟨[], 0⟩⟩) (fun cf => by kernel_rfl) ?_
  refine ev_reg (by kernel_rfl) ?_
  refine rs_take 2 (s1 := ⟨[intA .u64 (((b * b) % p : Nat) : Int), intA .u64 (n : Int), intA .u64 (p : Int)] ++ us 3 ++ [intA .u64 0, intA .u64 (c : Int), x8, x9, x10, x11, x12, intA .u64 (n : Int), Yes, intA .u64 (n : Int), intA .u64 (Int.fdiv (n : Int) (2 ^ 1)), intA .u64 (n : Int), intA .u64 ((n % 2 : Nat) : Int), No, z20, z21, z22, z23, z24, intA .u64 (b : Int), intA .u64 (b : Int), intA .u64 ((b * b : Nat) : Int), intA .u64 (p : Int), intA .u64 (((b * b) % p : Nat) : Int), U], ⟨[], 0⟩⟩) (fun cf => by kernel_rfl) ?_
  rw [hsh]
  refine rs_all (s1 := ⟨[intA .u64 (((b * b) % p : Nat) : Int), intA .u64 ((n / 2 : Nat) : Int), intA .u64 (p : Int)] ++ us 3 ++ [intA .u64 0, intA .u64 (c : Int), x8, x9, x10, x11, x12, intA .u64 (n : Int), Yes, intA .u64 (n : Int), intA .u64 ((n / 2 : Nat) : Int), intA .u64 (n : Int), intA .u64 ((n % 2 : Nat) : Int), No, z20, z21, z22, z23, z24, intA .u64 (b : Int), intA .u64 (b : Int), intA .u64 ((b * b : Nat) : Int), intA .u64 (p : Int), intA .u64 (((b * b) % p : Nat) : Int), U], ⟨[], 0⟩⟩) (fun cf => by kernel_rfl) ?_
  exact h _ _ _ _ _ _ _ _ _ _ _ _ _ _ _ _ _

theorem pow_odd {K : Out → St → Prop} {b n c p : Nat} (x8 x9 x10 x11 x12 : AV) (hg : decide ((n : Int) > 0) = true) (ha : (IntKind.wrap .u64 (BitVec.ofInt (IntKind.bits .u64) (n : Int) &&& BitVec.ofInt (IntKind.bits .u64) 1).toNat) = ((n % 2 : Nat) : Int)) (hbit : (((n % 2 : Nat) : Int) == 1) = true) (hp : p ≠ 0) (hbb : IntKind.wrap .u64 ((b : Int) * (b : Int)) = ((b * b : Nat) : Int)) (hsh : Int.fdiv (n : Int) (2 ^ 1) = ((n / 2 : Nat) : Int)) (hcb : IntKind.wrap .u64 ((c : Int) * (b : Int)) = ((c * b : Nat) : Int)) (z13 z14 z15 z16 z17 z18 z19 z20 z21 z22 z23 z24 z25 z26 z27 z28 z29 : AV) (h : ∀ z13 z14 z15 z16 z17 z18 z19 z20 z21 z22 z23 z24 z25 z26 z27 z28 z29, EvK Try.cx 20 (.loop powL) ⟨[intA .u64 ((b * b % p : Nat) : Int), intA .u64 ((n / 2 : Nat) : Int), intA .u64 (p : Int)] ++ us 3 ++ [intA .u64 0, intA .u64 ((c * b % p : Nat) : Int), x8, x9, x10, x11, x12, z13, z14, z15, z16, z17, z18, z19, z20, z21, z22, z23, z24, z25, z26, z27, z28, z29, U], ⟨[], 0⟩⟩ K) : EvK Try.cx 20 (.loop powL) ⟨[intA .u64 (b : Int), intA .u64 (n : Int), intA .u64 (p : Int)] ++ us 3 ++ [intA .u64 0, intA .u64 (c : Int), x8, x9, x10, x11, x12, z13, z14, z15, z16, z17, z18, z19, z20, z21, z22, z23, z24, z25, z26, z27, z28, z29, U], ⟨[], 0⟩⟩ K := by
  refine ev_loop ?_
  refine ev_seq ?_
  refine ev_seq ?_
  refine ev_reg (by kernel_rfl) ?_
  refine rs_take 2 (s1 := ⟨[intA .u64 (b : Int), intA .u64 (n : Int), intA .u64 (p : Int)] ++ us 3 ++ [intA .u64 0, intA .u64 (c : Int), x8, x9, x10, x11, x12, intA .u64 (n : Int), boolA (decide ((n : Int) > 0)), z15, z16, z17, z18, z19, z20, z21, z22, z23, z24, z25, z26, z27, z28, z29, U], ⟨[], 0⟩⟩) (fun cf => by kernel_rfl) ?_
  rw [hg]
  refine rs_done (by kernel_rfl) ?_
  refine ev_true (by kernel_rfl) ?_
  refine ev_skip ?_
  refine ev_seq ?_
  refine ev_block ?_
  refine ev_seq ?_
  refine ev_seq ?_
  refine ev_reg (by kernel_rfl) ?_
  refine rs_take 2 (s1 := ⟨[intA .u64 (b : Int), intA .u64 (n : Int), intA .u64 (p : Int)] ++ us 3 ++ [intA .u64 0, intA .u64 (c : Int), x8, x9, x10, x11, x12, intA .u64 (n : Int), Yes, z15, z16, intA .u64 (n : Int), intA .u64 (IntKind.wrap .u64 (BitVec.ofInt (IntKind.bits .u64) (n : Int) &&& BitVec.ofInt (IntKind.bits .u64) 1).toNat), z19, z20, z21, z22, z23, z24, z25, z26, z27, z28, z29, U], ⟨[], 0⟩⟩) (fun cf => by kernel_rfl) ?_
  rw [ha]
  refine rs_take 1 (s1 := ⟨[intA .u64 (b : Int), intA .u64 (n : Int), intA .u64 (p : Int)] ++ us 3 ++ [intA .u64 0, intA .u64 (c : Int), x8, x9, x10, x11, x12, intA .u64 (n : Int), Yes, z15, z16, intA .u64 (n : Int), intA .u64 ((n % 2 : Nat) : Int), boolA (((n % 2 : Nat) : Int) == 1), z20, z21, z22, z23, z24, z25, z26, z27, z28, z29, U], ⟨[], 0⟩⟩) (fun cf => by kernel_rfl) ?_
  rw [hbit]
  refine rs_done (by kernel_rfl) ?_
  refine ev_true (by kernel_rfl) ?_
  refine ev_reg (by kernel_rfl) ?_
  refine rs_take 3 (s1 := ⟨[intA .u64 (b : Int), intA .u64 (n : Int), intA .u64 (p : Int)] ++ us 3 ++ [intA .u64 0, intA .u64 (c : Int), x8, x9, x10, x11, x12, intA .u64 (n : Int), Yes, z15, z16, intA .u64 (n : Int), intA .u64 ((n % 2 : Nat) : Int), Yes, intA .u64 (c : Int), intA .u64 (b : Int), intA .u64 (IntKind.wrap .u64 ((c : Int) * (b : Int))), z23, z24, z25, z26, z27, z28, z29, U], ⟨[], 0⟩⟩) (fun cf => by kernel_rfl) ?_
  rw [hcb]
  refine rs_take 1 (s1 := ⟨[intA .u64 (b : Int), intA .u64 (n : Int), intA .u64 (p : Int)] ++ us 3 ++ [intA .u64 0, intA .u64 (c : Int), x8, x9, x10, x11, x12, intA .u64 (n : Int), Yes, z15, z16, intA .u64 (n : Int), intA .u64 ((n % 2 : Nat) : Int), Yes, intA .u64 (c : Int), intA .u64 (b : Int), intA .u64 ((c * b : Nat) : Int), intA .u64 (p : Int), z24, z25, z26, z27, z28, z29, U], ⟨[], 0⟩⟩) (fun cf => by kernel_rfl) ?_
  refine rs_take 1 (s1 := ⟨[intA .u64 (b : Int), intA .u64 (n : Int), intA .u64 (p : Int)] ++ us 3 ++ [intA .u64 0, intA .u64 (c : Int), x8, x9, x10, x11, x12, intA .u64 (n : Int), Yes, z15, z16, intA .u64 (n : Int), intA .u64 ((n % 2 : Nat) : Int), Yes, intA .u64 (c : Int), intA .u64 (b : Int), intA .u64 ((c * b : Nat) : Int), intA .u64 (p : Int), intA .u64 (((c * b) % p : Nat) : Int), z25, z26, z27, z28, z29, U], ⟨[], 0⟩⟩) (fun cf => Eq.trans (b := match (binA Try.cx (⟨[], 0⟩ : Mem) .rem 23 (intA .u64 ((c * b : Nat) : Int)) (intA .u64 (p : Int))).map (fun r9 => (r9, (⟨[], 0⟩ : Mem))) with | some (r9, m9) => some (⟨[intA .u64 (b : Int), intA .u64 (n : Int), intA .u64 (p : Int)] ++ us 3 ++ [intA .u64 0, intA .u64 (c : Int), x8, x9, x10, x11, x12, intA .u64 (n : Int), Yes, z15, z16, intA .u64 (n : Int), intA .u64 ((n % 2 : Nat) : Int), Yes, intA .u64 (c : Int), intA .u64 (b : Int), intA .u64 ((c * b : Nat) : Int), intA .u64 (p : Int), r9, z25, z26, z27, z28, z29, U], m9⟩ : St) | none => none) (by kernel_rfl) (by rw [rem_u (a := c * b) hp] <;> rfl)) ?_
  refine rs_all (s1 := ⟨[intA .u64 (b : Int), intA .u64 (n : Int), intA .u64 (p : Int)] ++ us 3 ++ [intA .u64 0, intA .u64 (((c * b) % p : Nat) : Int), x8, x9, x10, x11, x12, intA .u64 (n : Int), Yes, z15, z16, intA .u64 (n : Int), intA .u64 ((n % 2 : Nat) : Int), Yes, intA .u64 (c : Int), intA .u64 (b : Int), intA .u64 ((c * b : Nat) : Int), intA .u64 (p : Int), intA .u64 (((c * b) % p : Nat) : Int), z25, z26, z27, z28, z29, U], ⟨[], 0⟩⟩) (fun cf => by kernel_rfl) ?_
  refine ev_reg (by kernel_rfl) ?_
  refine rs_take 3 (s1 := ⟨[intA .u64 (b : Int), intA .u64 (n : Int), intA .u64 (p : Int)] ++ us 3 ++ [intA .u64 0, intA .u64 (((c * b) % p : Nat) : Int), x8, x9, x10, x11, x12, intA .u64 (n : Int), Yes, z15, z16, intA .u64 (n : Int), intA .u64 ((n % 2 : Nat) : Int), Yes, intA .u64 (c : Int), intA .u64 (b : Int), intA .u64 ((c * b : Nat) : Int), intA .u64 (p : Int), intA .u64 (((c * b) % p : Nat) : Int), intA .u64 (b : Int), intA .u64 (b : Int), intA .u64 (IntKind.wrap .u64 ((b : Int) * (b : Int))), z28, z29, U], ⟨[], 0⟩⟩) (fun cf => by kernel_rfl) ?_
  rw [hbb]
  refine rs_take 1 (s1 := ⟨[intA .u64 (b : Int), intA .u64 (n : Int), intA .u64 (p : Int)] ++ us 3 ++ [intA .u64 0, intA .u64 (((c * b) % p : Nat) : Int), x8, x9, x10, x11, x12, intA .u64 (n : Int), Yes, z15, z16, intA .u64 (n : Int), intA .u64 ((n % 2 : Nat) : Int), Yes, intA .u64 (c : Int), intA .u64 (b : Int), intA .u64 ((c * b : Nat) : Int), intA .u64 (p : Int), intA .u64 (((c * b) % p : Nat) : Int), intA .u64 (b : Int), intA .u64 (b : Int), intA .u64 ((b * b : Nat) : Int), intA .u64 (p : Int), z29, U], ⟨[], 0⟩⟩) (fun cf => by kernel_rfl) ?_
  refine rs_take 1 (s1 := ⟨[intA .u64 (b : Int), intA .u64 (n : Int), intA .u64 (p : Int)] ++ us 3 ++ [intA .u64 0, intA .u64 (((c * b) % p : Nat) : Int), x8, x9, x10, x11, x12, intA .u64 (n : Int), Yes, z15, z16, intA .u64 (n : Int), intA .u64 ((n % 2 : Nat) : Int), Yes, intA .u64 (c : Int), intA .u64 (b : Int), intA .u64 ((c * b : Nat) : Int), intA .u64 (p : Int), intA .u64 (((c * b) % p : Nat) : Int), intA .u64 (b : Int), intA .u64 (b : Int), intA .u64 ((b * b : Nat) : Int), intA .u64 (p : Int), intA .u64 (((b * b) % p : Nat) : Int), U], ⟨[], 0⟩⟩) (fun cf => Eq.trans (b := match (binA Try.cx (⟨[], 0⟩ : Mem) .rem 23 (intA .u64 ((b * b : Nat) : Int)) (intA .u64 (p : Int))).map (fun r9 => (r9, (⟨[], 0⟩ : Mem))) with | some (r9, m9) => some (⟨[intA .u64 (b : Int), intA .u64 (n : Int), intA .u64 (p : Int)] ++ us 3 ++ [intA .u64 0, intA .u64 (((c * b) % p : Nat) : Int), x8, x9, x10, x11, x12, intA .u64 (n : Int), Yes, z15, z16, intA .u64 (n : Int), intA .u64 ((n % 2 : Nat) : Int), Yes, intA .u64 (c : Int), intA .u64 (b : Int), intA .u64 ((c * b : Nat) : Int), intA .u64 (p : Int), intA .u64 (((c * b) % p : Nat) : Int), intA .u64 (b : Int), intA .u64 (b : Int), intA .u64 ((b * b : Nat) : Int), intA .u64 (p : Int), r9, U], m9⟩ : St) | none => none) (by kernel_rfl) (by rw [rem_u (a := b * b) hp] <;> rfl)) ?_
  refine rs_all (s1 := ⟨[intA .u64 (((b * b) % p : Nat) : Int), intA .u64 (n : Int), intA .u64 (p : Int)] ++ us 3 ++ [intA .u64 0, intA .u64 (((c * b) % p : Nat) : Int), x8, x9, x10, x11, x12, intA .u64 (n : Int), Yes, z15, z16, intA .u64 (n : Int), intA .u64 ((n % 2 : Nat) : Int), Yes, intA .u64 (c : Int), intA .u64 (b : Int), intA .u64 ((c * b : Nat) : Int), intA .u64 (p : Int), intA .u64 (((c * b) % p : Nat) : Int), intA .u64 (b : Int), intA .u64 (b : Int), intA .u64 ((b * b : Nat) : Int), intA .u64 (p : Int), intA .u64 (((b * b) % p : Nat) : Int), U], ⟨[], 0⟩⟩) (fun cf => by kernel_rfl) ?_
  refine ev_reg (by kernel_rfl) ?_
  refine rs_take 2 (s1 := ⟨[intA .u64 (((b * b) % p : Nat) : Int), intA .u64 (n : Int), intA .u64 (p : Int)] ++ us 3 ++ [intA .u64 0, intA .u64 (((c * b) % p : Nat) : Int), x8, x9, x10, x11, x12, intA .u64 (n : Int), Yes, intA .u64 (n : Int), intA .u64 (Int.fdiv (n : Int) (2 ^ 1)), intA .u64 (n : Int), intA .u64 ((n % 2 : Nat) : Int), Yes, intA .u64 (c : Int), intA .u64 (b : Int), intA .u64 ((c * b : Nat) : Int), intA .u64 (p : Int), intA .u64 (((c * b) % p : Nat) : Int), intA .u64 (b : Int), intA .u64 (b : Int), intA .u64 ((b * b : Nat) : Int), intA .u64 (p : Int), intA .u64 (((b * b) % p : Nat) : Int), U], ⟨[], 0⟩⟩) (fun cf => by kernel_rfl) ?_
  rw [hsh]
  refine rs_all (s1 := ⟨[intA .u64 (((b * b) % p : Nat) : Int), intA .u64 ((n / 2 : Nat) : Int), intA .u64 (p : Int)] ++ us 3 ++ [intA .u64 0, intA .u64 (((c * b) % p : Nat) : Int), x8, x9, x10, x11, x12, intA .u64 (n : Int), Yes, intA .u64 (n : Int), intA .u64 ((n / 2 : Nat) : Int), intA .u64 (n : Int), intA .u64 ((n % 2 : Nat) : Int), Yes, intA .u64 (c : Int), intA .u64 (b : Int), intA .u64 ((c * b : Nat) : Int), intA .u64 (p : Int), intA .u64 (((c * b) % p : Nat) : Int), intA .u64 (b : Int), intA .u64 (b : Int), intA .u64 ((b * b : Nat) : Int), intA .u64 (p : Int), intA .u64 (((b * b) % p : Nat) : Int), U], ⟨[], 0⟩⟩) (fun cf => by kernel_rfl) ?_
  exact h _ _ _ _ _ _ _ _ _ _ _ _ _ _ _ _ _

theorem mul_small {a b p : Nat} (hp : p ≤ 2147483648) (ha : a < p) (hb : b < p) : a * b < 18446744073709551616 := by
  have := Nat.mul_le_mul (Nat.le_of_lt ha) (Nat.le_of_lt hb)
  have := Nat.mul_le_mul hp hp
  omega

theorem wrap_mul {a b p : Nat} (hp : p ≤ 2147483648) (ha : a < p) (hb : b < p) : IntKind.wrap .u64 ((a : Int) * (b : Int)) = ((a * b : Nat) : Int) := by
  rw [← Int.natCast_mul]
  exact wrapU (mul_small hp ha hb)

theorem pow_half {b n c p : Nat} : (c * b % p) * (b * b % p) ^ (n / 2) % p = c * b * (b * b) ^ (n / 2) % p := by
  rw [Nat.mul_mod, Nat.mod_mod, Nat.pow_mod, Nat.mod_mod, ← Nat.pow_mod, ← Nat.mul_mod]

theorem pow_half0 {b n c p : Nat} : c * (b * b % p) ^ (n / 2) % p = c * (b * b) ^ (n / 2) % p := by
  rw [Nat.mul_mod, Nat.pow_mod, Nat.mod_mod, ← Nat.pow_mod, ← Nat.mul_mod]

theorem pow_loop {K : Out → St → Prop} {p : Nat} (hp0 : 0 < p) (hp : p ≤ 2147483648) (x8 x9 x10 x11 x12 : AV) : ∀ (k b n c : Nat) (z13 z14 z15 z16 z17 z18 z19 z20 z21 z22 z23 z24 z25 z26 z27 z28 z29 : AV) (hk : n < 2 ^ k) (hn : n < 18446744073709551616) (hb : b < p) (hc : c < p) (h : ∀ (b1 : Nat) (z13 z14 z15 z16 z17 z18 z19 z20 z21 z22 z23 z24 z25 z26 z27 z28 z29 : AV), K (.exit 0) ⟨[intA .u64 (b1 : Int), intA .u64 0, intA .u64 (p : Int)] ++ us 3 ++ [intA .u64 0, intA .u64 ((c * b ^ n % p : Nat) : Int), x8, x9, x10, x11, x12, z13, z14, z15, z16, z17, z18, z19, z20, z21, z22, z23, z24, z25, z26, z27, z28, z29, U], ⟨[], 0⟩⟩), EvK Try.cx 20 (.loop powL) ⟨[intA .u64 (b : Int), intA .u64 (n : Int), intA .u64 (p : Int)] ++ us 3 ++ [intA .u64 0, intA .u64 (c : Int), x8, x9, x10, x11, x12, z13, z14, z15, z16, z17, z18, z19, z20, z21, z22, z23, z24, z25, z26, z27, z28, z29, U], ⟨[], 0⟩⟩ K
  | 0, b, n, c, z13, z14, z15, z16, z17, z18, z19, z20, z21, z22, z23, z24, z25, z26, z27, z28, z29, hk, hn, hb, hc, h => by
    have : n = 0 := by simp only [Nat.pow_zero] at hk; omega
    subst this
    refine pow_out x8 x9 x10 x11 x12 (by decide) z13 z14 z15 z16 z17 z18 z19 z20 z21 z22 z23 z24 z25 z26 z27 z28 z29 fun z13 z14 z15 z16 z17 z18 z19 z20 z21 z22 z23 z24 z25 z26 z27 z28 z29 => ?_
    have h := h b z13 z14 z15 z16 z17 z18 z19 z20 z21 z22 z23 z24 z25 z26 z27 z28 z29
    rw [Nat.pow_zero, Nat.mul_one, Nat.mod_eq_of_lt hc] at h
    exact h
  | k + 1, b, n, c, z13, z14, z15, z16, z17, z18, z19, z20, z21, z22, z23, z24, z25, z26, z27, z28, z29, hk, hn, hb, hc, h => by
    by_cases h0 : n = 0
    · subst h0
      refine pow_out x8 x9 x10 x11 x12 (by decide) z13 z14 z15 z16 z17 z18 z19 z20 z21 z22 z23 z24 z25 z26 z27 z28 z29 fun z13 z14 z15 z16 z17 z18 z19 z20 z21 z22 z23 z24 z25 z26 z27 z28 z29 => ?_
      have h := h b z13 z14 z15 z16 z17 z18 z19 z20 z21 z22 z23 z24 z25 z26 z27 z28 z29
      rw [Nat.pow_zero, Nat.mul_one, Nat.mod_eq_of_lt hc] at h
      exact h
    · have hk2 : n / 2 < 2 ^ k := by
        have : 2 ^ (k + 1) = 2 ^ k + 2 ^ k := by rw [Nat.pow_succ]; omega
        omega
      by_cases hbit : n % 2 = 1
      · refine pow_odd x8 x9 x10 x11 x12 (decide_eq_true (by omega)) (and_1 hn) (by rw [hbit]; rfl) (by omega) (wrap_mul hp hb hb) (shr_1 n) (wrap_mul hp hc hb) z13 z14 z15 z16 z17 z18 z19 z20 z21 z22 z23 z24 z25 z26 z27 z28 z29 fun z13 z14 z15 z16 z17 z18 z19 z20 z21 z22 z23 z24 z25 z26 z27 z28 z29 => ?_
        refine pow_loop hp0 hp x8 x9 x10 x11 x12 k (b * b % p) (n / 2) (c * b % p) z13 z14 z15 z16 z17 z18 z19 z20 z21 z22 z23 z24 z25 z26 z27 z28 z29 hk2 (by omega) (Nat.mod_lt _ hp0) (Nat.mod_lt _ hp0) fun b1 z13 z14 z15 z16 z17 z18 z19 z20 z21 z22 z23 z24 z25 z26 z27 z28 z29 => ?_
        have h := h b1 z13 z14 z15 z16 z17 z18 z19 z20 z21 z22 z23 z24 z25 z26 z27 z28 z29
        have e : c * b ^ n = c * b * (b * b) ^ (n / 2) := by
          have : b ^ n = b * (b * b) ^ (n / 2) := by
            rw [← Nat.pow_two, ← Nat.pow_mul, ← Nat.pow_succ']
            congr 1
            omega
          rw [this, Nat.mul_assoc]
        rw [e, ← pow_half] at h
        exact h
      · refine pow_even x8 x9 x10 x11 x12 (decide_eq_true (by omega)) (and_1 hn) (by simp only [beq_eq_false_iff_ne, ne_eq]; omega) (by omega) (wrap_mul hp hb hb) (shr_1 n) z13 z14 z15 z16 z17 z18 z19 z20 z21 z22 z23 z24 z25 z26 z27 z28 z29 fun z13 z14 z15 z16 z17 z18 z19 z20 z21 z22 z23 z24 z25 z26 z27 z28 z29 => ?_
        refine pow_loop hp0 hp x8 x9 x10 x11 x12 k (b * b % p) (n / 2) c z13 z14 z15 z16 z17 z18 z19 z20 z21 z22 z23 z24 z25 z26 z27 z28 z29 hk2 (by omega) (Nat.mod_lt _ hp0) hc fun b1 z13 z14 z15 z16 z17 z18 z19 z20 z21 z22 z23 z24 z25 z26 z27 z28 z29 => ?_
        have h := h b1 z13 z14 z15 z16 z17 z18 z19 z20 z21 z22 z23 z24 z25 z26 z27 z28 z29
        have e : c * b ^ n = c * (b * b) ^ (n / 2) := by
          have : b ^ n = (b * b) ^ (n / 2) := by
            rw [← Nat.pow_two, ← Nat.pow_mul]
            congr 1
            omega
          rw [this]
        rw [e, ← pow_half0] at h
        exact h

theorem g_pow {a n p : Nat} (hp0 : 0 < p) (hp : p ≤ 2147483648) (hn : n < 18446744073709551616) : Gets Try.cx 20 [intA .u64 (a : Int), intA .u64 (n : Int), intA .u64 (p : Int)] (intA .u64 ((a ^ n % p : Nat) : Int)) := by
  refine gets_of (fn := Try.f20) (by kernel_rfl) rfl ?_
  show EvK _ _ _ ⟨[intA .u64 (a : Int), intA .u64 (n : Int), intA .u64 (p : Int)] ++ us 28, ⟨[], 0⟩⟩ _
  have hp1 : p ≠ 0 := by omega
  refine ev_seq ?_
  refine ev_reg (by kernel_rfl) ?_
  refine rs_all (s1 := ⟨[intA .u64 (a : Int), intA .u64 (n : Int), intA .u64 (p : Int)] ++ us 3 ++ [intA .u64 0] ++ us 24, ⟨[], 0⟩⟩) (fun cf => by kernel_rfl) ?_
  refine ev_seq ?_
  refine ev_reg (by kernel_rfl) ?_
  refine rs_take 1 (s1 := ⟨[intA .u64 (a : Int), intA .u64 (n : Int), intA .u64 (p : Int)] ++ us 3 ++ [intA .u64 0, U, intA .u64 (p : Int)] ++ us 22, ⟨[], 0⟩⟩) (fun cf => by kernel_rfl) ?_
  refine rs_take 1 (s1 := ⟨[intA .u64 (a : Int), intA .u64 (n : Int), intA .u64 (p : Int)] ++ us 3 ++ [intA .u64 0, U, intA .u64 (p : Int), intA .u64 ((1 % p : Nat) : Int)] ++ us 21, ⟨[], 0⟩⟩) (fun cf => Eq.trans (b := match (binA Try.cx (⟨[], 0⟩ : Mem) .rem 23 (intA .u64 1) (intA .u64 (p : Int))).map (fun r9 => (r9, (⟨[], 0⟩ : Mem))) with | some (r9, m9) => some (⟨[intA .u64 (a : Int), intA .u64 (n : Int), intA .u64 (p : Int)] ++ us 3 ++ [intA .u64 0, U, intA .u64 (p : Int), r9] ++ us 21, m9⟩ : St) | none => none) (by kernel_rfl) (by rw [rem_1 hp1] <;> rfl)) ?_
  refine rs_take 2 (s1 := ⟨[intA .u64 (a : Int), intA .u64 (n : Int), intA .u64 (p : Int)] ++ us 3 ++ [intA .u64 0, U, intA .u64 (p : Int), intA .u64 ((1 % p : Nat) : Int), intA .u64 (a : Int), intA .u64 (p : Int)] ++ us 19, ⟨[], 0⟩⟩) (fun cf => by kernel_rfl) ?_
  refine rs_take 1 (s1 := ⟨[intA .u64 (a : Int), intA .u64 (n : Int), intA .u64 (p : Int)] ++ us 3 ++ [intA .u64 0, U, intA .u64 (p : Int), intA .u64 ((1 % p : Nat) : Int), intA .u64 (a : Int), intA .u64 (p : Int), intA .u64 ((a % p : Nat) : Int)] ++ us 18, ⟨[], 0⟩⟩) (fun cf => Eq.trans (b := match (binA Try.cx (⟨[], 0⟩ : Mem) .rem 23 (intA .u64 (a : Int)) (intA .u64 (p : Int))).map (fun r9 => (r9, (⟨[], 0⟩ : Mem))) with | some (r9, m9) => some (⟨[intA .u64 (a : Int), intA .u64 (n : Int), intA .u64 (p : Int)] ++ us 3 ++ [intA .u64 0, U, intA .u64 (p : Int), intA .u64 ((1 % p : Nat) : Int), intA .u64 (a : Int), intA .u64 (p : Int), r9] ++ us 18, m9⟩ : St) | none => none) (by kernel_rfl) (by rw [rem_u hp1] <;> rfl)) ?_
  refine rs_all (s1 := ⟨[intA .u64 ((a % p : Nat) : Int), intA .u64 (n : Int), intA .u64 (p : Int)] ++ us 3 ++ [intA .u64 0, intA .u64 ((1 % p : Nat) : Int), intA .u64 (p : Int), intA .u64 ((1 % p : Nat) : Int), intA .u64 (a : Int), intA .u64 (p : Int), intA .u64 ((a % p : Nat) : Int)] ++ us 18, ⟨[], 0⟩⟩) (fun cf => by kernel_rfl) ?_
  refine ev_seq ?_
  refine ev_block ?_
  refine pow_loop hp0 hp _ _ _ _ _ 64 (a % p) n (1 % p) _ _ _ _ _ _ _ _ _ _ _ _ _ _ _ _ _ hn hn (Nat.mod_lt _ hp0) (Nat.mod_lt _ hp0) fun b1 v13 v14 v15 v16 v17 v18 v19 v20 v21 v22 v23 v24 v25 v26 v27 v28 v29 => ?_
  have e : 1 % p * (a % p) ^ n % p = a ^ n % p := by rw [Nat.mul_mod, Nat.mod_mod, Nat.pow_mod, Nat.mod_mod, ← Nat.pow_mod, ← Nat.mul_mod, Nat.one_mul]
  rw [e]
  refine ev_seq ?_
  refine ev_reg (by kernel_rfl) ?_
  refine rs_all (s1 := ⟨[intA .u64 (b1 : Int), intA .u64 0, intA .u64 (p : Int)] ++ us 3 ++ [intA .u64 ((a ^ n % p : Nat) : Int), intA .u64 ((a ^ n % p : Nat) : Int), intA .u64 (p : Int), intA .u64 ((1 % p : Nat) : Int), intA .u64 (a : Int), intA .u64 (p : Int), intA .u64 ((a % p : Nat) : Int), v13, v14, v15, v16, v17, v18, v19, v20, v21, v22, v23, v24, v25, v26, v27, v28, v29, intA .u64 ((a ^ n % p : Nat) : Int)], ⟨[], 0⟩⟩) (fun cf => by kernel_rfl) ?_
  refine ev_ret ?_
  exact leaf (r0 := intA .u64 ((a ^ n % p : Nat) : Int)) (.inr rfl) (by kernel_rfl) (by kernel_rfl) rfl

end Go.Proofs.Ytgkjdfojogemhaa
