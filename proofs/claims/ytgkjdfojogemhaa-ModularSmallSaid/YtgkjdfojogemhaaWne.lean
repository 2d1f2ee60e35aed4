/-
  The program: comparison of words. Made by program. Conditions: none.
-/
import Derived.Test.YtgkjdfojogemhaaWnd
set_option maxRecDepth 100000
set_option maxHeartbeats 20000000
set_option linter.unusedSimpArgs false
set_option linter.unusedVariables false
namespace Go.Proofs.Ytgkjdfojogemhaa.W
open Go.Am
def cmpV (a b : Nat) : Int := if a < b then -1 else if a > b then 1 else 0
theorem self_ne (a : Int) : (a != a) = false := by simp
theorem p_nan_int {a : Nat} : Gets Try.cx 100 [J (a : Int)] (boolA false) := by
  refine gets_of (fn := Try.f100) (by kernel_rfl) rfl ?_
  show EvK _ _ _ ⟨[J (a : Int)] ++ us 5, ⟨[], 0⟩⟩ _
  refine ev_seq ?_
  refine ev_reg (by kernel_rfl) ?_
  refine rs_all (s1 := ⟨[J (a : Int), U, No] ++ us 3, ⟨[], 0⟩⟩) (fun cf => by kernel_rfl) ?_
  refine ev_seq ?_
  refine ev_reg (by kernel_rfl) ?_
  refine rs_up 3 [(3, J (a : Int)), (4, J (a : Int)), (5, boolA ((a : Int) != (a : Int)))] (fun cf => by kernel_rfl) ?_
  rw [self_ne (a : Int)]
  refine rs_all (s1 := ⟨[J (a : Int), U, No, J (a : Int), J (a : Int), No], ⟨[], 0⟩⟩) (fun cf => by kernel_rfl) ?_
  refine ev_ret ?_
  refine leaf (r0 := No) (r1 := No) (.inr rfl) (by kernel_rfl) (by kernel_rfl) ?_
  rfl
theorem p_cmp_int {a b : Nat} : Gets Try.cx 78 [J (a : Int), J (b : Int)] (J (cmpV a b)) := by
  refine gets_of (fn := Try.f78) (by kernel_rfl) rfl ?_
  show EvK _ _ _ ⟨[J (a : Int), J (b : Int)] ++ us 18, ⟨[], 0⟩⟩ _
  refine ev_seq ?_
  refine ev_reg (by kernel_rfl) ?_
  refine rs_alu [(4, J 0)] (fun cf => by kernel_rfl) ?_
  refine ev_seq ?_
  refine ev_reg (by kernel_rfl) ?_
  refine rs_up 1 [(7, J (a : Int))] (fun cf => by kernel_rfl) ?_
  refine rs_cp 100 [J (a : Int)] false (some 8) (No) (by kernel_rfl) (p_nan_int) (by kernel_rfl) ?_
  refine rs_alu [(5, No)] (fun cf => by kernel_rfl) ?_
  refine ev_seq ?_
  refine ev_reg (by kernel_rfl) ?_
  refine rs_up 1 [(9, J (b : Int))] (fun cf => by kernel_rfl) ?_
  refine rs_cp 100 [J (b : Int)] false (some 10) (No) (by kernel_rfl) (p_nan_int) (by kernel_rfl) ?_
  refine rs_alu [(6, No)] (fun cf => by kernel_rfl) ?_
  refine ev_seq ?_
  refine ev_seq ?_
  refine ev_reg (by kernel_rfl) ?_
  refine rs_alu [(11, No)] (fun cf => by kernel_rfl) ?_
  refine ev_false (by kernel_rfl) ?_
  refine ev_skip ?_
  refine ev_seq ?_
  refine ev_seq ?_
  refine ev_reg (by kernel_rfl) ?_
  refine rs_alu [(13, No)] (fun cf => by kernel_rfl) ?_
  refine ev_false (by kernel_rfl) ?_
  refine ev_skip ?_
  refine ev_seq ?_
  refine ev_seq ?_
  refine ev_reg (by kernel_rfl) ?_
  refine rs_all (s1 := ⟨[J (a : Int), J (b : Int), U, U, J 0, No, No, J (a : Int), No, J (b : Int), No, No, U, No, J (a : Int), J (b : Int), boolA (decide ((a : Int) < (b : Int)))] ++ us 3, ⟨[], 0⟩⟩) (fun cf => by kernel_rfl) ?_
  rcases hb1 : ((decide ((a : Int) < (b : Int))) : Bool) with _ | _
  ·
    have hb1' := of_decide_eq_false hb1
    refine ev_false (by kernel_rfl) ?_
    refine ev_skip ?_
    refine ev_seq ?_
    refine ev_seq ?_
    refine ev_reg (by kernel_rfl) ?_
    refine rs_alu [(17, J (a : Int)), (18, J (b : Int)), (19, boolA (decide ((a : Int) > (b : Int))))] (fun cf => by kernel_rfl) ?_
    rcases hb2 : ((decide ((a : Int) > (b : Int))) : Bool) with _ | _
    ·
      have hb2' := of_decide_eq_false hb2
      refine ev_false (by kernel_rfl) ?_
      refine ev_skip ?_
      refine ev_seq ?_
      refine ev_reg (by kernel_rfl) ?_
      refine rs_all (s1 := ⟨[J (a : Int), J (b : Int), U, U, J 0, No, No, J (a : Int), No, J (b : Int), No, No, U, No, J (a : Int), J (b : Int), No, J (a : Int), J (b : Int), No], ⟨[], 0⟩⟩) (fun cf => by kernel_rfl) ?_
      refine ev_ret ?_
      refine leaf (r0 := J 0) (r1 := J 0) (.inr rfl) (by kernel_rfl) (by kernel_rfl) ?_
      unfold cmpV
      rw [if_neg (by omega), if_neg (by omega)]
    ·
      have hb2' := of_decide_eq_true hb2
      refine ev_true (by kernel_rfl) ?_
      refine ev_seq ?_
      refine ev_reg (by kernel_rfl) ?_
      refine rs_all (s1 := ⟨[J (a : Int), J (b : Int), U, U, J 1, No, No, J (a : Int), No, J (b : Int), No, No, U, No, J (a : Int), J (b : Int), No, J (a : Int), J (b : Int), Yes], ⟨[], 0⟩⟩) (fun cf => by kernel_rfl) ?_
      refine ev_ret ?_
      refine leaf (r0 := J 1) (r1 := J 1) (.inr rfl) (by kernel_rfl) (by kernel_rfl) ?_
      unfold cmpV
      rw [if_neg (by omega), if_pos (by omega)]
  ·
    have hb1' := of_decide_eq_true hb1
    refine ev_true (by kernel_rfl) ?_
    refine ev_seq ?_
    refine ev_reg (by kernel_rfl) ?_
    refine rs_all (s1 := ⟨[J (a : Int), J (b : Int), U, U, J (-1), No, No, J (a : Int), No, J (b : Int), No, No, U, No, J (a : Int), J (b : Int), Yes] ++ us 3, ⟨[], 0⟩⟩) (fun cf => by kernel_rfl) ?_
    refine ev_ret ?_
    refine leaf (r0 := J (-1)) (r1 := J (-1)) (.inr rfl) (by kernel_rfl) (by kernel_rfl) ?_
    unfold cmpV
    rw [if_pos (by omega)]
theorem p_nan_uint32 {a : Nat} : Gets Try.cx 102 [intA .u32 (a : Int)] (boolA false) := by
  refine gets_of (fn := Try.f102) (by kernel_rfl) rfl ?_
  show EvK _ _ _ ⟨[intA .u32 (a : Int)] ++ us 5, ⟨[], 0⟩⟩ _
  refine ev_seq ?_
  refine ev_reg (by kernel_rfl) ?_
  refine rs_alu [(2, No)] (fun cf => by kernel_rfl) ?_
  refine ev_seq ?_
  refine ev_reg (by kernel_rfl) ?_
  refine rs_up 3 [(3, intA .u32 (a : Int)), (4, intA .u32 (a : Int)), (5, boolA ((a : Int) != (a : Int)))] (fun cf => by kernel_rfl) ?_
  rw [self_ne (a : Int)]
  refine rs_all (s1 := ⟨[intA .u32 (a : Int), U, No, intA .u32 (a : Int), intA .u32 (a : Int), No], ⟨[], 0⟩⟩) (fun cf => by kernel_rfl) ?_
  refine ev_ret ?_
  refine leaf (r0 := No) (r1 := No) (.inr rfl) (by kernel_rfl) (by kernel_rfl) ?_
  rfl
theorem p_cmp_uint32 {a b : Nat} : Gets Try.cx 91 [intA .u32 (a : Int), intA .u32 (b : Int)] (J (cmpV a b)) := by
  refine gets_of (fn := Try.f91) (by kernel_rfl) rfl ?_
  show EvK _ _ _ ⟨[intA .u32 (a : Int), intA .u32 (b : Int)] ++ us 18, ⟨[], 0⟩⟩ _
  refine ev_seq ?_
  refine ev_reg (by kernel_rfl) ?_
  refine rs_alu [(4, J 0)] (fun cf => by kernel_rfl) ?_
  refine ev_seq ?_
  refine ev_reg (by kernel_rfl) ?_
  refine rs_up 1 [(7, intA .u32 (a : Int))] (fun cf => by kernel_rfl) ?_
  refine rs_cp 102 [intA .u32 (a : Int)] false (some 8) (No) (by kernel_rfl) (p_nan_uint32) (by kernel_rfl) ?_
  refine rs_alu [(5, No)] (fun cf => by kernel_rfl) ?_
  refine ev_seq ?_
  refine ev_reg (by kernel_rfl) ?_
  refine rs_up 1 [(9, intA .u32 (b : Int))] (fun cf => by kernel_rfl) ?_
  refine rs_cp 102 [intA .u32 (b : Int)] false (some 10) (No) (by kernel_rfl) (p_nan_uint32) (by kernel_rfl) ?_
  refine rs_alu [(6, No)] (fun cf => by kernel_rfl) ?_
  refine ev_seq ?_
  refine ev_seq ?_
  refine ev_reg (by kernel_rfl) ?_
  refine rs_alu [(11, No)] (fun cf => by kernel_rfl) ?_
  refine ev_false (by kernel_rfl) ?_
  refine ev_skip ?_
  refine ev_seq ?_
  refine ev_seq ?_
  refine ev_reg (by kernel_rfl) ?_
  refine rs_alu [(13, No)] (fun cf => by kernel_rfl) ?_
  refine ev_false (by kernel_rfl) ?_
  refine ev_skip ?_
  refine ev_seq ?_
  refine ev_seq ?_
  refine ev_reg (by kernel_rfl) ?_
  refine rs_all (s1 := ⟨[intA .u32 (a : Int), intA .u32 (b : Int), U, U, J 0, No, No, intA .u32 (a : Int), No, intA .u32 (b : Int), No, No, U, No, intA .u32 (a : Int), intA .u32 (b : Int), boolA (decide ((a : Int) < (b : Int)))] ++ us 3, ⟨[], 0⟩⟩) (fun cf => by kernel_rfl) ?_
  rcases hb1 : ((decide ((a : Int) < (b : Int))) : Bool) with _ | _
  ·
    have hb1' := of_decide_eq_false hb1
    refine ev_false (by kernel_rfl) ?_
    refine ev_skip ?_
    refine ev_seq ?_
    refine ev_seq ?_
    refine ev_reg (by kernel_rfl) ?_
    refine rs_alu [(17, intA .u32 (a : Int)), (18, intA .u32 (b : Int)), (19, boolA (decide ((a : Int) > (b : Int))))] (fun cf => by kernel_rfl) ?_
    rcases hb2 : ((decide ((a : Int) > (b : Int))) : Bool) with _ | _
    ·
      have hb2' := of_decide_eq_false hb2
      refine ev_false (by kernel_rfl) ?_
      refine ev_skip ?_
      refine ev_seq ?_
      refine ev_reg (by kernel_rfl) ?_
      refine rs_all (s1 := ⟨[intA .u32 (a : Int), intA .u32 (b : Int), U, U, J 0, No, No, intA .u32 (a : Int), No, intA .u32 (b : Int), No, No, U, No, intA .u32 (a : Int), intA .u32 (b : Int), No, intA .u32 (a : Int), intA .u32 (b : Int), No], ⟨[], 0⟩⟩) (fun cf => by kernel_rfl) ?_
      refine ev_ret ?_
      refine leaf (r0 := J 0) (r1 := J 0) (.inr rfl) (by kernel_rfl) (by kernel_rfl) ?_
      unfold cmpV
      rw [if_neg (by omega), if_neg (by omega)]
    ·
      have hb2' := of_decide_eq_true hb2
      refine ev_true (by kernel_rfl) ?_
      refine ev_seq ?_
      refine ev_reg (by kernel_rfl) ?_
      refine rs_all (s1 := ⟨[intA .u32 (a : Int), intA .u32 (b : Int), U, U, J 1, No, No, intA .u32 (a : Int), No, intA .u32 (b : Int), No, No, U, No, intA .u32 (a : Int), intA .u32 (b : Int), No, intA .u32 (a : Int), intA .u32 (b : Int), Yes], ⟨[], 0⟩⟩) (fun cf => by kernel_rfl) ?_
      refine ev_ret ?_
      refine leaf (r0 := J 1) (r1 := J 1) (.inr rfl) (by kernel_rfl) (by kernel_rfl) ?_
      unfold cmpV
      rw [if_neg (by omega), if_pos (by omega)]
  ·
    have hb1' := of_decide_eq_true hb1
    refine ev_true (by kernel_rfl) ?_
    refine ev_seq ?_
    refine ev_reg (by kernel_rfl) ?_
    refine rs_all (s1 := ⟨[intA .u32 (a : Int), intA .u32 (b : Int), U, U, J (-1), No, No, intA .u32 (a : Int), No, intA .u32 (b : Int), No, No, U, No, intA .u32 (a : Int), intA .u32 (b : Int), Yes] ++ us 3, ⟨[], 0⟩⟩) (fun cf => by kernel_rfl) ?_
    refine ev_ret ?_
    refine leaf (r0 := J (-1)) (r1 := J (-1)) (.inr rfl) (by kernel_rfl) (by kernel_rfl) ?_
    unfold cmpV
    rw [if_pos (by omega)]
noncomputable def pcmpC : Code := (lft (lft (rgt (lft (rgt (rgt (Try.f71.body.getD .skip)))))))
theorem pcmp_round {K : Out → St → Prop} {a b : List Nat} {x y : D} {i : Nat} (x7 x8 x9 x10 x11 x12 x13 x14 x15 x16 x17 : AV) (hx : Ws a x) (hy : Ws b y) (hi : i < a.length) (hj : b.length = a.length) (hl : a.length < 1000000000) (z5 z6 z20 z21 z22 z23 z24 z25 z26 z27 z28 z29 z30 z31 z32 z33 z34 z35 z36 z37 z38 z39 z40 z41 z42 z43 z44 z45 : AV) (h0 : a.getD ((a.length - 1) - i) 0 ≠ b.getD ((a.length - 1) - i) 0 → ∀ z5 z6 z20 z21 z22 z23 z24 z25 z26 z27 z28 z29 z30 z31 z32 z33 z34 z35 z36 z37 z38 z39 z40 z41 z42 z43 z44 z45, K .ret ⟨[.d x, .d y, U, U, J (cmpV (a.getD ((a.length - 1) - i) 0) (b.getD ((a.length - 1) - i) 0)), z5, z6, x7, x8, x9, x10, x11, x12, x13, x14, x15, x16, x17, J (a.length : Int), J (i : Int), z20, z21, z22, z23, z24, z25, z26, z27, z28, z29, z30, z31, z32, z33, z34, z35, z36, z37, z38, z39, z40, z41, z42, z43, z44, z45], ⟨[], 0⟩⟩) (h2 : a.getD ((a.length - 1) - i) 0 = b.getD ((a.length - 1) - i) 0 → ∀ z5 z6 z20 z21 z22 z23 z24 z25 z26 z27 z28 z29 z30 z31 z32 z33 z34 z35 z36 z37 z38 z39 z40 z41 z42 z43 z44 z45, EvK Try.cx 71 (.loop pcmpC) ⟨[.d x, .d y, U, U, J 0, z5, z6, x7, x8, x9, x10, x11, x12, x13, x14, x15, x16, x17, J (a.length : Int), J ((i + 1 : Nat) : Int), z20, z21, z22, z23, z24, z25, z26, z27, z28, z29, z30, z31, z32, z33, z34, z35, z36, z37, z38, z39, z40, z41, z42, z43, z44, z45], ⟨[], 0⟩⟩ K) : EvK Try.cx 71 (.loop pcmpC) ⟨[.d x, .d y, U, U, J 0, z5, z6, x7, x8, x9, x10, x11, x12, x13, x14, x15, x16, x17, J (a.length : Int), J (i : Int), z20, z21, z22, z23, z24, z25, z26, z27, z28, z29, z30, z31, z32, z33, z34, z35, z36, z37, z38, z39, z40, z41, z42, z43, z44, z45], ⟨[], 0⟩⟩ K := by
  refine ev_loop ?_
  refine ev_seq ?_
  refine ev_reg (by kernel_rfl) ?_
  refine rs_all (s1 := ⟨[.d x, .d y, U, U, J 0, z5, z6, x7, x8, x9, x10, x11, x12, x13, x14, x15, x16, x17, J (a.length : Int), J (i : Int), boolA (decide ((i : Int) < (a.length : Int))), z21, z22, z23, z24, z25, z26, z27, z28, z29, z30, z31, z32, z33, z34, z35, z36, z37, z38, z39, z40, z41, z42, z43, z44, z45], ⟨[], 0⟩⟩) (fun cf => by kernel_rfl) ?_
  refine ev_seq ?_
  rcases hb1 : ((decide ((i : Int) < (a.length : Int))) : Bool) with _ | _
  ·
    have hb1' := of_decide_eq_false hb1
    refine ev_false (by kernel_rfl) ?_
    refine ev_exit ?_
    exact absurd hi (by omega)
  ·
    have hb1' := of_decide_eq_true hb1
    refine ev_true (by kernel_rfl) ?_
    refine ev_skip ?_
    refine ev_seq ?_
    refine ev_block ?_
    refine ev_seq ?_
    refine ev_reg (by kernel_rfl) ?_
    refine rs_alu [(5, J (i : Int)), (21, J (i : Int))] (fun cf => by kernel_rfl) ?_
    refine ev_seq ?_
    refine ev_reg (by kernel_rfl) ?_
    refine rs_up 1 [(22, .d x)] (fun cf => by kernel_rfl) ?_
    refine rs_cl (fun m9 => lenA Try.cx 83 m9 (.d x)) (some 23) (a.length) (fun cf => by kernel_rfl) (len_wsN hx) ?_
    refine rs_up 1 [(24, J (IntKind.wrap .i64 ((a.length : Int) - 1)))] (fun cf => by kernel_rfl) ?_
    rw [subI (a := (a.length : Int)) (b := 1) (A := a.length) (B := 1) (by rfl) (by rfl) (by omega)]
    refine rs_up 2 [(25, J (i : Int)), (26, J (IntKind.wrap .i64 (((a.length - 1 : Nat) : Int) - (i : Int))))] (fun cf => by kernel_rfl) ?_
    rw [subI (a := ((a.length - 1 : Nat) : Int)) (b := (i : Int)) (A := a.length - 1) (B := i) (by rfl) (by rfl) (by omega)]
    refine rs_alu [(6, J (((a.length - 1) - i : Nat) : Int))] (fun cf => by kernel_rfl) ?_
    refine ev_seq ?_
    refine ev_reg (by kernel_rfl) ?_
    refine rs_up 2 [(27, .d x), (28, J (((a.length - 1) - i : Nat) : Int))] (fun cf => by kernel_rfl) ?_
    refine rs_cv (fun m9 => indexAddrA Try.cx 83 m9 (.d x) (J (((a.length - 1) - i : Nat) : Int))) (some 29) (.rp [.v (.int .u32 ((a.getD ((a.length - 1) - i) 0 : Nat) : Int))]) (fun cf => by kernel_rfl) (idx_wsN (k := (a.length - 1) - i) hx (by rfl) (by omega)) ?_
    refine rs_up 3 [(30, intA .u32 ((a.getD ((a.length - 1) - i) 0 : Nat) : Int)), (31, .d y), (32, J (((a.length - 1) - i : Nat) : Int))] (fun cf => by kernel_rfl) ?_
    refine rs_cv (fun m9 => indexAddrA Try.cx 83 m9 (.d y) (J (((a.length - 1) - i : Nat) : Int))) (some 33) (.rp [.v (.int .u32 ((b.getD ((a.length - 1) - i) 0 : Nat) : Int))]) (fun cf => by kernel_rfl) (idx_wsN (k := (a.length - 1) - i) hy (by rfl) (by omega)) ?_
    refine rs_alu [(34, intA .u32 ((b.getD ((a.length - 1) - i) 0 : Nat) : Int)), (35, boolA (((a.getD ((a.length - 1) - i) 0 : Nat) : Int) != ((b.getD ((a.length - 1) - i) 0 : Nat) : Int)))] (fun cf => by kernel_rfl) ?_
    rcases hb2 : ((((a.getD ((a.length - 1) - i) 0 : Nat) : Int) != ((b.getD ((a.length - 1) - i) 0 : Nat) : Int)) : Bool) with _ | _
    ·
      have hb2' := bne_no hb2
      refine ev_false (by kernel_rfl) ?_
      refine ev_skip ?_
      refine ev_reg (by kernel_rfl) ?_
      refine rs_up 1 [(45, J (IntKind.wrap .i64 ((i : Int) + 1)))] (fun cf => by kernel_rfl) ?_
      rw [addI (a := (i : Int)) (b := 1) (A := i) (B := 1) (by rfl) (by rfl) (by omega)]
      refine rs_all (s1 := ⟨[.d x, .d y, U, U, J 0, J (i : Int), J (((a.length - 1) - i : Nat) : Int), x7, x8, x9, x10, x11, x12, x13, x14, x15, x16, x17, J (a.length : Int), J ((i + 1 : Nat) : Int), Yes, J (i : Int), .d x, J (a.length : Int), J ((a.length - 1 : Nat) : Int), J (i : Int), J (((a.length - 1) - i : Nat) : Int), .d x, J (((a.length - 1) - i : Nat) : Int), .rp [.v (.int .u32 ((a.getD ((a.length - 1) - i) 0 : Nat) : Int))], intA .u32 ((a.getD ((a.length - 1) - i) 0 : Nat) : Int), .d y, J (((a.length - 1) - i : Nat) : Int), .rp [.v (.int .u32 ((b.getD ((a.length - 1) - i) 0 : Nat) : Int))], intA .u32 ((b.getD ((a.length - 1) - i) 0 : Nat) : Int), No, z36, z37, z38, z39, z40, z41, z42, z43, z44, J ((i + 1 : Nat) : Int)], ⟨[], 0⟩⟩) (fun cf => by kernel_rfl) ?_
      exact h2 (by omega) _ _ _ _ _ _ _ _ _ _ _ _ _ _ _ _ _ _ _ _ _ _ _ _ _ _ _ _
    ·
      have hb2' := bne_yes hb2
      refine ev_true (by kernel_rfl) ?_
      refine ev_seq ?_
      refine ev_reg (by kernel_rfl) ?_
      refine rs_up 2 [(36, .d x), (37, J (((a.length - 1) - i : Nat) : Int))] (fun cf => by kernel_rfl) ?_
      refine rs_cv (fun m9 => indexAddrA Try.cx 83 m9 (.d x) (J (((a.length - 1) - i : Nat) : Int))) (some 38) (.rp [.v (.int .u32 ((a.getD ((a.length - 1) - i) 0 : Nat) : Int))]) (fun cf => by kernel_rfl) (idx_wsN (k := (a.length - 1) - i) hx (by rfl) (by omega)) ?_
      refine rs_up 3 [(39, intA .u32 ((a.getD ((a.length - 1) - i) 0 : Nat) : Int)), (40, .d y), (41, J (((a.length - 1) - i : Nat) : Int))] (fun cf => by kernel_rfl) ?_
      refine rs_cv (fun m9 => indexAddrA Try.cx 83 m9 (.d y) (J (((a.length - 1) - i : Nat) : Int))) (some 42) (.rp [.v (.int .u32 ((b.getD ((a.length - 1) - i) 0 : Nat) : Int))]) (fun cf => by kernel_rfl) (idx_wsN (k := (a.length - 1) - i) hy (by rfl) (by omega)) ?_
      refine rs_up 1 [(43, intA .u32 ((b.getD ((a.length - 1) - i) 0 : Nat) : Int))] (fun cf => by kernel_rfl) ?_
      refine rs_cp 91 [intA .u32 ((a.getD ((a.length - 1) - i) 0 : Nat) : Int), intA .u32 ((b.getD ((a.length - 1) - i) 0 : Nat) : Int)] false (some 44) (J (cmpV (a.getD ((a.length - 1) - i) 0) (b.getD ((a.length - 1) - i) 0))) (by kernel_rfl) (p_cmp_uint32) (by kernel_rfl) ?_
      refine rs_all (s1 := ⟨[.d x, .d y, U, U, J (cmpV (a.getD ((a.length - 1) - i) 0) (b.getD ((a.length - 1) - i) 0)), J (i : Int), J (((a.length - 1) - i : Nat) : Int), x7, x8, x9, x10, x11, x12, x13, x14, x15, x16, x17, J (a.length : Int), J (i : Int), Yes, J (i : Int), .d x, J (a.length : Int), J ((a.length - 1 : Nat) : Int), J (i : Int), J (((a.length - 1) - i : Nat) : Int), .d x, J (((a.length - 1) - i : Nat) : Int), .rp [.v (.int .u32 ((a.getD ((a.length - 1) - i) 0 : Nat) : Int))], intA .u32 ((a.getD ((a.length - 1) - i) 0 : Nat) : Int), .d y, J (((a.length - 1) - i : Nat) : Int), .rp [.v (.int .u32 ((b.getD ((a.length - 1) - i) 0 : Nat) : Int))], intA .u32 ((b.getD ((a.length - 1) - i) 0 : Nat) : Int), Yes, .d x, J (((a.length - 1) - i : Nat) : Int), .rp [.v (.int .u32 ((a.getD ((a.length - 1) - i) 0 : Nat) : Int))], intA .u32 ((a.getD ((a.length - 1) - i) 0 : Nat) : Int), .d y, J (((a.length - 1) - i : Nat) : Int), .rp [.v (.int .u32 ((b.getD ((a.length - 1) - i) 0 : Nat) : Int))], intA .u32 ((b.getD ((a.length - 1) - i) 0 : Nat) : Int), J (cmpV (a.getD ((a.length - 1) - i) 0) (b.getD ((a.length - 1) - i) 0)), z45], ⟨[], 0⟩⟩) (fun cf => by kernel_rfl) ?_
      refine ev_ret ?_
      exact h0 (by omega) _ _ _ _ _ _ _ _ _ _ _ _ _ _ _ _ _ _ _ _ _ _ _ _ _ _ _ _
theorem pcmp_stop {K : Out → St → Prop} {a b : List Nat} {x y : D} (x7 x8 x9 x10 x11 x12 x13 x14 x15 x16 x17 : AV) (hl : a.length < 1000000000) (z5 z6 z20 z21 z22 z23 z24 z25 z26 z27 z28 z29 z30 z31 z32 z33 z34 z35 z36 z37 z38 z39 z40 z41 z42 z43 z44 z45 : AV) (h : ∀ z5 z6 z20 z21 z22 z23 z24 z25 z26 z27 z28 z29 z30 z31 z32 z33 z34 z35 z36 z37 z38 z39 z40 z41 z42 z43 z44 z45, K (.exit 0) ⟨[.d x, .d y, U, U, J 0, z5, z6, x7, x8, x9, x10, x11, x12, x13, x14, x15, x16, x17, J (a.length : Int), J (a.length : Int), z20, z21, z22, z23, z24, z25, z26, z27, z28, z29, z30, z31, z32, z33, z34, z35, z36, z37, z38, z39, z40, z41, z42, z43, z44, z45], ⟨[], 0⟩⟩) : EvK Try.cx 71 (.loop pcmpC) ⟨[.d x, .d y, U, U, J 0, z5, z6, x7, x8, x9, x10, x11, x12, x13, x14, x15, x16, x17, J (a.length : Int), J (a.length : Int), z20, z21, z22, z23, z24, z25, z26, z27, z28, z29, z30, z31, z32, z33, z34, z35, z36, z37, z38, z39, z40, z41, z42, z43, z44, z45], ⟨[], 0⟩⟩ K := by
  refine ev_loop ?_
  refine ev_seq ?_
  refine ev_reg (by kernel_rfl) ?_
  refine rs_up 1 [(20, boolA (decide ((a.length : Int) < (a.length : Int))))] (fun cf => by kernel_rfl) ?_
  rw [(show decide ((a.length : Int) < (a.length : Int)) = false from decide_eq_false (by omega))]
  refine rs_all (s1 := ⟨[.d x, .d y, U, U, J 0, z5, z6, x7, x8, x9, x10, x11, x12, x13, x14, x15, x16, x17, J (a.length : Int), J (a.length : Int), No, z21, z22, z23, z24, z25, z26, z27, z28, z29, z30, z31, z32, z33, z34, z35, z36, z37, z38, z39, z40, z41, z42, z43, z44, z45], ⟨[], 0⟩⟩) (fun cf => by kernel_rfl) ?_
  refine ev_seq ?_
  refine ev_false (by kernel_rfl) ?_
  refine ev_exit ?_
  exact h _ _ _ _ _ _ _ _ _ _ _ _ _ _ _ _ _ _ _ _ _ _ _ _ _ _ _ _
theorem cmpV_ne {a b : Nat} (h : a ≠ b) : ∀ l m n, l.getD n 0 = a → m.getD n 0 = b → cmpN l m (n + 1) = cmpV a b := by
  intro l m n h1 h2
  simp only [cmpN, h1, h2]
  unfold cmpV
  by_cases h3 : a < b
  · rw [if_pos h3, if_pos h3]
  · rw [if_neg h3, if_neg h3, if_pos (by omega), if_pos (by omega)]
theorem cmpN_eq {l m : List Nat} {n : Nat} (h : l.getD n 0 = m.getD n 0) : cmpN l m (n + 1) = cmpN l m n := by
  simp only [cmpN, h]
  rw [if_neg (by omega), if_neg (by omega)]
theorem pcmp_loop {K : Out → St → Prop} {a b : List Nat} {x y : D} (x7 x8 x9 x10 x11 x12 x13 x14 x15 x16 x17 : AV) (hx : Ws a x) (hy : Ws b y) (he : b.length = a.length) (hl : a.length < 1000000000)
    (hm : ∀ (e : Int) (z5 z6 z20 z21 z22 z23 z24 z25 z26 z27 z28 z29 z30 z31 z32 z33 z34 z35 z36 z37 z38 z39 z40 z41 z42 z43 z44 z45 : AV), K .ret ⟨[.d x, .d y, U, U, J (cmpN a b a.length), z5, z6, x7, x8, x9, x10, x11, x12, x13, x14, x15, x16, x17, J (a.length : Int), J e, z20, z21, z22, z23, z24, z25, z26, z27, z28, z29, z30, z31, z32, z33, z34, z35, z36, z37, z38, z39, z40, z41, z42, z43, z44, z45], ⟨[], 0⟩⟩) (hz : ∀ (z5 z6 z20 z21 z22 z23 z24 z25 z26 z27 z28 z29 z30 z31 z32 z33 z34 z35 z36 z37 z38 z39 z40 z41 z42 z43 z44 z45 : AV), cmpN a b a.length = 0 → K (.exit 0) ⟨[.d x, .d y, U, U, J 0, z5, z6, x7, x8, x9, x10, x11, x12, x13, x14, x15, x16, x17, J (a.length : Int), J (a.length : Int), z20, z21, z22, z23, z24, z25, z26, z27, z28, z29, z30, z31, z32, z33, z34, z35, z36, z37, z38, z39, z40, z41, z42, z43, z44, z45], ⟨[], 0⟩⟩) :
    ∀ (n i : Nat) (z5 z6 z20 z21 z22 z23 z24 z25 z26 z27 z28 z29 z30 z31 z32 z33 z34 z35 z36 z37 z38 z39 z40 z41 z42 z43 z44 z45 : AV) (hn : n + i = a.length) (hc : cmpN a b n = cmpN a b a.length), EvK Try.cx 71 (.loop pcmpC) ⟨[.d x, .d y, U, U, J 0, z5, z6, x7, x8, x9, x10, x11, x12, x13, x14, x15, x16, x17, J (a.length : Int), J (i : Int), z20, z21, z22, z23, z24, z25, z26, z27, z28, z29, z30, z31, z32, z33, z34, z35, z36, z37, z38, z39, z40, z41, z42, z43, z44, z45], ⟨[], 0⟩⟩ K
  | 0, i, z5, z6, z20, z21, z22, z23, z24, z25, z26, z27, z28, z29, z30, z31, z32, z33, z34, z35, z36, z37, z38, z39, z40, z41, z42, z43, z44, z45, hn, hc => by
    obtain rfl : i = a.length := by omega
    exact pcmp_stop (a := a) (b := b) (x := x) (y := y) x7 x8 x9 x10 x11 x12 x13 x14 x15 x16 x17 hl z5 z6 z20 z21 z22 z23 z24 z25 z26 z27 z28 z29 z30 z31 z32 z33 z34 z35 z36 z37 z38 z39 z40 z41 z42 z43 z44 z45 fun z5 z6 z20 z21 z22 z23 z24 z25 z26 z27 z28 z29 z30 z31 z32 z33 z34 z35 z36 z37 z38 z39 z40 z41 z42 z43 z44 z45 => hz z5 z6 z20 z21 z22 z23 z24 z25 z26 z27 z28 z29 z30 z31 z32 z33 z34 z35 z36 z37 z38 z39 z40 z41 z42 z43 z44 z45 hc.symm
  | n + 1, i, z5, z6, z20, z21, z22, z23, z24, z25, z26, z27, z28, z29, z30, z31, z32, z33, z34, z35, z36, z37, z38, z39, z40, z41, z42, z43, z44, z45, hn, hc => by
    have hk : a.length - 1 - i = n := by omega
    refine pcmp_round x7 x8 x9 x10 x11 x12 x13 x14 x15 x16 x17 hx hy (by omega) he hl z5 z6 z20 z21 z22 z23 z24 z25 z26 z27 z28 z29 z30 z31 z32 z33 z34 z35 z36 z37 z38 z39 z40 z41 z42 z43 z44 z45 (fun h z5 z6 z20 z21 z22 z23 z24 z25 z26 z27 z28 z29 z30 z31 z32 z33 z34 z35 z36 z37 z38 z39 z40 z41 z42 z43 z44 z45 => ?_) fun h z5 z6 z20 z21 z22 z23 z24 z25 z26 z27 z28 z29 z30 z31 z32 z33 z34 z35 z36 z37 z38 z39 z40 z41 z42 z43 z44 z45 => ?_
    · rw [hk] at h
      have h1 := cmpV_ne h a b n rfl rfl
      have h2 := hm i z5 z6 z20 z21 z22 z23 z24 z25 z26 z27 z28 z29 z30 z31 z32 z33 z34 z35 z36 z37 z38 z39 z40 z41 z42 z43 z44 z45
      rw [← hc, h1, ← hk] at h2
      exact h2
    · rw [hk] at h
      exact pcmp_loop x7 x8 x9 x10 x11 x12 x13 x14 x15 x16 x17 hx hy he hl hm hz n (i + 1) z5 z6 z20 z21 z22 z23 z24 z25 z26 z27 z28 z29 z30 z31 z32 z33 z34 z35 z36 z37 z38 z39 z40 z41 z42 z43 z44 z45 (by omega) ((cmpN_eq h).symm.trans hc)
theorem p_cmp {a b : List Nat} {x y : D} (hx : Ws a x) (hy : Ws b y) (hl : a.length < 1000000000) : Gets Try.cx 71 [.d x, .d y] (J (cmpL a b)) := by
  refine gets_of (fn := Try.f71) (by kernel_rfl) rfl ?_
  show EvK _ _ _ ⟨[.d x, .d y] ++ us 44, ⟨[], 0⟩⟩ _
  refine ev_seq ?_
  refine ev_reg (by kernel_rfl) ?_
  refine rs_alu [(4, J 0)] (fun cf => by kernel_rfl) ?_
  refine ev_seq ?_
  refine ev_seq ?_
  refine ev_reg (by kernel_rfl) ?_
  refine rs_up 1 [(7, .d x)] (fun cf => by kernel_rfl) ?_
  refine rs_cl (fun m9 => lenA Try.cx 83 m9 (.d x)) (some 8) (a.length) (fun cf => by kernel_rfl) (len_wsN hx) ?_
  refine rs_up 1 [(9, .d y)] (fun cf => by kernel_rfl) ?_
  refine rs_cl (fun m9 => lenA Try.cx 83 m9 (.d y)) (some 10) (b.length) (fun cf => by kernel_rfl) (len_wsN hy) ?_
  refine rs_alu [(11, boolA ((a.length : Int) != (b.length : Int)))] (fun cf => by kernel_rfl) ?_
  rcases hb1 : (((a.length : Int) != (b.length : Int)) : Bool) with _ | _
  ·
    have hb1' := bne_no hb1
    refine ev_false (by kernel_rfl) ?_
    refine ev_skip ?_
    refine ev_seq ?_
    refine ev_seq ?_
    refine ev_reg (by kernel_rfl) ?_
    refine rs_up 1 [(17, .d x)] (fun cf => by kernel_rfl) ?_
    refine rs_cl (fun m9 => lenA Try.cx 83 m9 (.d x)) (some 18) (a.length) (fun cf => by kernel_rfl) (len_wsN hx) ?_
    refine rs_all (s1 := ⟨[.d x, .d y, U, U, J 0, U, U, .d x, J (a.length : Int), .d y, J (b.length : Int), No] ++ us 5 ++ [.d x, J (a.length : Int), J 0] ++ us 26, ⟨[], 0⟩⟩) (fun cf => by kernel_rfl) ?_
    refine ev_block ?_
    have he : b.length = a.length := by omega
    have hcl : cmpL a b = cmpN a b a.length := by unfold cmpL; rw [if_neg (by omega), if_neg (by omega)]
    refine pcmp_loop _ _ _ _ _ _ _ _ _ _ _ hx hy he hl (fun e v5 v6 v20 v21 v22 v23 v24 v25 v26 v27 v28 v29 v30 v31 v32 v33 v34 v35 v36 v37 v38 v39 v40 v41 v42 v43 v44 v45 => ?_) (fun v5 v6 v20 v21 v22 v23 v24 v25 v26 v27 v28 v29 v30 v31 v32 v33 v34 v35 v36 v37 v38 v39 v40 v41 v42 v43 v44 v45 hr => ?_) a.length 0 _ _ _ _ _ _ _ _ _ _ _ _ _ _ _ _ _ _ _ _ _ _ _ _ _ _ _ _ (by omega) rfl
    ·
      refine leaf (r0 := J (cmpN a b a.length)) (r1 := J (cmpN a b a.length)) (.inr rfl) (by kernel_rfl) (by kernel_rfl) ?_
      rw [hcl]
    ·
      refine ev_seq ?_
      refine ev_reg (by kernel_rfl) ?_
      refine rs_all (s1 := ⟨[.d x, .d y, U, U, J 0, v5, v6, .d x, J (a.length : Int), .d y, J (b.length : Int), No] ++ us 5 ++ [.d x, J (a.length : Int), J (a.length : Int), v20, v21, v22, v23, v24, v25, v26, v27, v28, v29, v30, v31, v32, v33, v34, v35, v36, v37, v38, v39, v40, v41, v42, v43, v44, v45], ⟨[], 0⟩⟩) (fun cf => by kernel_rfl) ?_
      refine ev_ret ?_
      refine leaf (r0 := J 0) (r1 := J 0) (.inr rfl) (by kernel_rfl) (by kernel_rfl) ?_
      rw [hcl, hr]
  ·
    have hb1' := bne_yes hb1
    refine ev_true (by kernel_rfl) ?_
    refine ev_seq ?_
    refine ev_reg (by kernel_rfl) ?_
    refine rs_up 1 [(12, .d x)] (fun cf => by kernel_rfl) ?_
    refine rs_cl (fun m9 => lenA Try.cx 83 m9 (.d x)) (some 13) (a.length) (fun cf => by kernel_rfl) (len_wsN hx) ?_
    refine rs_up 1 [(14, .d y)] (fun cf => by kernel_rfl) ?_
    refine rs_cl (fun m9 => lenA Try.cx 83 m9 (.d y)) (some 15) (b.length) (fun cf => by kernel_rfl) (len_wsN hy) ?_
    refine rs_cp 78 [J (a.length : Int), J (b.length : Int)] false (some 16) (J (cmpV a.length b.length)) (by kernel_rfl) (p_cmp_int) (by kernel_rfl) ?_
    refine rs_all (s1 := ⟨[.d x, .d y, U, U, J (cmpV a.length b.length), U, U, .d x, J (a.length : Int), .d y, J (b.length : Int), Yes, .d x, J (a.length : Int), .d y, J (b.length : Int), J (cmpV a.length b.length)] ++ us 29, ⟨[], 0⟩⟩) (fun cf => by kernel_rfl) ?_
    refine ev_ret ?_
    refine leaf (r0 := J (cmpV a.length b.length)) (r1 := J (cmpV a.length b.length)) (.inr rfl) (by kernel_rfl) (by kernel_rfl) ?_
    show J _ = J _
    unfold cmpL cmpV
    congr 1
    by_cases h1 : a.length < b.length
    · rw [if_pos h1, if_pos h1]
    · rw [if_neg h1, if_neg h1, if_pos (by omega), if_pos (by omega)]
end Go.Proofs.Ytgkjdfojogemhaa.W
