/-
  The program: quotients of words by one word. Made by program. Conditions: none.
-/
import Derived.Test.YtgkjdfojogemhaaWne
set_option maxRecDepth 100000
set_option maxHeartbeats 20000000
set_option linter.unusedSimpArgs false
set_option linter.unusedVariables false
namespace Go.Proofs.Ytgkjdfojogemhaa.W
open Go.Am
theorem p_div32 {r t d : Nat} (hr : r < d) (ht : t < 4294967296) (hd : d < 4294967296) : Gets Try.cx 103 [intA .u32 (r : Int), intA .u32 (t : Int), intA .u32 (d : Int)] (.tu [intA .u32 ((((r * 4294967296 + t) / d : Nat)) : Int), intA .u32 (((r * 4294967296 + t) % d : Nat) : Int)]) := by
  refine gets_of (fn := Try.f103) (by kernel_rfl) rfl ?_
  show EvK _ _ _ ⟨[intA .u32 (r : Int), intA .u32 (t : Int), intA .u32 (d : Int)] ++ us 30, ⟨[], 0⟩⟩ _
  refine ev_seq ?_
  refine ev_reg (by kernel_rfl) ?_
  refine rs_alu [(6, intA .u32 0), (7, intA .u32 0)] (fun cf => by kernel_rfl) ?_
  refine ev_seq ?_
  refine ev_seq ?_
  refine ev_reg (by kernel_rfl) ?_
  refine rs_up 2 [(9, intA .u32 (d : Int)), (10, boolA ((d : Int) != 0))] (fun cf => by kernel_rfl) ?_
  rw [(show ((d : Int) != 0) = true from by simp; omega)]
  refine rs_up 4 [(11, Yes), (12, intA .u32 (d : Int)), (13, intA .u32 (r : Int)), (14, boolA (decide ((d : Int) ≤ (r : Int))))] (fun cf => by kernel_rfl) ?_
  rw [(show decide ((d : Int) ≤ (r : Int)) = false from decide_eq_false (by omega))]
  refine rs_alu [(15, No)] (fun cf => by kernel_rfl) ?_
  refine ev_false (by kernel_rfl) ?_
  refine ev_skip ?_
  refine ev_seq ?_
  refine ev_reg (by kernel_rfl) ?_
  refine rs_up 2 [(17, intA .u32 (r : Int)), (18, intA .u64 (IntKind.wrap .u64 (r : Int)))] (fun cf => by kernel_rfl) ?_
  rw [wrapU (n := r) (by omega)]
  refine rs_up 1 [(19, intA .u64 (IntKind.wrap .u64 ((r : Int) * 2 ^ 32)))] (fun cf => by kernel_rfl) ?_
  rw [shlU (A := r) (k := 32) (by rfl) (by rfl) (by omega)]
  refine rs_up 2 [(20, intA .u32 (t : Int)), (21, intA .u64 (IntKind.wrap .u64 (t : Int)))] (fun cf => by kernel_rfl) ?_
  rw [wrapU (n := t) (by omega)]
  refine rs_up 1 [(22, intA .u64 (IntKind.wrap .u64 (BitVec.ofInt (IntKind.bits .u64) ((r * 4294967296 : Nat) : Int) ||| BitVec.ofInt (IntKind.bits .u64) (t : Int)).toNat))] (fun cf => by kernel_rfl) ?_
  rw [orU (A := r) (B := t) (by rfl) (by rfl) (⟨by omega, by omega⟩)]
  refine rs_alu [(8, intA .u64 (((r * 4294967296) + t : Nat) : Int))] (fun cf => by kernel_rfl) ?_
  refine ev_seq ?_
  refine ev_reg (by kernel_rfl) ?_
  refine rs_up 3 [(23, intA .u64 (((r * 4294967296) + t : Nat) : Int)), (24, intA .u32 (d : Int)), (25, intA .u64 (IntKind.wrap .u64 (d : Int)))] (fun cf => by kernel_rfl) ?_
  rw [wrapU (n := d) (by omega)]
  refine rs_cv (fun m9 => binA Try.cx m9 .quo 23 (intA .u64 (((r * 4294967296) + t : Nat) : Int)) (intA .u64 (d : Int))) (some 26) (intA .u64 ((((r * 4294967296) + t) / d : Nat) : Int)) (fun cf => by kernel_rfl) (quoU_at (A := (r * 4294967296) + t) (P := d) (by rfl) (by rfl) (⟨by omega, by omega⟩)) ?_
  refine rs_up 1 [(27, intA .u32 (IntKind.wrap .u32 ((((r * 4294967296) + t) / d : Nat) : Int)))] (fun cf => by kernel_rfl) ?_
  rw [wrapW (n := ((r * 4294967296) + t) / d) (sh_digit hr ht)]
  refine rs_up 3 [(28, intA .u64 (((r * 4294967296) + t : Nat) : Int)), (29, intA .u32 (d : Int)), (30, intA .u64 (IntKind.wrap .u64 (d : Int)))] (fun cf => by kernel_rfl) ?_
  rw [wrapU (n := d) (by omega)]
  refine rs_cv (fun m9 => binA Try.cx m9 .rem 23 (intA .u64 (((r * 4294967296) + t : Nat) : Int)) (intA .u64 (d : Int))) (some 31) (intA .u64 ((((r * 4294967296) + t) % d : Nat) : Int)) (fun cf => by kernel_rfl) (remU_at (A := (r * 4294967296) + t) (P := d) (by rfl) (by rfl) (by omega)) ?_
  refine rs_up 1 [(32, intA .u32 (IntKind.wrap .u32 ((((r * 4294967296) + t) % d : Nat) : Int)))] (fun cf => by kernel_rfl) ?_
  rw [wrapW (n := ((r * 4294967296) + t) % d) (by have := Nat.mod_lt (r * 4294967296 + t) (show 0 < d by omega); omega)]
  refine rs_all (s1 := ⟨[intA .u32 (r : Int), intA .u32 (t : Int), intA .u32 (d : Int)] ++ us 3 ++ [intA .u32 ((((r * 4294967296) + t) / d : Nat) : Int), intA .u32 ((((r * 4294967296) + t) % d : Nat) : Int), intA .u64 (((r * 4294967296) + t : Nat) : Int), intA .u32 (d : Int), Yes, Yes, intA .u32 (d : Int), intA .u32 (r : Int), No, No, U, intA .u32 (r : Int), intA .u64 (r : Int), intA .u64 ((r * 4294967296 : Nat) : Int), intA .u32 (t : Int), intA .u64 (t : Int), intA .u64 (((r * 4294967296) + t : Nat) : Int), intA .u64 (((r * 4294967296) + t : Nat) : Int), intA .u32 (d : Int), intA .u64 (d : Int), intA .u64 ((((r * 4294967296) + t) / d : Nat) : Int), intA .u32 ((((r * 4294967296) + t) / d : Nat) : Int), intA .u64 (((r * 4294967296) + t : Nat) : Int), intA .u32 (d : Int), intA .u64 (d : Int), intA .u64 ((((r * 4294967296) + t) % d : Nat) : Int), intA .u32 ((((r * 4294967296) + t) % d : Nat) : Int)], ⟨[], 0⟩⟩) (fun cf => by kernel_rfl) ?_
  refine ev_ret ?_
  refine leaf (r0 := .tu [intA .u32 ((((r * 4294967296) + t) / d : Nat) : Int), intA .u32 ((((r * 4294967296) + t) % d : Nat) : Int)]) (r1 := .tu [intA .u32 ((((r * 4294967296) + t) / d : Nat) : Int), intA .u32 ((((r * 4294967296) + t) % d : Nat) : Int)]) (.inr rfl) (by kernel_rfl) (by kernel_rfl) ?_
  rfl
noncomputable def wordC : Code := (lft (lft (rgt (lft (rgt (rgt (rgt (Try.f93.body.getD .skip))))))))
theorem word_round {K : Out → St → Prop} {a o : List Nat} {x : D} {d i r : Nat} (x10 x11 x12 x13 : AV) (hx : Ws a x) (ha : Ok a) (hn : a.length < 1000000000) (ho : o.length = a.length) (hr : r < d) (hd : d < 4294967296) (hi : i < a.length) (z8 z9 z16 z17 z18 z19 z20 z21 z22 z23 z24 z25 z26 z27 z28 z29 z30 z31 z32 z33 z34 z35 z36 : AV) (h1 : ∀ z8 z9 z16 z17 z18 z19 z20 z21 z22 z23 z24 z25 z26 z27 z28 z29 z30 z31 z32 z33 z34 z35 z36, EvK Try.cx 93 (.loop wordC) ⟨[.d x, intA .u32 (d : Int), U, U, .d (.v (.slice none 0 0)), intA .u32 0, .own 0 0 0 a.length 1 (some a.length), intA .u32 (((r * 4294967296 + a.getD ((a.length - 1) - i) 0) % d : Nat) : Int), z8, z9, x10, x11, x12, x13, J (a.length : Int), J ((i + 1 : Nat) : Int), z16, z17, z18, z19, z20, z21, z22, z23, z24, z25, z26, z27, z28, z29, z30, z31, z32, z33, z34, z35, z36] ++ us 3, ⟨[.row (wa (o.set ((a.length - 1) - i) ((r * 4294967296 + a.getD ((a.length - 1) - i) 0) / d))) 0 .ow none], 1⟩⟩ K) : EvK Try.cx 93 (.loop wordC) ⟨[.d x, intA .u32 (d : Int), U, U, .d (.v (.slice none 0 0)), intA .u32 0, .own 0 0 0 a.length 1 (some a.length), intA .u32 (r : Int), z8, z9, x10, x11, x12, x13, J (a.length : Int), J (i : Int), z16, z17, z18, z19, z20, z21, z22, z23, z24, z25, z26, z27, z28, z29, z30, z31, z32, z33, z34, z35, z36] ++ us 3, ⟨[.row (wa (o)) 0 .ow none], 1⟩⟩ K := by
  refine ev_loop ?_
  refine ev_seq ?_
  refine ev_reg (by kernel_rfl) ?_
  refine rs_all (s1 := ⟨[.d x, intA .u32 (d : Int), U, U, .d (.v (.slice none 0 0)), intA .u32 0, .own 0 0 0 a.length 1 (some a.length), intA .u32 (r : Int), z8, z9, x10, x11, x12, x13, J (a.length : Int), J (i : Int), boolA (decide ((i : Int) < (a.length : Int))), z17, z18, z19, z20, z21, z22, z23, z24, z25, z26, z27, z28, z29, z30, z31, z32, z33, z34, z35, z36] ++ us 3, ⟨[.row (wa (o)) 0 .ow none], 1⟩⟩) (fun cf => by kernel_rfl) ?_
  refine ev_seq ?_
  rcases hb1 : ((decide ((i : Int) < (a.length : Int))) : Bool) with _ | _
  ·
    have hb1' := of_decide_eq_false hb1
    refine ev_false (by kernel_rfl) ?_
    refine ev_exit ?_
    omega
  ·
    have hb1' := of_decide_eq_true hb1
    refine ev_true (by kernel_rfl) ?_
    refine ev_skip ?_
    refine ev_seq ?_
    refine ev_block ?_
    refine ev_seq ?_
    refine ev_reg (by kernel_rfl) ?_
    refine rs_alu [(8, J (i : Int)), (17, J (i : Int))] (fun cf => by kernel_rfl) ?_
    refine ev_seq ?_
    refine ev_reg (by kernel_rfl) ?_
    refine rs_up 1 [(18, .d x)] (fun cf => by kernel_rfl) ?_
    refine rs_cl (fun m9 => lenA Try.cx 83 m9 (.d x)) (some 19) (a.length) (fun cf => by kernel_rfl) (len_wsN hx) ?_
    refine rs_up 1 [(20, J (IntKind.wrap .i64 ((a.length : Int) - 1)))] (fun cf => by kernel_rfl) ?_
    rw [subI (a := (a.length : Int)) (b := 1) (A := a.length) (B := 1) (by rfl) (by rfl) (by omega)]
    refine rs_up 2 [(21, J (i : Int)), (22, J (IntKind.wrap .i64 (((a.length - 1 : Nat) : Int) - (i : Int))))] (fun cf => by kernel_rfl) ?_
    rw [subI (a := ((a.length - 1 : Nat) : Int)) (b := (i : Int)) (A := a.length - 1) (B := i) (by rfl) (by rfl) (by omega)]
    refine rs_alu [(9, J (((a.length - 1) - i : Nat) : Int))] (fun cf => by kernel_rfl) ?_
    refine ev_reg (by kernel_rfl) ?_
    refine rs_up 5 [(24, .own 0 0 0 a.length 1 (some a.length)), (25, J (((a.length - 1) - i : Nat) : Int)), (26, intA .u32 (r : Int)), (27, .d x), (28, J (((a.length - 1) - i : Nat) : Int))] (fun cf => by kernel_rfl) ?_
    refine rs_cv (fun m9 => indexAddrA Try.cx 83 m9 (.d x) (J (((a.length - 1) - i : Nat) : Int))) (some 29) (.rp [.v (.int .u32 ((a.getD ((a.length - 1) - i) 0 : Nat) : Int))]) (fun cf => by kernel_rfl) (idx_wsN (k := (a.length - 1) - i) hx (by rfl) (by omega)) ?_
    refine rs_up 2 [(30, intA .u32 ((a.getD ((a.length - 1) - i) 0 : Nat) : Int)), (31, intA .u32 (d : Int))] (fun cf => by kernel_rfl) ?_
    refine rs_cp 103 [intA .u32 (r : Int), intA .u32 ((a.getD ((a.length - 1) - i) 0 : Nat) : Int), intA .u32 (d : Int)] false (some 32) (.tu [intA .u32 (((r * 4294967296 + (a.getD ((a.length - 1) - i) 0)) / d : Nat) : Int), intA .u32 (((r * 4294967296 + (a.getD ((a.length - 1) - i) 0)) % d : Nat) : Int)]) (by kernel_rfl) (p_div32 (r := r) (t := a.getD ((a.length - 1) - i) 0) (d := d) hr (ha _) hd) (by kernel_rfl) ?_
    refine rs_up 3 [(23, .tu [intA .u32 (((r * 4294967296 + (a.getD ((a.length - 1) - i) 0)) / d : Nat) : Int), intA .u32 (((r * 4294967296 + (a.getD ((a.length - 1) - i) 0)) % d : Nat) : Int)]), (33, intA .u32 (((r * 4294967296 + (a.getD ((a.length - 1) - i) 0)) / d : Nat) : Int)), (34, intA .u32 (((r * 4294967296 + (a.getD ((a.length - 1) - i) 0)) % d : Nat) : Int))] (fun cf => by kernel_rfl) ?_
    refine rs_cv (fun m9 => indexAddrA Try.cx 83 m9 (.own 0 0 0 a.length 1 (some a.length)) (J (((a.length - 1) - i : Nat) : Int))) (some 35) (.ptr 0 0 ((a.length - 1) - i)) (fun cf => by kernel_rfl) (idx_ownN (k := (a.length - 1) - i) (by rfl) (row_at rfl) (by omega)) ?_
    refine rs_cu (fun m9 => storeA Try.cx 22 m9 (.ptr 0 0 ((a.length - 1) - i)) (intA .u32 (((r * 4294967296 + (a.getD ((a.length - 1) - i) 0)) / d : Nat) : Int))) none ⟨[.row (wa (o.set ((a.length - 1) - i) ((r * 4294967296 + (a.getD ((a.length - 1) - i) 0)) / d))) 0 .ow none], 1⟩ (fun cf => by kernel_rfl) (store_own (v := (r * 4294967296 + (a.getD ((a.length - 1) - i) 0)) / d) rfl (by omega)) ?_
    refine rs_alu [(7, intA .u32 (((r * 4294967296 + (a.getD ((a.length - 1) - i) 0)) % d : Nat) : Int))] (fun cf => by kernel_rfl) ?_
    refine ev_reg (by kernel_rfl) ?_
    refine rs_up 1 [(36, J (IntKind.wrap .i64 ((i : Int) + 1)))] (fun cf => by kernel_rfl) ?_
    rw [addI (a := (i : Int)) (b := 1) (A := i) (B := 1) (by rfl) (by rfl) (by omega)]
    refine rs_all (s1 := ⟨[.d x, intA .u32 (d : Int), U, U, .d (.v (.slice none 0 0)), intA .u32 0, .own 0 0 0 a.length 1 (some a.length), intA .u32 (((r * 4294967296 + (a.getD ((a.length - 1) - i) 0)) % d : Nat) : Int), J (i : Int), J (((a.length - 1) - i : Nat) : Int), x10, x11, x12, x13, J (a.length : Int), J ((i + 1 : Nat) : Int), Yes, J (i : Int), .d x, J (a.length : Int), J ((a.length - 1 : Nat) : Int), J (i : Int), J (((a.length - 1) - i : Nat) : Int), .tu [intA .u32 (((r * 4294967296 + (a.getD ((a.length - 1) - i) 0)) / d : Nat) : Int), intA .u32 (((r * 4294967296 + (a.getD ((a.length - 1) - i) 0)) % d : Nat) : Int)], .own 0 0 0 a.length 1 (some a.length), J (((a.length - 1) - i : Nat) : Int), intA .u32 (r : Int), .d x, J (((a.length - 1) - i : Nat) : Int), .rp [.v (.int .u32 ((a.getD ((a.length - 1) - i) 0 : Nat) : Int))], intA .u32 ((a.getD ((a.length - 1) - i) 0 : Nat) : Int), intA .u32 (d : Int), .tu [intA .u32 (((r * 4294967296 + (a.getD ((a.length - 1) - i) 0)) / d : Nat) : Int), intA .u32 (((r * 4294967296 + (a.getD ((a.length - 1) - i) 0)) % d : Nat) : Int)], intA .u32 (((r * 4294967296 + (a.getD ((a.length - 1) - i) 0)) / d : Nat) : Int), intA .u32 (((r * 4294967296 + (a.getD ((a.length - 1) - i) 0)) % d : Nat) : Int), .ptr 0 0 ((a.length - 1) - i), J ((i + 1 : Nat) : Int)] ++ us 3, ⟨[.row (wa (o.set ((a.length - 1) - i) ((r * 4294967296 + (a.getD ((a.length - 1) - i) 0)) / d))) 0 .ow none], 1⟩⟩) (fun cf => by kernel_rfl) ?_
    exact h1 _ _ _ _ _ _ _ _ _ _ _ _ _ _ _ _ _ _ _ _ _ _ _
theorem word_stop {K : Out → St → Prop} {a o : List Nat} {x : D} {d r : Nat} (x10 x11 x12 x13 : AV)  (z8 z9 z16 z17 z18 z19 z20 z21 z22 z23 z24 z25 z26 z27 z28 z29 z30 z31 z32 z33 z34 z35 z36 : AV) (h : ∀ z8 z9 z16 z17 z18 z19 z20 z21 z22 z23 z24 z25 z26 z27 z28 z29 z30 z31 z32 z33 z34 z35 z36, K (.exit 0) ⟨[.d x, intA .u32 (d : Int), U, U, .d (.v (.slice none 0 0)), intA .u32 0, .own 0 0 0 a.length 1 (some a.length), intA .u32 (r : Int), z8, z9, x10, x11, x12, x13, J (a.length : Int), J (a.length : Int), z16, z17, z18, z19, z20, z21, z22, z23, z24, z25, z26, z27, z28, z29, z30, z31, z32, z33, z34, z35, z36] ++ us 3, ⟨[.row (wa (o)) 0 .ow none], 1⟩⟩) : EvK Try.cx 93 (.loop wordC) ⟨[.d x, intA .u32 (d : Int), U, U, .d (.v (.slice none 0 0)), intA .u32 0, .own 0 0 0 a.length 1 (some a.length), intA .u32 (r : Int), z8, z9, x10, x11, x12, x13, J (a.length : Int), J (a.length : Int), z16, z17, z18, z19, z20, z21, z22, z23, z24, z25, z26, z27, z28, z29, z30, z31, z32, z33, z34, z35, z36] ++ us 3, ⟨[.row (wa (o)) 0 .ow none], 1⟩⟩ K := by
  refine ev_loop ?_
  refine ev_seq ?_
  refine ev_reg (by kernel_rfl) ?_
  refine rs_up 1 [(16, boolA (decide ((a.length : Int) < (a.length : Int))))] (fun cf => by kernel_rfl) ?_
  rw [(show decide ((a.length : Int) < (a.length : Int)) = false from decide_eq_false (by omega))]
  refine rs_all (s1 := ⟨[.d x, intA .u32 (d : Int), U, U, .d (.v (.slice none 0 0)), intA .u32 0, .own 0 0 0 a.length 1 (some a.length), intA .u32 (r : Int), z8, z9, x10, x11, x12, x13, J (a.length : Int), J (a.length : Int), No, z17, z18, z19, z20, z21, z22, z23, z24, z25, z26, z27, z28, z29, z30, z31, z32, z33, z34, z35, z36] ++ us 3, ⟨[.row (wa (o)) 0 .ow none], 1⟩⟩) (fun cf => by kernel_rfl) ?_
  refine ev_seq ?_
  refine ev_false (by kernel_rfl) ?_
  refine ev_exit ?_
  exact h _ _ _ _ _ _ _ _ _ _ _ _ _ _ _ _ _ _ _ _ _ _ _
theorem word_loop {K : Out → St → Prop} {a : List Nat} {x : D} {d : Nat} (x10 x11 x12 x13 : AV) (hx : Ws a x) (ha : Ok a) (hn : a.length < 1000000000) (hd : d < 4294967296) :
    ∀ (n : Nat) (i : Nat) (q : List Nat) (r : Nat) (z8 z9 z16 z17 z18 z19 z20 z21 z22 z23 z24 z25 z26 z27 z28 z29 z30 z31 z32 z33 z34 z35 z36 : AV) (hi : n + i = a.length) (he : n + q.length = a.length) (hr : r < d) (h : ∀ (z8 z9 z16 z17 z18 z19 z20 z21 z22 z23 z24 z25 z26 z27 z28 z29 z30 z31 z32 z33 z34 z35 z36 : AV), K (.exit 0) ⟨[.d x, intA .u32 (d : Int), U, U, .d (.v (.slice none 0 0)), intA .u32 0, .own 0 0 0 a.length 1 (some a.length), intA .u32 ((shR a d n r : Nat) : Int), z8, z9, x10, x11, x12, x13, J (a.length : Int), J (a.length : Int), z16, z17, z18, z19, z20, z21, z22, z23, z24, z25, z26, z27, z28, z29, z30, z31, z32, z33, z34, z35, z36] ++ us 3, ⟨[.row (wa (shW a d n r ++ q)) 0 .ow none], 1⟩⟩), EvK Try.cx 93 (.loop wordC) ⟨[.d x, intA .u32 (d : Int), U, U, .d (.v (.slice none 0 0)), intA .u32 0, .own 0 0 0 a.length 1 (some a.length), intA .u32 (r : Int), z8, z9, x10, x11, x12, x13, J (a.length : Int), J (i : Int), z16, z17, z18, z19, z20, z21, z22, z23, z24, z25, z26, z27, z28, z29, z30, z31, z32, z33, z34, z35, z36] ++ us 3, ⟨[.row (wa (List.replicate n 0 ++ q)) 0 .ow none], 1⟩⟩ K
  | 0, i, q, r, z8, z9, z16, z17, z18, z19, z20, z21, z22, z23, z24, z25, z26, z27, z28, z29, z30, z31, z32, z33, z34, z35, z36, hi, he, hr, h => by
    obtain rfl : i = a.length := by omega
    exact word_stop (a := a) (x := x) x10 x11 x12 x13 z8 z9 z16 z17 z18 z19 z20 z21 z22 z23 z24 z25 z26 z27 z28 z29 z30 z31 z32 z33 z34 z35 z36 (by
      have e : shR a d 0 r = r := by unfold shR; rw [Nat.pow_zero, Nat.mul_one]; exact Nat.mod_eq_of_lt hr
      rw [e] at h
      exact h)
  | n + 1, i, q, r, z8, z9, z16, z17, z18, z19, z20, z21, z22, z23, z24, z25, z26, z27, z28, z29, z30, z31, z32, z33, z34, z35, z36, hi, he, hr, h => by
    have hk : a.length - 1 - i = n := by omega
    refine word_round x10 x11 x12 x13 hx ha hn (by simp; omega) hr hd (by omega) z8 z9 z16 z17 z18 z19 z20 z21 z22 z23 z24 z25 z26 z27 z28 z29 z30 z31 z32 z33 z34 z35 z36 fun z8 z9 z16 z17 z18 z19 z20 z21 z22 z23 z24 z25 z26 z27 z28 z29 z30 z31 z32 z33 z34 z35 z36 => ?_
    rw [hk, set_mid]
    refine word_loop x10 x11 x12 x13 hx ha hn hd n (i + 1) _ _ z8 z9 z16 z17 z18 z19 z20 z21 z22 z23 z24 z25 z26 z27 z28 z29 z30 z31 z32 z33 z34 z35 z36 (by omega) (by simp; omega) (Nat.mod_lt _ (by omega)) ?_
    rw [shR_succ]
    simp only [shW, List.append_assoc, List.singleton_append] at h
    exact h
theorem p_word {a : List Nat} {x : D} {d : Nat} (hx : Ws a x) (ha : Ok a) (hl : a.length < 100000000) (hd0 : 0 < d) (hd : d < 4294967296) : ∃ res : D, (fun y => Ws (quoS a d) y) res ∧ Gets Try.cx 93 [.d x, intA .u32 (d : Int)] ((fun y => .tu [.d y, intA .u32 ((shR a d a.length 0 : Nat) : Int)]) res) := by
  refine gets_some (fn := Try.f93) (fun y => Ws (quoS a d) y) (fun y => .tu [.d y, intA .u32 ((shR a d a.length 0 : Nat) : Int)]) (by kernel_rfl) rfl ?_
  show EvK _ _ _ ⟨[.d x, intA .u32 (d : Int)] ++ us 38, ⟨[], 0⟩⟩ _
  refine ev_seq ?_
  refine ev_reg (by kernel_rfl) ?_
  refine rs_alu [(4, .d (.v (.slice none 0 0))), (5, intA .u32 0)] (fun cf => by kernel_rfl) ?_
  refine ev_seq ?_
  refine ev_reg (by kernel_rfl) ?_
  refine rs_up 1 [(10, .d x)] (fun cf => by kernel_rfl) ?_
  refine rs_cl (fun m9 => lenA Try.cx 83 m9 (.d x)) (some 11) (a.length) (fun cf => by kernel_rfl) (len_wsN hx) ?_
  refine rs_co (fun m9 => opA Try.cx (fun _ => false) [J (a.length : Int)] m9 ⟨none, .makeSlice 83 (.tmp 0) (.tmp 0), 0, "", #[], none⟩) (some 12) (.own 0 0 0 a.length 1 (some a.length)) ⟨[.row (wa (List.replicate a.length 0)) 0 .ow none], 1⟩ (fun cf => by kernel_rfl) (make_wsN (k := a.length) (by rfl) (by omega)) ?_
  refine rs_alu [(6, .own 0 0 0 a.length 1 (some a.length))] (fun cf => by kernel_rfl) ?_
  refine ev_seq ?_
  refine ev_reg (by kernel_rfl) ?_
  refine rs_alu [(7, intA .u32 0)] (fun cf => by kernel_rfl) ?_
  refine ev_seq ?_
  refine ev_seq ?_
  refine ev_reg (by kernel_rfl) ?_
  refine rs_up 1 [(13, .d x)] (fun cf => by kernel_rfl) ?_
  refine rs_cl (fun m9 => lenA Try.cx 83 m9 (.d x)) (some 14) (a.length) (fun cf => by kernel_rfl) (len_wsN hx) ?_
  refine rs_all (s1 := ⟨[.d x, intA .u32 (d : Int), U, U, .d (.v (.slice none 0 0)), intA .u32 0, .own 0 0 0 a.length 1 (some a.length), intA .u32 0, U, U, .d x, J (a.length : Int), .own 0 0 0 a.length 1 (some a.length), .d x, J (a.length : Int), J 0] ++ us 24, ⟨[.row (wa (List.replicate a.length 0)) 0 .ow none], 1⟩⟩) (fun cf => by kernel_rfl) ?_
  refine ev_block ?_
  have happ : List.replicate a.length 0 = List.replicate a.length 0 ++ ([] : List Nat) := (List.append_nil _).symm
  rw [happ]
  refine word_loop _ _ _ _ hx ha (by omega) hd a.length 0 [] 0 _ _ _ _ _ _ _ _ _ _ _ _ _ _ _ _ _ _ _ _ _ _ _ (by omega) (by simp) hd0 fun v8 v9 v16 v17 v18 v19 v20 v21 v22 v23 v24 v25 v26 v27 v28 v29 v30 v31 v32 v33 v34 v35 v36 => ?_
  rw [List.append_nil]
  have hlen := shW_len a d a.length 0
  refine ev_seq ?_
  refine ev_reg (by kernel_rfl) ?_
  refine rs_up 1 [(37, .own 0 0 0 a.length 1 (some a.length))] (fun cf => by kernel_rfl) ?_
  refine rs_take 0 (s1 := ⟨[.d x, intA .u32 (d : Int), U, U, .d (.v (.slice none 0 0)), intA .u32 0, .own 0 0 0 a.length 1 (some a.length), intA .u32 ((shR a d a.length 0 : Nat) : Int), v8, v9, .d x, J (a.length : Int), .own 0 0 0 a.length 1 (some a.length), .d x, J (a.length : Int), J (a.length : Int), v16, v17, v18, v19, v20, v21, v22, v23, v24, v25, v26, v27, v28, v29, v30, v31, v32, v33, v34, v35, v36, .own 0 0 0 a.length 1 (some a.length), U, U], ⟨[.row (wa (shW a d a.length 0)) 0 .ow none], 1⟩⟩) (fun cf => by kernel_rfl) ?_
  obtain ⟨y1, hy1, gy1⟩ := g_norm (ws_sl false (shW a d a.length 0)) (by first | decide | omega)
  refine rs_frz (g := 88) (bs := [.d (.sl false (shW a d a.length 0).length (wd (shW a d a.length 0)))]) (ow := true) (r := .d y1) (Eq.trans (b := match mapO (snapA (⟨[.row (wa (shW a d a.length 0)) 0 .ow none], 1⟩ : Mem)) [.own 0 0 0 a.length 1 (some a.length)] with | some bs => some (88, bs, true) | none => none) (by kernel_rfl) (by rw [mapO_one (snap_own (l := shW a d a.length 0) (row_at rfl) (by omega))])) (gy1) fun m1 hEm1 _ => ?_
  show RS _ _ _ _ _ ⟨[.d x, intA .u32 (d : Int), U, U, .d (.v (.slice none 0 0)), intA .u32 0, .own 0 0 0 a.length 1 (some a.length), intA .u32 ((shR a d a.length 0 : Nat) : Int), v8, v9, .d x, J (a.length : Int), .own 0 0 0 a.length 1 (some a.length), .d x, J (a.length : Int), J (a.length : Int), v16, v17, v18, v19, v20, v21, v22, v23, v24, v25, v26, v27, v28, v29, v30, v31, v32, v33, v34, v35, v36, .own 0 0 0 a.length 1 (some a.length), .d y1, U], m1⟩ _
  refine rs_all (s1 := ⟨[.d x, intA .u32 (d : Int), U, U, .d y1, intA .u32 ((shR a d a.length 0 : Nat) : Int), .own 0 0 0 a.length 1 (some a.length), intA .u32 ((shR a d a.length 0 : Nat) : Int), v8, v9, .d x, J (a.length : Int), .own 0 0 0 a.length 1 (some a.length), .d x, J (a.length : Int), J (a.length : Int), v16, v17, v18, v19, v20, v21, v22, v23, v24, v25, v26, v27, v28, v29, v30, v31, v32, v33, v34, v35, v36, .own 0 0 0 a.length 1 (some a.length), .d y1, intA .u32 ((shR a d a.length 0 : Nat) : Int)], m1⟩) (fun cf => by kernel_rfl) ?_
  refine ev_ret ?_
  exact ⟨y1, hy1, .inr rfl, .tu [.d y1, intA .u32 ((shR a d a.length 0 : Nat) : Int)], by kernel_rfl, by kernel_rfl⟩
end Go.Proofs.Ytgkjdfojogemhaa.W
