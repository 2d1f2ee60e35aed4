/-
  The program: sums of words. Made by program. Conditions: none.
-/
import Derived.Test.YtgkjdfojogemhaaWng
set_option maxRecDepth 100000
set_option maxHeartbeats 20000000
set_option linter.unusedSimpArgs false
set_option linter.unusedVariables false
namespace Go.Proofs.Ytgkjdfojogemhaa.W
open Go.Am
theorem p_add32 {x y c : Nat} (hx : x < 4294967296) (hy : y < 4294967296) (hc : c ≤ 1) : Gets Try.cx 90 [intA .u32 (x : Int), intA .u32 (y : Int), intA .u32 (c : Int)] (.tu [intA .u32 ((((x + y + c) % 4294967296 : Nat)) : Int), intA .u32 (((x + y + c) / 4294967296 : Nat) : Int)]) := by
  refine gets_of (fn := Try.f90) (by kernel_rfl) rfl ?_
  show EvK _ _ _ ⟨[intA .u32 (x : Int), intA .u32 (y : Int), intA .u32 (c : Int)] ++ us 19, ⟨[], 0⟩⟩ _
  refine ev_seq ?_
  refine ev_reg (by kernel_rfl) ?_
  refine rs_alu [(6, intA .u32 0), (7, intA .u32 0)] (fun cf => by kernel_rfl) ?_
  refine ev_seq ?_
  refine ev_reg (by kernel_rfl) ?_
  refine rs_up 2 [(9, intA .u32 (x : Int)), (10, intA .u64 (IntKind.wrap .u64 (x : Int)))] (fun cf => by kernel_rfl) ?_
  rw [wrapU (n := x) (by omega)]
  refine rs_up 2 [(11, intA .u32 (y : Int)), (12, intA .u64 (IntKind.wrap .u64 (y : Int)))] (fun cf => by kernel_rfl) ?_
  rw [wrapU (n := y) (by omega)]
  refine rs_up 1 [(13, intA .u64 (IntKind.wrap .u64 ((x : Int) + (y : Int))))] (fun cf => by kernel_rfl) ?_
  rw [addU (a := (x : Int)) (b := (y : Int)) (A := x) (B := y) (by rfl) (by rfl) (by omega)]
  refine rs_up 2 [(14, intA .u32 (c : Int)), (15, intA .u64 (IntKind.wrap .u64 (c : Int)))] (fun cf => by kernel_rfl) ?_
  rw [wrapU (n := c) (by omega)]
  refine rs_up 1 [(16, intA .u64 (IntKind.wrap .u64 (((x + y : Nat) : Int) + (c : Int))))] (fun cf => by kernel_rfl) ?_
  rw [addU (a := ((x + y : Nat) : Int)) (b := (c : Int)) (A := x + y) (B := c) (by rfl) (by rfl) (by omega)]
  refine rs_alu [(8, intA .u64 (((x + y) + c : Nat) : Int))] (fun cf => by kernel_rfl) ?_
  refine ev_seq ?_
  refine ev_reg (by kernel_rfl) ?_
  refine rs_up 2 [(17, intA .u64 (((x + y) + c : Nat) : Int)), (18, intA .u32 (IntKind.wrap .u32 (((x + y) + c : Nat) : Int)))] (fun cf => by kernel_rfl) ?_
  rw [wrapM (n := (x + y) + c)]
  refine rs_alu [(6, intA .u32 ((((x + y) + c) % 4294967296 : Nat) : Int))] (fun cf => by kernel_rfl) ?_
  refine ev_seq ?_
  refine ev_reg (by kernel_rfl) ?_
  refine rs_up 2 [(19, intA .u64 (((x + y) + c : Nat) : Int)), (20, intA .u64 (Int.fdiv (((x + y) + c : Nat) : Int) (2 ^ 32)))] (fun cf => by kernel_rfl) ?_
  rw [shrN (A := (x + y) + c) (k := 32) (by rfl) (by rfl)]
  refine rs_up 1 [(21, intA .u32 (IntKind.wrap .u32 ((((x + y) + c) / 4294967296 : Nat) : Int)))] (fun cf => by kernel_rfl) ?_
  rw [wrapW (n := ((x + y) + c) / 4294967296) (by omega)]
  refine rs_all (s1 := ⟨[intA .u32 (x : Int), intA .u32 (y : Int), intA .u32 (c : Int)] ++ us 3 ++ [intA .u32 ((((x + y) + c) % 4294967296 : Nat) : Int), intA .u32 ((((x + y) + c) / 4294967296 : Nat) : Int), intA .u64 (((x + y) + c : Nat) : Int), intA .u32 (x : Int), intA .u64 (x : Int), intA .u32 (y : Int), intA .u64 (y : Int), intA .u64 ((x + y : Nat) : Int), intA .u32 (c : Int), intA .u64 (c : Int), intA .u64 (((x + y) + c : Nat) : Int), intA .u64 (((x + y) + c : Nat) : Int), intA .u32 ((((x + y) + c) % 4294967296 : Nat) : Int), intA .u64 (((x + y) + c : Nat) : Int), intA .u64 ((((x + y) + c) / 4294967296 : Nat) : Int), intA .u32 ((((x + y) + c) / 4294967296 : Nat) : Int)], ⟨[], 0⟩⟩) (fun cf => by kernel_rfl) ?_
  refine ev_ret ?_
  refine leaf (r0 := .tu [intA .u32 ((((x + y) + c) % 4294967296 : Nat) : Int), intA .u32 ((((x + y) + c) / 4294967296 : Nat) : Int)]) (r1 := .tu [intA .u32 ((((x + y) + c) % 4294967296 : Nat) : Int), intA .u32 ((((x + y) + c) / 4294967296 : Nat) : Int)]) (.inr rfl) (by kernel_rfl) (by kernel_rfl) ?_
  rfl
def carW (a b : List Nat) : Nat → Nat → Nat → Nat
  | 0, _, c => c
  | r + 1, i, c => carW a b r (i + 1) ((a.getD i 0 + b.getD i 0 + c) / 4294967296)
theorem carW_le {a b : List Nat} (ha : Ok a) (hb : Ok b) : ∀ (r i c : Nat), c ≤ 1 → carW a b r i c ≤ 1
  | 0, _, c, h => h
  | r + 1, i, c, h => carW_le ha hb r (i + 1) _ (by have := ha i; have := hb i; omega)
theorem sumW_snoc (a b : List Nat) : ∀ (r i c : Nat), sumW a b (r + 1) i c = sumW a b r i c ++ [(a.getD (i + r) 0 + b.getD (i + r) 0 + carW a b r i c) % 4294967296]
  | 0, i, c => rfl
  | r + 1, i, c => by
    have h := sumW_snoc a b r (i + 1) ((a.getD i 0 + b.getD i 0 + c) / 4294967296)
    have e : sumW a b (r + 1 + 1) i c = (a.getD i 0 + b.getD i 0 + c) % 4294967296 :: sumW a b (r + 1) (i + 1) ((a.getD i 0 + b.getD i 0 + c) / 4294967296) := rfl
    rw [e, h, show i + 1 + r = i + (r + 1) by omega]
    rfl
theorem sumW_all {a b : List Nat} (ha : Ok a) (hb : Ok b) {n : Nat} (h1 : a.length ≤ n) (h2 : b.length ≤ n) : (sumW a b n 0 0 ++ [0]).set n (carW a b n 0 0) = sumW a b (n + 1) 0 0 := by
  have h3 := carW_le ha hb n 0 0 (by decide)
  rw [sumW_snoc, getD_out (by omega), getD_out (by omega), Nat.zero_add, Nat.mod_eq_of_lt (by omega)]
  have := set_snoc (sumW a b n 0 0) (carW a b n 0 0) 0 []
  rw [sumW_len] at this
  rw [this, List.append_nil]
noncomputable def paddC : Code := (lft (lft (rgt (lft (rgt (rgt (rgt (rgt (Try.f70.body.getD .skip)))))))))
theorem padd_round {K : Out → St → Prop} {a b o : List Nat} {x y : D} {n i c : Nat} (x9 x10 x11 x12 x13 x14 x15 x16 : AV) (hx : Ws a x) (hy : Ws b y) (ha : Ok a) (hb : Ok b) (hn : n < 1000000000) (ho : o.length = n + 1) (hc : c ≤ 1) (z8 z19 z20 z21 z22 z23 z24 z25 z26 z27 z28 z29 z30 z31 z32 z33 z34 z35 : AV) (h0 : n ≤ i → ∀ z8 z19 z20 z21 z22 z23 z24 z25 z26 z27 z28 z29 z30 z31 z32 z33 z34 z35, K (.exit 0) ⟨[.d x, .d y, U, U, .d (.v (.slice none 0 0)), J (n : Int), .own 0 0 0 (n + 1) 1 (some (n + 1)), intA .u32 (c : Int), z8, x9, x10, x11, x12, x13, x14, x15, x16, J (n : Int), J (i : Int), z19, z20, z21, z22, z23, z24, z25, z26, z27, z28, z29, z30, z31, z32, z33, z34, z35] ++ us 6, ⟨[.row (wa (o)) 0 .ow none], 1⟩⟩) (h1 : i < n → ∀ z8 z19 z20 z21 z22 z23 z24 z25 z26 z27 z28 z29 z30 z31 z32 z33 z34 z35, EvK Try.cx 70 (.loop paddC) ⟨[.d x, .d y, U, U, .d (.v (.slice none 0 0)), J (n : Int), .own 0 0 0 (n + 1) 1 (some (n + 1)), intA .u32 (((a.getD i 0 + b.getD i 0 + c) / 4294967296 : Nat) : Int), z8, x9, x10, x11, x12, x13, x14, x15, x16, J (n : Int), J ((i + 1 : Nat) : Int), z19, z20, z21, z22, z23, z24, z25, z26, z27, z28, z29, z30, z31, z32, z33, z34, z35] ++ us 6, ⟨[.row (wa (o.set i ((a.getD i 0 + b.getD i 0 + c) % 4294967296))) 0 .ow none], 1⟩⟩ K) : EvK Try.cx 70 (.loop paddC) ⟨[.d x, .d y, U, U, .d (.v (.slice none 0 0)), J (n : Int), .own 0 0 0 (n + 1) 1 (some (n + 1)), intA .u32 (c : Int), z8, x9, x10, x11, x12, x13, x14, x15, x16, J (n : Int), J (i : Int), z19, z20, z21, z22, z23, z24, z25, z26, z27, z28, z29, z30, z31, z32, z33, z34, z35] ++ us 6, ⟨[.row (wa (o)) 0 .ow none], 1⟩⟩ K := by
  refine ev_loop ?_
  refine ev_seq ?_
  refine ev_reg (by kernel_rfl) ?_
  refine rs_all (s1 := ⟨[.d x, .d y, U, U, .d (.v (.slice none 0 0)), J (n : Int), .own 0 0 0 (n + 1) 1 (some (n + 1)), intA .u32 (c : Int), z8, x9, x10, x11, x12, x13, x14, x15, x16, J (n : Int), J (i : Int), boolA (decide ((i : Int) < (n : Int))), z20, z21, z22, z23, z24, z25, z26, z27, z28, z29, z30, z31, z32, z33, z34, z35] ++ us 6, ⟨[.row (wa (o)) 0 .ow none], 1⟩⟩) (fun cf => by kernel_rfl) ?_
  refine ev_seq ?_
  rcases hb1 : ((decide ((i : Int) < (n : Int))) : Bool) with _ | _
  ·
    have hb1' := of_decide_eq_false hb1
    refine ev_false (by kernel_rfl) ?_
    refine ev_exit ?_
    exact h0 (by omega) _ _ _ _ _ _ _ _ _ _ _ _ _ _ _ _ _ _
  ·
    have hb1' := of_decide_eq_true hb1
    refine ev_true (by kernel_rfl) ?_
    refine ev_skip ?_
    refine ev_seq ?_
    refine ev_block ?_
    refine ev_seq ?_
    refine ev_reg (by kernel_rfl) ?_
    refine rs_alu [(8, J (i : Int)), (20, J (i : Int))] (fun cf => by kernel_rfl) ?_
    refine ev_reg (by kernel_rfl) ?_
    refine rs_up 4 [(22, .own 0 0 0 (n + 1) 1 (some (n + 1))), (23, J (i : Int)), (24, .d x), (25, J (i : Int))] (fun cf => by kernel_rfl) ?_
    refine rs_cp 83 [.d x, J (i : Int)] false (some 26) (intA .u32 ((a.getD i 0 : Nat) : Int)) (by kernel_rfl) (g_at (i := i) hx) (by kernel_rfl) ?_
    refine rs_up 2 [(27, .d y), (28, J (i : Int))] (fun cf => by kernel_rfl) ?_
    refine rs_cp 83 [.d y, J (i : Int)] false (some 29) (intA .u32 ((b.getD i 0 : Nat) : Int)) (by kernel_rfl) (g_at (i := i) hy) (by kernel_rfl) ?_
    refine rs_up 1 [(30, intA .u32 (c : Int))] (fun cf => by kernel_rfl) ?_
    refine rs_cp 90 [intA .u32 ((a.getD i 0 : Nat) : Int), intA .u32 ((b.getD i 0 : Nat) : Int), intA .u32 (c : Int)] false (some 31) (.tu [intA .u32 ((((a.getD i 0) + (b.getD i 0) + c) % 4294967296 : Nat) : Int), intA .u32 ((((a.getD i 0) + (b.getD i 0) + c) / 4294967296 : Nat) : Int)]) (by kernel_rfl) (p_add32 (x := a.getD i 0) (y := b.getD i 0) (c := c) (ha _) (hb _) hc) (by kernel_rfl) ?_
    refine rs_up 3 [(21, .tu [intA .u32 ((((a.getD i 0) + (b.getD i 0) + c) % 4294967296 : Nat) : Int), intA .u32 ((((a.getD i 0) + (b.getD i 0) + c) / 4294967296 : Nat) : Int)]), (32, intA .u32 ((((a.getD i 0) + (b.getD i 0) + c) % 4294967296 : Nat) : Int)), (33, intA .u32 ((((a.getD i 0) + (b.getD i 0) + c) / 4294967296 : Nat) : Int))] (fun cf => by kernel_rfl) ?_
    refine rs_cv (fun m9 => indexAddrA Try.cx 83 m9 (.own 0 0 0 (n + 1) 1 (some (n + 1))) (J (i : Int))) (some 34) (.ptr 0 0 i) (fun cf => by kernel_rfl) (idx_ownN (k := i) (by rfl) (row_at rfl) (by omega)) ?_
    refine rs_cu (fun m9 => storeA Try.cx 22 m9 (.ptr 0 0 i) (intA .u32 ((((a.getD i 0) + (b.getD i 0) + c) % 4294967296 : Nat) : Int))) none ⟨[.row (wa (o.set i (((a.getD i 0) + (b.getD i 0) + c) % 4294967296))) 0 .ow none], 1⟩ (fun cf => by kernel_rfl) (store_own (v := ((a.getD i 0) + (b.getD i 0) + c) % 4294967296) rfl (by omega)) ?_
    refine rs_alu [(7, intA .u32 ((((a.getD i 0) + (b.getD i 0) + c) / 4294967296 : Nat) : Int))] (fun cf => by kernel_rfl) ?_
    refine ev_reg (by kernel_rfl) ?_
    refine rs_up 1 [(35, J (IntKind.wrap .i64 ((i : Int) + 1)))] (fun cf => by kernel_rfl) ?_
    rw [addI (a := (i : Int)) (b := 1) (A := i) (B := 1) (by rfl) (by rfl) (by omega)]
    refine rs_all (s1 := ⟨[.d x, .d y, U, U, .d (.v (.slice none 0 0)), J (n : Int), .own 0 0 0 (n + 1) 1 (some (n + 1)), intA .u32 ((((a.getD i 0) + (b.getD i 0) + c) / 4294967296 : Nat) : Int), J (i : Int), x9, x10, x11, x12, x13, x14, x15, x16, J (n : Int), J ((i + 1 : Nat) : Int), Yes, J (i : Int), .tu [intA .u32 ((((a.getD i 0) + (b.getD i 0) + c) % 4294967296 : Nat) : Int), intA .u32 ((((a.getD i 0) + (b.getD i 0) + c) / 4294967296 : Nat) : Int)], .own 0 0 0 (n + 1) 1 (some (n + 1)), J (i : Int), .d x, J (i : Int), intA .u32 ((a.getD i 0 : Nat) : Int), .d y, J (i : Int), intA .u32 ((b.getD i 0 : Nat) : Int), intA .u32 (c : Int), .tu [intA .u32 ((((a.getD i 0) + (b.getD i 0) + c) % 4294967296 : Nat) : Int), intA .u32 ((((a.getD i 0) + (b.getD i 0) + c) / 4294967296 : Nat) : Int)], intA .u32 ((((a.getD i 0) + (b.getD i 0) + c) % 4294967296 : Nat) : Int), intA .u32 ((((a.getD i 0) + (b.getD i 0) + c) / 4294967296 : Nat) : Int), .ptr 0 0 i, J ((i + 1 : Nat) : Int)] ++ us 6, ⟨[.row (wa (o.set i (((a.getD i 0) + (b.getD i 0) + c) % 4294967296))) 0 .ow none], 1⟩⟩) (fun cf => by kernel_rfl) ?_
    exact h1 (by omega) _ _ _ _ _ _ _ _ _ _ _ _ _ _ _ _ _ _
theorem padd_loop {K : Out → St → Prop} {a b : List Nat} {x y : D} {n : Nat} (x9 x10 x11 x12 x13 x14 x15 x16 : AV) (hx : Ws a x) (hy : Ws b y) (ha : Ok a) (hb : Ok b) (hn : n < 1000000000) :
    ∀ (r : Nat) (p : List Nat) (c : Nat) (z8 z19 z20 z21 z22 z23 z24 z25 z26 z27 z28 z29 z30 z31 z32 z33 z34 z35 : AV) (he : p.length + r = n) (hc : c ≤ 1) (h : ∀ (z8 z19 z20 z21 z22 z23 z24 z25 z26 z27 z28 z29 z30 z31 z32 z33 z34 z35 : AV), K (.exit 0) ⟨[.d x, .d y, U, U, .d (.v (.slice none 0 0)), J (n : Int), .own 0 0 0 (n + 1) 1 (some (n + 1)), intA .u32 ((carW a b r p.length c : Nat) : Int), z8, x9, x10, x11, x12, x13, x14, x15, x16, J (n : Int), J (n : Int), z19, z20, z21, z22, z23, z24, z25, z26, z27, z28, z29, z30, z31, z32, z33, z34, z35] ++ us 6, ⟨[.row (wa (p ++ (sumW a b r p.length c ++ [0]))) 0 .ow none], 1⟩⟩), EvK Try.cx 70 (.loop paddC) ⟨[.d x, .d y, U, U, .d (.v (.slice none 0 0)), J (n : Int), .own 0 0 0 (n + 1) 1 (some (n + 1)), intA .u32 (c : Int), z8, x9, x10, x11, x12, x13, x14, x15, x16, J (n : Int), J (p.length : Int), z19, z20, z21, z22, z23, z24, z25, z26, z27, z28, z29, z30, z31, z32, z33, z34, z35] ++ us 6, ⟨[.row (wa (p ++ List.replicate (r + 1) 0)) 0 .ow none], 1⟩⟩ K
  | 0, p, c, z8, z19, z20, z21, z22, z23, z24, z25, z26, z27, z28, z29, z30, z31, z32, z33, z34, z35, he, hc, h => by
    subst he
    exact padd_round x9 x10 x11 x12 x13 x14 x15 x16 hx hy ha hb hn (by simp) hc z8 z19 z20 z21 z22 z23 z24 z25 z26 z27 z28 z29 z30 z31 z32 z33 z34 z35 (fun _ => h) fun h1 => by omega
  | r + 1, p, c, z8, z19, z20, z21, z22, z23, z24, z25, z26, z27, z28, z29, z30, z31, z32, z33, z34, z35, he, hc, h => by
    refine padd_round x9 x10 x11 x12 x13 x14 x15 x16 hx hy ha hb hn (by simp; omega) hc z8 z19 z20 z21 z22 z23 z24 z25 z26 z27 z28 z29 z30 z31 z32 z33 z34 z35 (fun h0 => by omega) fun _ z8 z19 z20 z21 z22 z23 z24 z25 z26 z27 z28 z29 z30 z31 z32 z33 z34 z35 => ?_
    have e : (p ++ List.replicate (r + 1 + 1) 0).set p.length ((a.getD p.length 0 + b.getD p.length 0 + c) % 4294967296) = (p ++ [(a.getD p.length 0 + b.getD p.length 0 + c) % 4294967296]) ++ List.replicate (r + 1) 0 := by rw [List.replicate_succ, set_snoc]
    rw [e, show p.length + 1 = (p ++ [(a.getD p.length 0 + b.getD p.length 0 + c) % 4294967296]).length by simp]
    refine padd_loop x9 x10 x11 x12 x13 x14 x15 x16 hx hy ha hb hn r _ _ z8 z19 z20 z21 z22 z23 z24 z25 z26 z27 z28 z29 z30 z31 z32 z33 z34 z35 (by simp; omega) (by have := ha p.length; have := hb p.length; omega) ?_
    simp only [List.length_append, List.length_singleton, List.append_assoc, List.singleton_append]
    exact h
theorem p_add {a b : List Nat} {x y : D} (hx : Ws a x) (hy : Ws b y) (ha : Ok a) (hb : Ok b) (hl : a.length < 100000000) (hm : b.length < 100000000) : ∃ res : D, (fun y => Ws (addL a b) y) res ∧ Gets Try.cx 70 [.d x, .d y] ((fun y => .d y) res) := by
  refine gets_some (fn := Try.f70) (fun y => Ws (addL a b) y) (fun y => .d y) (by kernel_rfl) rfl ?_
  show EvK _ _ _ ⟨[.d x, .d y] ++ us 40, ⟨[], 0⟩⟩ _
  refine ev_seq ?_
  refine ev_reg (by kernel_rfl) ?_
  refine rs_alu [(4, .d (.v (.slice none 0 0)))] (fun cf => by kernel_rfl) ?_
  refine ev_seq ?_
  refine ev_reg (by kernel_rfl) ?_
  refine rs_up 1 [(9, .d x)] (fun cf => by kernel_rfl) ?_
  refine rs_cl (fun m9 => lenA Try.cx 83 m9 (.d x)) (some 10) (a.length) (fun cf => by kernel_rfl) (len_wsN hx) ?_
  refine rs_up 1 [(11, .d y)] (fun cf => by kernel_rfl) ?_
  refine rs_cl (fun m9 => lenA Try.cx 83 m9 (.d y)) (some 12) (b.length) (fun cf => by kernel_rfl) (len_wsN hy) ?_
  refine rs_up 1 [(13, J (if (b.length : Int) > (a.length : Int) then (b.length : Int) else (a.length : Int)))] (fun cf => by kernel_rfl) ?_
  rw [(show (if (b.length : Int) > (a.length : Int) then (b.length : Int) else (a.length : Int)) = ((max a.length b.length : Nat) : Int) by split <;> omega)]
  refine rs_alu [(5, J ((max a.length b.length : Nat) : Int))] (fun cf => by kernel_rfl) ?_
  refine ev_seq ?_
  refine ev_reg (by kernel_rfl) ?_
  refine rs_up 2 [(14, J ((max a.length b.length : Nat) : Int)), (15, J (IntKind.wrap .i64 (((max a.length b.length : Nat) : Int) + 1)))] (fun cf => by kernel_rfl) ?_
  rw [addI (a := ((max a.length b.length : Nat) : Int)) (b := 1) (A := max a.length b.length) (B := 1) (by rfl) (by rfl) (by omega)]
  refine rs_co (fun m9 => opA Try.cx (fun _ => false) [J (((max a.length b.length) + 1 : Nat) : Int)] m9 ⟨none, .makeSlice 83 (.tmp 0) (.tmp 0), 0, "", #[], none⟩) (some 16) (.own 0 0 0 ((max a.length b.length) + 1) 1 (some ((max a.length b.length) + 1))) ⟨[.row (wa (List.replicate ((max a.length b.length) + 1) 0)) 0 .ow none], 1⟩ (fun cf => by kernel_rfl) (make_wsN (k := (max a.length b.length) + 1) (by rfl) (by omega)) ?_
  refine rs_alu [(6, .own 0 0 0 ((max a.length b.length) + 1) 1 (some ((max a.length b.length) + 1)))] (fun cf => by kernel_rfl) ?_
  refine ev_seq ?_
  refine ev_reg (by kernel_rfl) ?_
  refine rs_alu [(7, intA .u32 0)] (fun cf => by kernel_rfl) ?_
  refine ev_seq ?_
  refine ev_seq ?_
  refine ev_reg (by kernel_rfl) ?_
  refine rs_all (s1 := ⟨[.d x, .d y, U, U, .d (.v (.slice none 0 0)), J ((max a.length b.length : Nat) : Int), .own 0 0 0 ((max a.length b.length) + 1) 1 (some ((max a.length b.length) + 1)), intA .u32 0, U, .d x, J (a.length : Int), .d y, J (b.length : Int), J ((max a.length b.length : Nat) : Int), J ((max a.length b.length : Nat) : Int), J (((max a.length b.length) + 1 : Nat) : Int), .own 0 0 0 ((max a.length b.length) + 1) 1 (some ((max a.length b.length) + 1)), J ((max a.length b.length : Nat) : Int), J 0] ++ us 23, ⟨[.row (wa (List.replicate ((max a.length b.length) + 1) 0)) 0 .ow none], 1⟩⟩) (fun cf => by kernel_rfl) ?_
  refine ev_block ?_
  refine padd_loop (n := (max a.length b.length)) _ _ _ _ _ _ _ _ hx hy ha hb (by omega) (max a.length b.length) [] 0 _ _ _ _ _ _ _ _ _ _ _ _ _ _ _ _ _ _ (by simp) (by omega) fun v8 v19 v20 v21 v22 v23 v24 v25 v26 v27 v28 v29 v30 v31 v32 v33 v34 v35 => ?_
  have hlen : (sumW a b (max a.length b.length) 0 0 ++ [0]).length = (max a.length b.length) + 1 := by simp [sumW_len]
  have hL := sumW_all ha hb (Nat.le_max_left a.length b.length) (Nat.le_max_right a.length b.length)
  refine ev_seq ?_
  refine ev_reg (by kernel_rfl) ?_
  refine rs_up 3 [(36, .own 0 0 0 ((max a.length b.length) + 1) 1 (some ((max a.length b.length) + 1))), (37, J ((max a.length b.length : Nat) : Int)), (38, intA .u32 ((carW a b (max a.length b.length) 0 0 : Nat) : Int))] (fun cf => by kernel_rfl) ?_
  refine rs_cv (fun m9 => indexAddrA Try.cx 83 m9 (.own 0 0 0 ((max a.length b.length) + 1) 1 (some ((max a.length b.length) + 1))) (J ((max a.length b.length : Nat) : Int))) (some 39) (.ptr 0 0 (max a.length b.length)) (fun cf => by kernel_rfl) (idx_ownN (k := max a.length b.length) (by rfl) (row_at rfl) (by omega)) ?_
  refine rs_cu (fun m9 => storeA Try.cx 22 m9 (.ptr 0 0 (max a.length b.length)) (intA .u32 ((carW a b (max a.length b.length) 0 0 : Nat) : Int))) none ⟨[.row (wa ((sumW a b (max a.length b.length) 0 0 ++ [0]).set (max a.length b.length) (carW a b (max a.length b.length) 0 0))) 0 .ow none], 1⟩ (fun cf => by kernel_rfl) (store_own (v := carW a b (max a.length b.length) 0 0) rfl (by omega)) ?_
  refine rs_alu [] (fun cf => by kernel_rfl) ?_
  refine ev_seq ?_
  refine ev_reg (by kernel_rfl) ?_
  refine rs_up 1 [(40, .own 0 0 0 ((max a.length b.length) + 1) 1 (some ((max a.length b.length) + 1)))] (fun cf => by kernel_rfl) ?_
  refine rs_take 0 (s1 := ⟨[.d x, .d y, U, U, .d (.v (.slice none 0 0)), J ((max a.length b.length : Nat) : Int), .own 0 0 0 ((max a.length b.length) + 1) 1 (some ((max a.length b.length) + 1)), intA .u32 ((carW a b (max a.length b.length) 0 0 : Nat) : Int), v8, .d x, J (a.length : Int), .d y, J (b.length : Int), J ((max a.length b.length : Nat) : Int), J ((max a.length b.length : Nat) : Int), J (((max a.length b.length) + 1 : Nat) : Int), .own 0 0 0 ((max a.length b.length) + 1) 1 (some ((max a.length b.length) + 1)), J ((max a.length b.length : Nat) : Int), J ((max a.length b.length : Nat) : Int), v19, v20, v21, v22, v23, v24, v25, v26, v27, v28, v29, v30, v31, v32, v33, v34, v35, .own 0 0 0 ((max a.length b.length) + 1) 1 (some ((max a.length b.length) + 1)), J ((max a.length b.length : Nat) : Int), intA .u32 ((carW a b (max a.length b.length) 0 0 : Nat) : Int), .ptr 0 0 (max a.length b.length), .own 0 0 0 ((max a.length b.length) + 1) 1 (some ((max a.length b.length) + 1)), U], ⟨[.row (wa ((sumW a b (max a.length b.length) 0 0 ++ [0]).set (max a.length b.length) (carW a b (max a.length b.length) 0 0))) 0 .ow none], 1⟩⟩) (fun cf => by kernel_rfl) ?_
  obtain ⟨y1, hy1, gy1⟩ := g_norm (ws_sl false ((sumW a b (max a.length b.length) 0 0 ++ [0]).set (max a.length b.length) (carW a b (max a.length b.length) 0 0))) (by rw [hL, sumW_len]; omega)
  refine rs_frz (g := 88) (bs := [.d (.sl false ((sumW a b (max a.length b.length) 0 0 ++ [0]).set (max a.length b.length) (carW a b (max a.length b.length) 0 0)).length (wd ((sumW a b (max a.length b.length) 0 0 ++ [0]).set (max a.length b.length) (carW a b (max a.length b.length) 0 0))))]) (ow := true) (r := .d y1) (Eq.trans (b := match mapO (snapA (⟨[.row (wa ((sumW a b (max a.length b.length) 0 0 ++ [0]).set (max a.length b.length) (carW a b (max a.length b.length) 0 0))) 0 .ow none], 1⟩ : Mem)) [.own 0 0 0 ((max a.length b.length) + 1) 1 (some ((max a.length b.length) + 1))] with | some bs => some (88, bs, true) | none => none) (by kernel_rfl) (by rw [mapO_one (snap_own (l := (sumW a b (max a.length b.length) 0 0 ++ [0]).set (max a.length b.length) (carW a b (max a.length b.length) 0 0)) (row_at rfl) (by rw [hL, sumW_len]))])) (gy1) fun m1 hEm1 _ => ?_
  show RS _ _ _ _ _ ⟨[.d x, .d y, U, U, .d (.v (.slice none 0 0)), J ((max a.length b.length : Nat) : Int), .own 0 0 0 ((max a.length b.length) + 1) 1 (some ((max a.length b.length) + 1)), intA .u32 ((carW a b (max a.length b.length) 0 0 : Nat) : Int), v8, .d x, J (a.length : Int), .d y, J (b.length : Int), J ((max a.length b.length : Nat) : Int), J ((max a.length b.length : Nat) : Int), J (((max a.length b.length) + 1 : Nat) : Int), .own 0 0 0 ((max a.length b.length) + 1) 1 (some ((max a.length b.length) + 1)), J ((max a.length b.length : Nat) : Int), J ((max a.length b.length : Nat) : Int), v19, v20, v21, v22, v23, v24, v25, v26, v27, v28, v29, v30, v31, v32, v33, v34, v35, .own 0 0 0 ((max a.length b.length) + 1) 1 (some ((max a.length b.length) + 1)), J ((max a.length b.length : Nat) : Int), intA .u32 ((carW a b (max a.length b.length) 0 0 : Nat) : Int), .ptr 0 0 (max a.length b.length), .own 0 0 0 ((max a.length b.length) + 1) 1 (some ((max a.length b.length) + 1)), .d y1], m1⟩ _
  refine rs_all (s1 := ⟨[.d x, .d y, U, U, .d y1, J ((max a.length b.length : Nat) : Int), .own 0 0 0 ((max a.length b.length) + 1) 1 (some ((max a.length b.length) + 1)), intA .u32 ((carW a b (max a.length b.length) 0 0 : Nat) : Int), v8, .d x, J (a.length : Int), .d y, J (b.length : Int), J ((max a.length b.length : Nat) : Int), J ((max a.length b.length : Nat) : Int), J (((max a.length b.length) + 1 : Nat) : Int), .own 0 0 0 ((max a.length b.length) + 1) 1 (some ((max a.length b.length) + 1)), J ((max a.length b.length : Nat) : Int), J ((max a.length b.length : Nat) : Int), v19, v20, v21, v22, v23, v24, v25, v26, v27, v28, v29, v30, v31, v32, v33, v34, v35, .own 0 0 0 ((max a.length b.length) + 1) 1 (some ((max a.length b.length) + 1)), J ((max a.length b.length : Nat) : Int), intA .u32 ((carW a b (max a.length b.length) 0 0 : Nat) : Int), .ptr 0 0 (max a.length b.length), .own 0 0 0 ((max a.length b.length) + 1) 1 (some ((max a.length b.length) + 1)), .d y1], m1⟩) (fun cf => by kernel_rfl) ?_
  refine ev_ret ?_
  exact ⟨y1, by have h9 := hy1; rw [hL] at h9; exact h9, .inr rfl, .d y1, by kernel_rfl, by kernel_rfl⟩
end Go.Proofs.Ytgkjdfojogemhaa.W
