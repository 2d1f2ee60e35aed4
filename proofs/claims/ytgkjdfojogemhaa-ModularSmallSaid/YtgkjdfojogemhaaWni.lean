/-
  The program: differences of words. Made by program. Conditions: none.
-/
import Derived.Test.YtgkjdfojogemhaaWnh
set_option maxRecDepth 100000
set_option maxHeartbeats 20000000
set_option linter.unusedSimpArgs false
set_option linter.unusedVariables false
namespace Go.Proofs.Ytgkjdfojogemhaa.W
open Go.Am
theorem bits_toNat {A : Nat} (h : A < 4294967296) : (BitVec.ofInt (IntKind.bits .u32) (A : Int)).toNat = A := by
  rw [BitVec.ofInt_natCast, BitVec.toNat_ofNat]
  exact Nat.mod_eq_of_lt (show A < 2 ^ 32 by omega)
theorem andW {m : Mem} {t : TypeId} {a b : Int} {A B : Nat} (ha : a = A) (hb : b = B) (hA : A < 4294967296) (hB : B < 4294967296) : binA Try.cx m .and t (intA .u32 a) (intA .u32 b) = some (intA .u32 ((A &&& B : Nat) : Int)) := by
  subst ha hb
  show some (intA .u32 (IntKind.wrap .u32 ((BitVec.ofInt (IntKind.bits .u32) (A : Int) &&& BitVec.ofInt (IntKind.bits .u32) (B : Int)).toNat : Int))) = _
  rw [BitVec.toNat_and, bits_toNat hA, bits_toNat hB, wrapW (Nat.lt_of_le_of_lt Nat.and_le_left hA)]
theorem orW {m : Mem} {t : TypeId} {a b : Int} {A B : Nat} (ha : a = A) (hb : b = B) (hA : A < 4294967296) (hB : B < 4294967296) : binA Try.cx m .or t (intA .u32 a) (intA .u32 b) = some (intA .u32 ((A ||| B : Nat) : Int)) := by
  subst ha hb
  show some (intA .u32 (IntKind.wrap .u32 ((BitVec.ofInt (IntKind.bits .u32) (A : Int) ||| BitVec.ofInt (IntKind.bits .u32) (B : Int)).toNat : Int))) = _
  rw [BitVec.toNat_or, bits_toNat hA, bits_toNat hB, wrapW (show A ||| B < 2 ^ 32 from Nat.or_lt_two_pow hA hB)]
theorem xorW {m : Mem} {t : TypeId} {a b : Int} {A B : Nat} (ha : a = A) (hb : b = B) (hA : A < 4294967296) (hB : B < 4294967296) : binA Try.cx m .xor t (intA .u32 a) (intA .u32 b) = some (intA .u32 ((A ^^^ B : Nat) : Int)) := by
  subst ha hb
  show some (intA .u32 (IntKind.wrap .u32 ((BitVec.ofInt (IntKind.bits .u32) (A : Int) ^^^ BitVec.ofInt (IntKind.bits .u32) (B : Int)).toNat : Int))) = _
  rw [BitVec.toNat_xor, bits_toNat hA, bits_toNat hB, wrapW (show A ^^^ B < 2 ^ 32 from Nat.xor_lt_two_pow hA hB)]
theorem notW {a : Int} {A : Nat} (ha : a = A) (hA : A < 4294967296) : unA .xor (intA .u32 a) = some (intA .u32 ((4294967295 - A : Nat) : Int)) := by
  subst ha
  show some (intA .u32 (IntKind.wrap .u32 ((BitVec.ofInt (IntKind.bits .u32) (4294967295 : Int) ^^^ BitVec.ofInt (IntKind.bits .u32) (A : Int)).toNat : Int))) = _
  have h1 : (BitVec.ofInt (IntKind.bits .u32) (4294967295 : Int) ^^^ BitVec.ofInt (IntKind.bits .u32) (A : Int)) = ~~~ (BitVec.ofInt (IntKind.bits .u32) (A : Int)) := by
    have h2 : BitVec.ofInt (IntKind.bits .u32) (4294967295 : Int) = BitVec.allOnes (IntKind.bits .u32) := rfl
    rw [h2, BitVec.allOnes_xor]
  rw [h1, BitVec.toNat_not, bits_toNat hA]
  have h3 : 2 ^ IntKind.bits .u32 - 1 - A = 4294967295 - A := rfl
  rw [h3, wrapW (by omega)]
theorem subM {a b : Int} {A B : Nat} (ha : a = A) (hb : b = B) (hA : A < 4294967296) (hB : B < 4294967296) : IntKind.wrap .u32 (a - b) = (((4294967296 + A - B) % 4294967296 : Nat) : Int) := by
  subst ha hb
  unfold IntKind.wrap
  simp only [IntKind.bits, IntKind.signed]
  simp
  omega
theorem bit_not {z : Nat} (h : z < 4294967296) : (4294967295 - z) / 2 ^ 31 = 1 - z / 2 ^ 31 := by omega
theorem bor {x y c : Nat} (hx : x < 4294967296) (hy : y < 4294967296) (hc : c ≤ 1) : (((4294967295 - x) &&& y) ||| ((4294967295 - (x ^^^ y)) &&& ((4294967296 + x - y - c) % 4294967296))) / 2147483648 = 1 - (4294967296 + x - y - c) / 4294967296 := by
  have hz : x ^^^ y < 4294967296 := show x ^^^ y < 2 ^ 32 from Nat.xor_lt_two_pow hx hy
  have e1 : ∀ a b : Nat, (a &&& b) / 2 ^ 31 = (a / 2 ^ 31) &&& (b / 2 ^ 31) := fun a b => by simp only [← Nat.shiftRight_eq_div_pow, Nat.shiftRight_and_distrib]
  have e2 : ∀ a b : Nat, (a ||| b) / 2 ^ 31 = (a / 2 ^ 31) ||| (b / 2 ^ 31) := fun a b => by simp only [← Nat.shiftRight_eq_div_pow, Nat.shiftRight_or_distrib]
  have e3 : ∀ a b : Nat, (a ^^^ b) / 2 ^ 31 = (a / 2 ^ 31) ^^^ (b / 2 ^ 31) := fun a b => by simp only [← Nat.shiftRight_eq_div_pow, Nat.shiftRight_xor_distrib]
  show _ / 2 ^ 31 = _
  rw [e2, e1, e1, bit_not hx, bit_not hz, e3]
  have h1 : x / 2 ^ 31 = 0 ∨ x / 2 ^ 31 = 1 := by omega
  have h2 : y / 2 ^ 31 = 0 ∨ y / 2 ^ 31 = 1 := by omega
  have h3 : (4294967296 + x - y - c) % 4294967296 / 2 ^ 31 = 0 ∨ (4294967296 + x - y - c) % 4294967296 / 2 ^ 31 = 1 := by omega
  rcases h1 with h1 | h1 <;> rcases h2 with h2 | h2 <;> rcases h3 with h3 | h3 <;> rw [h1, h2, h3] <;> simp <;> omega
theorem p_sub32 {x y c : Nat} (hx : x < 4294967296) (hy : y < 4294967296) (hc : c ≤ 1) : Gets Try.cx 92 [intA .u32 (x : Int), intA .u32 (y : Int), intA .u32 (c : Int)] (.tu [intA .u32 ((((4294967296 + x - y - c) % 4294967296 : Nat)) : Int), intA .u32 ((1 - (4294967296 + x - y - c) / 4294967296 : Nat) : Int)]) := by
  refine gets_of (fn := Try.f92) (by kernel_rfl) rfl ?_
  show EvK _ _ _ ⟨[intA .u32 (x : Int), intA .u32 (y : Int), intA .u32 (c : Int)] ++ us 22, ⟨[], 0⟩⟩ _
  refine ev_seq ?_
  refine ev_reg (by kernel_rfl) ?_
  refine rs_alu [(6, intA .u32 0), (7, intA .u32 0)] (fun cf => by kernel_rfl) ?_
  refine ev_seq ?_
  refine ev_reg (by kernel_rfl) ?_
  refine rs_up 3 [(8, intA .u32 (x : Int)), (9, intA .u32 (y : Int)), (10, intA .u32 (IntKind.wrap .u32 ((x : Int) - (y : Int))))] (fun cf => by kernel_rfl) ?_
  rw [subM (A := x) (B := y) (by rfl) (by rfl) hx hy]
  refine rs_up 2 [(11, intA .u32 (c : Int)), (12, intA .u32 (IntKind.wrap .u32 ((((4294967296 + x - y) % 4294967296 : Nat) : Int) - (c : Int))))] (fun cf => by kernel_rfl) ?_
  rw [(show IntKind.wrap .u32 ((((4294967296 + x - y) % 4294967296 : Nat) : Int) - (c : Int)) = (((4294967296 + x - y - c) % 4294967296 : Nat) : Int) by rw [subM (A := (4294967296 + x - y) % 4294967296) (B := c) rfl rfl (by omega) (by omega)]; omega)]
  refine rs_alu [(6, intA .u32 (((4294967296 + x - y - c) % 4294967296 : Nat) : Int))] (fun cf => by kernel_rfl) ?_
  refine ev_seq ?_
  refine ev_reg (by kernel_rfl) ?_
  refine rs_up 1 [(13, intA .u32 (x : Int))] (fun cf => by kernel_rfl) ?_
  refine rs_cv (fun m9 => unA .xor (intA .u32 (x : Int))) (some 14) (intA .u32 ((4294967295 - x : Nat) : Int)) (fun cf => by kernel_rfl) (notW (A := x) (by rfl) (by omega)) ?_
  refine rs_up 1 [(15, intA .u32 (y : Int))] (fun cf => by kernel_rfl) ?_
  refine rs_cv (fun m9 => binA Try.cx m9 .and 22 (intA .u32 ((4294967295 - x : Nat) : Int)) (intA .u32 (y : Int))) (some 16) (intA .u32 (((4294967295 - x) &&& y : Nat) : Int)) (fun cf => by kernel_rfl) (andW (A := 4294967295 - x) (B := y) (by rfl) (by rfl) (by omega) (by omega)) ?_
  refine rs_up 2 [(17, intA .u32 (x : Int)), (18, intA .u32 (y : Int))] (fun cf => by kernel_rfl) ?_
  refine rs_cv (fun m9 => binA Try.cx m9 .xor 22 (intA .u32 (x : Int)) (intA .u32 (y : Int))) (some 19) (intA .u32 ((x ^^^ y : Nat) : Int)) (fun cf => by kernel_rfl) (xorW (A := x) (B := y) (by rfl) (by rfl) (by omega) (by omega)) ?_
  refine rs_cv (fun m9 => unA .xor (intA .u32 ((x ^^^ y : Nat) : Int))) (some 20) (intA .u32 ((4294967295 - (x ^^^ y) : Nat) : Int)) (fun cf => by kernel_rfl) (notW (A := x ^^^ y) (by rfl) (show x ^^^ y < 2 ^ 32 from Nat.xor_lt_two_pow hx hy)) ?_
  refine rs_up 1 [(21, intA .u32 (((4294967296 + x - y - c) % 4294967296 : Nat) : Int))] (fun cf => by kernel_rfl) ?_
  refine rs_cv (fun m9 => binA Try.cx m9 .and 22 (intA .u32 ((4294967295 - (x ^^^ y) : Nat) : Int)) (intA .u32 (((4294967296 + x - y - c) % 4294967296 : Nat) : Int))) (some 22) (intA .u32 (((4294967295 - (x ^^^ y)) &&& ((4294967296 + x - y - c) % 4294967296) : Nat) : Int)) (fun cf => by kernel_rfl) (andW (A := 4294967295 - (x ^^^ y)) (B := (4294967296 + x - y - c) % 4294967296) (by rfl) (by rfl) (by omega) (by omega)) ?_
  refine rs_cv (fun m9 => binA Try.cx m9 .or 22 (intA .u32 (((4294967295 - x) &&& y : Nat) : Int)) (intA .u32 (((4294967295 - (x ^^^ y)) &&& ((4294967296 + x - y - c) % 4294967296) : Nat) : Int))) (some 23) (intA .u32 ((((4294967295 - x) &&& y) ||| ((4294967295 - (x ^^^ y)) &&& ((4294967296 + x - y - c) % 4294967296)) : Nat) : Int)) (fun cf => by kernel_rfl) (orW (A := (4294967295 - x) &&& y) (B := (4294967295 - (x ^^^ y)) &&& ((4294967296 + x - y - c) % 4294967296)) (by rfl) (by rfl) (Nat.lt_of_le_of_lt Nat.and_le_right hy) (Nat.lt_of_le_of_lt Nat.and_le_right (Nat.mod_lt _ (by decide)))) ?_
  refine rs_up 1 [(24, intA .u32 (Int.fdiv ((((4294967295 - x) &&& y) ||| ((4294967295 - (x ^^^ y)) &&& ((4294967296 + x - y - c) % 4294967296)) : Nat) : Int) (2 ^ 31)))] (fun cf => by kernel_rfl) ?_
  rw [shrN (A := ((4294967295 - x) &&& y) ||| ((4294967295 - (x ^^^ y)) &&& ((4294967296 + x - y - c) % 4294967296))) (k := 31) (by rfl) (by rfl)]
  refine rs_all (s1 := ⟨[intA .u32 (x : Int), intA .u32 (y : Int), intA .u32 (c : Int)] ++ us 3 ++ [intA .u32 (((4294967296 + x - y - c) % 4294967296 : Nat) : Int), intA .u32 (((((4294967295 - x) &&& y) ||| ((4294967295 - (x ^^^ y)) &&& ((4294967296 + x - y - c) % 4294967296))) / 2147483648 : Nat) : Int), intA .u32 (x : Int), intA .u32 (y : Int), intA .u32 (((4294967296 + x - y) % 4294967296 : Nat) : Int), intA .u32 (c : Int), intA .u32 (((4294967296 + x - y - c) % 4294967296 : Nat) : Int), intA .u32 (x : Int), intA .u32 ((4294967295 - x : Nat) : Int), intA .u32 (y : Int), intA .u32 (((4294967295 - x) &&& y : Nat) : Int), intA .u32 (x : Int), intA .u32 (y : Int), intA .u32 ((x ^^^ y : Nat) : Int), intA .u32 ((4294967295 - (x ^^^ y) : Nat) : Int), intA .u32 (((4294967296 + x - y - c) % 4294967296 : Nat) : Int), intA .u32 (((4294967295 - (x ^^^ y)) &&& ((4294967296 + x - y - c) % 4294967296) : Nat) : Int), intA .u32 ((((4294967295 - x) &&& y) ||| ((4294967295 - (x ^^^ y)) &&& ((4294967296 + x - y - c) % 4294967296)) : Nat) : Int), intA .u32 (((((4294967295 - x) &&& y) ||| ((4294967295 - (x ^^^ y)) &&& ((4294967296 + x - y - c) % 4294967296))) / 2147483648 : Nat) : Int)], ⟨[], 0⟩⟩) (fun cf => by kernel_rfl) ?_
  refine ev_ret ?_
  refine leaf (r0 := .tu [intA .u32 (((4294967296 + x - y - c) % 4294967296 : Nat) : Int), intA .u32 (((((4294967295 - x) &&& y) ||| ((4294967295 - (x ^^^ y)) &&& ((4294967296 + x - y - c) % 4294967296))) / 2147483648 : Nat) : Int)]) (r1 := .tu [intA .u32 (((4294967296 + x - y - c) % 4294967296 : Nat) : Int), intA .u32 (((((4294967295 - x) &&& y) ||| ((4294967295 - (x ^^^ y)) &&& ((4294967296 + x - y - c) % 4294967296))) / 2147483648 : Nat) : Int)]) (.inr rfl) (by kernel_rfl) (by kernel_rfl) ?_
  exact congrArg (fun q : Nat => AV.tu [intA .u32 ((((4294967296 + x - y - c) % 4294967296 : Nat)) : Int), intA .u32 (q : Int)]) (bor hx hy hc)
noncomputable def psubC : Code := (lft (lft (rgt (lft (rgt (rgt (rgt (Try.f72.body.getD .skip))))))))
theorem psub_round {K : Out → St → Prop} {a b o : List Nat} {x y : D} {i c : Nat} (x8 x9 x10 x11 : AV) (hx : Ws a x) (hy : Ws b y) (ha : Ok a) (hb : Ok b) (hn : a.length < 1000000000) (ho : o.length = a.length) (hc : c ≤ 1) (z7 z14 z15 z16 z17 z18 z19 z20 z21 z22 z23 z24 z25 z26 z27 z28 z29 z30 z31 : AV) (h0 : a.length ≤ i → ∀ z7 z14 z15 z16 z17 z18 z19 z20 z21 z22 z23 z24 z25 z26 z27 z28 z29 z30 z31, K (.exit 0) ⟨[.d x, .d y, U, U, .d (.v (.slice none 0 0)), .own 0 0 0 a.length 1 (some a.length), intA .u32 (c : Int), z7, x8, x9, x10, x11, J (a.length : Int), J (i : Int), z14, z15, z16, z17, z18, z19, z20, z21, z22, z23, z24, z25, z26, z27, z28, z29, z30, z31, U, U], ⟨[.row (wa (o)) 0 .ow none], 1⟩⟩) (h1 : i < a.length → ∀ z7 z14 z15 z16 z17 z18 z19 z20 z21 z22 z23 z24 z25 z26 z27 z28 z29 z30 z31, EvK Try.cx 72 (.loop psubC) ⟨[.d x, .d y, U, U, .d (.v (.slice none 0 0)), .own 0 0 0 a.length 1 (some a.length), intA .u32 ((1 - (4294967296 + a.getD i 0 - b.getD i 0 - c) / 4294967296 : Nat) : Int), z7, x8, x9, x10, x11, J (a.length : Int), J ((i + 1 : Nat) : Int), z14, z15, z16, z17, z18, z19, z20, z21, z22, z23, z24, z25, z26, z27, z28, z29, z30, z31, U, U], ⟨[.row (wa (o.set i ((4294967296 + a.getD i 0 - b.getD i 0 - c) % 4294967296))) 0 .ow none], 1⟩⟩ K) : EvK Try.cx 72 (.loop psubC) ⟨[.d x, .d y, U, U, .d (.v (.slice none 0 0)), .own 0 0 0 a.length 1 (some a.length), intA .u32 (c : Int), z7, x8, x9, x10, x11, J (a.length : Int), J (i : Int), z14, z15, z16, z17, z18, z19, z20, z21, z22, z23, z24, z25, z26, z27, z28, z29, z30, z31, U, U], ⟨[.row (wa (o)) 0 .ow none], 1⟩⟩ K := by
  refine ev_loop ?_
  refine ev_seq ?_
  refine ev_reg (by kernel_rfl) ?_
  refine rs_all (s1 := ⟨[.d x, .d y, U, U, .d (.v (.slice none 0 0)), .own 0 0 0 a.length 1 (some a.length), intA .u32 (c : Int), z7, x8, x9, x10, x11, J (a.length : Int), J (i : Int), boolA (decide ((i : Int) < (a.length : Int))), z15, z16, z17, z18, z19, z20, z21, z22, z23, z24, z25, z26, z27, z28, z29, z30, z31, U, U], ⟨[.row (wa (o)) 0 .ow none], 1⟩⟩) (fun cf => by kernel_rfl) ?_
  refine ev_seq ?_
  rcases hb1 : ((decide ((i : Int) < (a.length : Int))) : Bool) with _ | _
  ·
    have hb1' := of_decide_eq_false hb1
    refine ev_false (by kernel_rfl) ?_
    refine ev_exit ?_
    exact h0 (by omega) _ _ _ _ _ _ _ _ _ _ _ _ _ _ _ _ _ _ _
  ·
    have hb1' := of_decide_eq_true hb1
    refine ev_true (by kernel_rfl) ?_
    refine ev_skip ?_
    refine ev_seq ?_
    refine ev_block ?_
    refine ev_seq ?_
    refine ev_reg (by kernel_rfl) ?_
    refine rs_alu [(7, J (i : Int)), (15, J (i : Int))] (fun cf => by kernel_rfl) ?_
    refine ev_reg (by kernel_rfl) ?_
    refine rs_up 4 [(17, .own 0 0 0 a.length 1 (some a.length)), (18, J (i : Int)), (19, .d x), (20, J (i : Int))] (fun cf => by kernel_rfl) ?_
    refine rs_cv (fun m9 => indexAddrA Try.cx 83 m9 (.d x) (J (i : Int))) (some 21) (.rp [.v (.int .u32 ((a.getD i 0 : Nat) : Int))]) (fun cf => by kernel_rfl) (idx_wsN (k := i) hx (by rfl) (by omega)) ?_
    refine rs_up 3 [(22, intA .u32 ((a.getD i 0 : Nat) : Int)), (23, .d y), (24, J (i : Int))] (fun cf => by kernel_rfl) ?_
    refine rs_cp 83 [.d y, J (i : Int)] false (some 25) (intA .u32 ((b.getD i 0 : Nat) : Int)) (by kernel_rfl) (g_at (i := i) hy) (by kernel_rfl) ?_
    refine rs_up 1 [(26, intA .u32 (c : Int))] (fun cf => by kernel_rfl) ?_
    refine rs_cp 92 [intA .u32 ((a.getD i 0 : Nat) : Int), intA .u32 ((b.getD i 0 : Nat) : Int), intA .u32 (c : Int)] false (some 27) (.tu [intA .u32 (((4294967296 + (a.getD i 0) - (b.getD i 0) - c) % 4294967296 : Nat) : Int), intA .u32 ((1 - (4294967296 + (a.getD i 0) - (b.getD i 0) - c) / 4294967296 : Nat) : Int)]) (by kernel_rfl) (p_sub32 (x := a.getD i 0) (y := b.getD i 0) (c := c) (ha _) (hb _) hc) (by kernel_rfl) ?_
    refine rs_up 3 [(16, .tu [intA .u32 (((4294967296 + (a.getD i 0) - (b.getD i 0) - c) % 4294967296 : Nat) : Int), intA .u32 ((1 - (4294967296 + (a.getD i 0) - (b.getD i 0) - c) / 4294967296 : Nat) : Int)]), (28, intA .u32 (((4294967296 + (a.getD i 0) - (b.getD i 0) - c) % 4294967296 : Nat) : Int)), (29, intA .u32 ((1 - (4294967296 + (a.getD i 0) - (b.getD i 0) - c) / 4294967296 : Nat) : Int))] (fun cf => by kernel_rfl) ?_
    refine rs_cv (fun m9 => indexAddrA Try.cx 83 m9 (.own 0 0 0 a.length 1 (some a.length)) (J (i : Int))) (some 30) (.ptr 0 0 i) (fun cf => by kernel_rfl) (idx_ownN (k := i) (by rfl) (row_at rfl) (by omega)) ?_
    refine rs_cu (fun m9 => storeA Try.cx 22 m9 (.ptr 0 0 i) (intA .u32 (((4294967296 + (a.getD i 0) - (b.getD i 0) - c) % 4294967296 : Nat) : Int))) none ⟨[.row (wa (o.set i ((4294967296 + (a.getD i 0) - (b.getD i 0) - c) % 4294967296))) 0 .ow none], 1⟩ (fun cf => by kernel_rfl) (store_own (v := (4294967296 + (a.getD i 0) - (b.getD i 0) - c) % 4294967296) rfl (by omega)) ?_
    refine rs_alu [(6, intA .u32 ((1 - (4294967296 + (a.getD i 0) - (b.getD i 0) - c) / 4294967296 : Nat) : Int))] (fun cf => by kernel_rfl) ?_
    refine ev_reg (by kernel_rfl) ?_
    refine rs_up 1 [(31, J (IntKind.wrap .i64 ((i : Int) + 1)))] (fun cf => by kernel_rfl) ?_
    rw [addI (a := (i : Int)) (b := 1) (A := i) (B := 1) (by rfl) (by rfl) (by omega)]
    refine rs_all (s1 := ⟨[.d x, .d y, U, U, .d (.v (.slice none 0 0)), .own 0 0 0 a.length 1 (some a.length), intA .u32 ((1 - (4294967296 + (a.getD i 0) - (b.getD i 0) - c) / 4294967296 : Nat) : Int), J (i : Int), x8, x9, x10, x11, J (a.length : Int), J ((i + 1 : Nat) : Int), Yes, J (i : Int), .tu [intA .u32 (((4294967296 + (a.getD i 0) - (b.getD i 0) - c) % 4294967296 : Nat) : Int), intA .u32 ((1 - (4294967296 + (a.getD i 0) - (b.getD i 0) - c) / 4294967296 : Nat) : Int)], .own 0 0 0 a.length 1 (some a.length), J (i : Int), .d x, J (i : Int), .rp [.v (.int .u32 ((a.getD i 0 : Nat) : Int))], intA .u32 ((a.getD i 0 : Nat) : Int), .d y, J (i : Int), intA .u32 ((b.getD i 0 : Nat) : Int), intA .u32 (c : Int), .tu [intA .u32 (((4294967296 + (a.getD i 0) - (b.getD i 0) - c) % 4294967296 : Nat) : Int), intA .u32 ((1 - (4294967296 + (a.getD i 0) - (b.getD i 0) - c) / 4294967296 : Nat) : Int)], intA .u32 (((4294967296 + (a.getD i 0) - (b.getD i 0) - c) % 4294967296 : Nat) : Int), intA .u32 ((1 - (4294967296 + (a.getD i 0) - (b.getD i 0) - c) / 4294967296 : Nat) : Int), .ptr 0 0 i, J ((i + 1 : Nat) : Int), U, U], ⟨[.row (wa (o.set i ((4294967296 + (a.getD i 0) - (b.getD i 0) - c) % 4294967296))) 0 .ow none], 1⟩⟩) (fun cf => by kernel_rfl) ?_
    exact h1 (by omega) _ _ _ _ _ _ _ _ _ _ _ _ _ _ _ _ _ _ _
theorem psub_loop {K : Out → St → Prop} {a b : List Nat} {x y : D} (x8 x9 x10 x11 : AV) (hx : Ws a x) (hy : Ws b y) (ha : Ok a) (hb : Ok b) (hn : a.length < 1000000000) :
    ∀ (r : Nat) (p : List Nat) (c : Nat) (z7 z14 z15 z16 z17 z18 z19 z20 z21 z22 z23 z24 z25 z26 z27 z28 z29 z30 z31 : AV) (he : p.length + r = a.length) (hc : c ≤ 1) (h : ∀ (c1 : Nat) (z7 z14 z15 z16 z17 z18 z19 z20 z21 z22 z23 z24 z25 z26 z27 z28 z29 z30 z31 : AV), K (.exit 0) ⟨[.d x, .d y, U, U, .d (.v (.slice none 0 0)), .own 0 0 0 a.length 1 (some a.length), intA .u32 (c1 : Int), z7, x8, x9, x10, x11, J (a.length : Int), J (a.length : Int), z14, z15, z16, z17, z18, z19, z20, z21, z22, z23, z24, z25, z26, z27, z28, z29, z30, z31, U, U], ⟨[.row (wa (p ++ difW a b r p.length c)) 0 .ow none], 1⟩⟩), EvK Try.cx 72 (.loop psubC) ⟨[.d x, .d y, U, U, .d (.v (.slice none 0 0)), .own 0 0 0 a.length 1 (some a.length), intA .u32 (c : Int), z7, x8, x9, x10, x11, J (a.length : Int), J (p.length : Int), z14, z15, z16, z17, z18, z19, z20, z21, z22, z23, z24, z25, z26, z27, z28, z29, z30, z31, U, U], ⟨[.row (wa (p ++ List.replicate r 0)) 0 .ow none], 1⟩⟩ K
  | 0, p, c, z7, z14, z15, z16, z17, z18, z19, z20, z21, z22, z23, z24, z25, z26, z27, z28, z29, z30, z31, he, hc, h => by
    have h := h c
    rw [← he] at h
    exact psub_round x8 x9 x10 x11 hx hy ha hb hn (by simp; omega) hc z7 z14 z15 z16 z17 z18 z19 z20 z21 z22 z23 z24 z25 z26 z27 z28 z29 z30 z31 (fun _ => by rw [← he]; exact h) fun h1 => by omega
  | r + 1, p, c, z7, z14, z15, z16, z17, z18, z19, z20, z21, z22, z23, z24, z25, z26, z27, z28, z29, z30, z31, he, hc, h => by
    refine psub_round x8 x9 x10 x11 hx hy ha hb hn (by simp; omega) hc z7 z14 z15 z16 z17 z18 z19 z20 z21 z22 z23 z24 z25 z26 z27 z28 z29 z30 z31 (fun h0 => by omega) fun _ z7 z14 z15 z16 z17 z18 z19 z20 z21 z22 z23 z24 z25 z26 z27 z28 z29 z30 z31 => ?_
    have e : (p ++ List.replicate (r + 1) 0).set p.length ((4294967296 + a.getD p.length 0 - b.getD p.length 0 - c) % 4294967296) = (p ++ [(4294967296 + a.getD p.length 0 - b.getD p.length 0 - c) % 4294967296]) ++ List.replicate r 0 := by rw [List.replicate_succ, set_snoc]
    rw [e, show p.length + 1 = (p ++ [(4294967296 + a.getD p.length 0 - b.getD p.length 0 - c) % 4294967296]).length by simp]
    refine psub_loop x8 x9 x10 x11 hx hy ha hb hn r _ _ z7 z14 z15 z16 z17 z18 z19 z20 z21 z22 z23 z24 z25 z26 z27 z28 z29 z30 z31 (by simp; omega) (by omega) ?_
    simp only [List.length_append, List.length_singleton, List.append_assoc, List.singleton_append]
    exact h
theorem p_sub {a b : List Nat} {x y : D} (hx : Ws a x) (hy : Ws b y) (ha : Ok a) (hb : Ok b) (hl : a.length < 100000000) : ∃ res : D, (fun y => Ws (subL a b) y) res ∧ Gets Try.cx 72 [.d x, .d y] ((fun y => .d y) res) := by
  refine gets_some (fn := Try.f72) (fun y => Ws (subL a b) y) (fun y => .d y) (by kernel_rfl) rfl ?_
  show EvK _ _ _ ⟨[.d x, .d y] ++ us 32, ⟨[], 0⟩⟩ _
  refine ev_seq ?_
  refine ev_reg (by kernel_rfl) ?_
  refine rs_alu [(4, .d (.v (.slice none 0 0)))] (fun cf => by kernel_rfl) ?_
  refine ev_seq ?_
  refine ev_reg (by kernel_rfl) ?_
  refine rs_up 1 [(8, .d x)] (fun cf => by kernel_rfl) ?_
  refine rs_cl (fun m9 => lenA Try.cx 83 m9 (.d x)) (some 9) (a.length) (fun cf => by kernel_rfl) (len_wsN hx) ?_
  refine rs_co (fun m9 => opA Try.cx (fun _ => false) [J (a.length : Int)] m9 ⟨none, .makeSlice 83 (.tmp 0) (.tmp 0), 0, "", #[], none⟩) (some 10) (.own 0 0 0 a.length 1 (some a.length)) ⟨[.row (wa (List.replicate a.length 0)) 0 .ow none], 1⟩ (fun cf => by kernel_rfl) (make_wsN (k := a.length) (by rfl) (by omega)) ?_
  refine rs_alu [(5, .own 0 0 0 a.length 1 (some a.length))] (fun cf => by kernel_rfl) ?_
  refine ev_seq ?_
  refine ev_reg (by kernel_rfl) ?_
  refine rs_alu [(6, intA .u32 0)] (fun cf => by kernel_rfl) ?_
  refine ev_seq ?_
  refine ev_seq ?_
  refine ev_reg (by kernel_rfl) ?_
  refine rs_all (s1 := ⟨[.d x, .d y, U, U, .d (.v (.slice none 0 0)), .own 0 0 0 a.length 1 (some a.length), intA .u32 0, U, .d x, J (a.length : Int), .own 0 0 0 a.length 1 (some a.length), .own 0 0 0 a.length 1 (some a.length), J a.length, J 0] ++ us 20, ⟨[.row (wa (List.replicate a.length 0)) 0 .ow none], 1⟩⟩) (fun cf => by kernel_rfl) ?_
  refine ev_block ?_
  refine psub_loop _ _ _ _ hx hy ha hb (by omega) a.length [] 0 _ _ _ _ _ _ _ _ _ _ _ _ _ _ _ _ _ _ _ (by simp) (by omega) fun c1 v7 v14 v15 v16 v17 v18 v19 v20 v21 v22 v23 v24 v25 v26 v27 v28 v29 v30 v31 => ?_
  have hlen := difW_len a b a.length 0 0
  refine ev_seq ?_
  refine ev_reg (by kernel_rfl) ?_
  refine rs_up 1 [(32, .own 0 0 0 a.length 1 (some a.length))] (fun cf => by kernel_rfl) ?_
  refine rs_take 0 (s1 := ⟨[.d x, .d y, U, U, .d (.v (.slice none 0 0)), .own 0 0 0 a.length 1 (some a.length), intA .u32 (c1 : Int), v7, .d x, J (a.length : Int), .own 0 0 0 a.length 1 (some a.length), .own 0 0 0 a.length 1 (some a.length), J a.length, J (a.length : Int), v14, v15, v16, v17, v18, v19, v20, v21, v22, v23, v24, v25, v26, v27, v28, v29, v30, v31, .own 0 0 0 a.length 1 (some a.length), U], ⟨[.row (wa (difW a b a.length 0 0)) 0 .ow none], 1⟩⟩) (fun cf => by kernel_rfl) ?_
  obtain ⟨y1, hy1, gy1⟩ := g_norm (ws_sl false (difW a b a.length 0 0)) (by first | decide | omega)
  refine rs_frz (g := 88) (bs := [.d (.sl false (difW a b a.length 0 0).length (wd (difW a b a.length 0 0)))]) (ow := true) (r := .d y1) (Eq.trans (b := match mapO (snapA (⟨[.row (wa (difW a b a.length 0 0)) 0 .ow none], 1⟩ : Mem)) [.own 0 0 0 a.length 1 (some a.length)] with | some bs => some (88, bs, true) | none => none) (by kernel_rfl) (by rw [mapO_one (snap_own (l := difW a b a.length 0 0) (row_at rfl) (by omega))])) (gy1) fun m1 hEm1 _ => ?_
  show RS _ _ _ _ _ ⟨[.d x, .d y, U, U, .d (.v (.slice none 0 0)), .own 0 0 0 a.length 1 (some a.length), intA .u32 (c1 : Int), v7, .d x, J (a.length : Int), .own 0 0 0 a.length 1 (some a.length), .own 0 0 0 a.length 1 (some a.length), J a.length, J (a.length : Int), v14, v15, v16, v17, v18, v19, v20, v21, v22, v23, v24, v25, v26, v27, v28, v29, v30, v31, .own 0 0 0 a.length 1 (some a.length), .d y1], m1⟩ _
  refine rs_all (s1 := ⟨[.d x, .d y, U, U, .d y1, .own 0 0 0 a.length 1 (some a.length), intA .u32 (c1 : Int), v7, .d x, J (a.length : Int), .own 0 0 0 a.length 1 (some a.length), .own 0 0 0 a.length 1 (some a.length), J a.length, J (a.length : Int), v14, v15, v16, v17, v18, v19, v20, v21, v22, v23, v24, v25, v26, v27, v28, v29, v30, v31, .own 0 0 0 a.length 1 (some a.length), .d y1], m1⟩) (fun cf => by kernel_rfl) ?_
  refine ev_ret ?_
  exact ⟨y1, hy1, .inr rfl, .d y1, by kernel_rfl, by kernel_rfl⟩
end Go.Proofs.Ytgkjdfojogemhaa.W
