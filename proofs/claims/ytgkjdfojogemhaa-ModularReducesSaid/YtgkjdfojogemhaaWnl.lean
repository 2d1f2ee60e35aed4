/-
  The reference: numbers made out of a raw one. Made by program. Conditions: none.
-/
import Derived.Test.YtgkjdfojogemhaaWnk
set_option maxRecDepth 100000
set_option maxHeartbeats 20000000
set_option linter.unusedSimpArgs false
set_option linter.unusedVariables false
namespace Go.Proofs.Ytgkjdfojogemhaa.W
open Go.Am


theorem g_rmade {n d : Int} {k : Nat} (h1 : -128 ≤ n) (h2 : n ≤ 127) (h3 : -128 ≤ d) (h4 : d ≤ 127) (h5 : k ≤ 255) : ∃ res : (Bool × D) × (Bool × D), (fun (r : (Bool × D) × (Bool × D)) => ∃ (N E : Int) (la lb : List Nat), E ≠ 0 ∧ Iv (ratN N E) r.1.1 r.1.2 la ∧ la.length ≤ 10 ∧ Iv (ratD N E) r.2.1 r.2.2 lb ∧ lb.length ≤ 10) res ∧ Gets Try.cx 15 [.ag [intA .i8 n, intA .i8 d, intA .u8 (k : Int)]] ((fun (r : (Bool × D) × (Bool × D)) => .ag [boolA r.1.1, .d r.1.2, boolA r.2.1, .d r.2.2]) res) := by
  refine gets_some (fn := Try.f15) (fun (r : (Bool × D) × (Bool × D)) => ∃ (N E : Int) (la lb : List Nat), E ≠ 0 ∧ Iv (ratN N E) r.1.1 r.1.2 la ∧ la.length ≤ 10 ∧ Iv (ratD N E) r.2.1 r.2.2 lb ∧ lb.length ≤ 10) (fun (r : (Bool × D) × (Bool × D)) => .ag [boolA r.1.1, .d r.1.2, boolA r.2.1, .d r.2.2]) (by kernel_rfl) rfl ?_
  show EvK _ _ _ ⟨[.ag [intA .i8 n, intA .i8 d, intA .u8 (k : Int)]] ++ us 48, ⟨[], 0⟩⟩ _
  refine ev_seq ?_
  refine ev_reg (by kernel_rfl) ?_
  refine rs_alm [(1, .ptr 0 0 0), (2, .ptr 1 1 0)] ⟨[.row [intA .i8 n, intA .i8 d, intA .u8 (k : Int)] 0 .ow none, .row [No, .d (.v (.slice none 0 0)), No, .d (.v (.slice none 0 0))] 1 .ow none], 2⟩ (fun cf => by kernel_rfl) ?_
  refine ev_seq ?_
  refine ev_reg (by kernel_rfl) ?_
  refine rs_up 3 [(6, .ptr 0 0 0), (7, intA .i8 n), (8, J (IntKind.wrap .i64 n))] (fun cf => by kernel_rfl) ?_
  rw [wrapI (n := n) (by omega) (by omega)]
  obtain ⟨⟨s1, x1⟩, ⟨l1, I1⟩, g1⟩ := g_of (n := n) (by omega) (by omega)
  have hll1 : l1.length ≤ 2 := iv_len I1 (of_lt (by omega) (by omega))
  refine rs_cp 27 [J n] false (some 9) (.ag [boolA s1, .d x1]) (by kernel_rfl) (g1) (by kernel_rfl) ?_
  refine rs_up 3 [(10, .ptr 0 0 1), (11, intA .i8 d), (12, J (IntKind.wrap .i64 d))] (fun cf => by kernel_rfl) ?_
  rw [wrapI (n := d) (by omega) (by omega)]
  obtain ⟨⟨s2, x2⟩, ⟨l2, I2⟩, g2⟩ := g_of (n := d) (by omega) (by omega)
  have hll2 : l2.length ≤ 2 := iv_len I2 (of_lt (by omega) (by omega))
  refine rs_cp 27 [J d] false (some 13) (.ag [boolA s2, .d x2]) (by kernel_rfl) (g2) (by kernel_rfl) ?_
  refine rs_upm 2 [(3, .ptr 2 2 0), (4, .ptr 3 3 0)] ⟨[.row [intA .i8 n, intA .i8 d, intA .u8 (k : Int)] 0 .ow none, .row [No, .d (.v (.slice none 0 0)), No, .d (.v (.slice none 0 0))] 1 .ow none, .row [No, .d (.v (.slice none 0 0))] 2 .ow none, .row [No, .d (.v (.slice none 0 0))] 3 .ow none], 4⟩ (fun cf => by kernel_rfl) ?_
  refine rs_cu (fun m9 => storeA Try.cx 34 m9 (.ptr 2 2 0) (.ag [boolA s1, .d x1])) none ⟨[.row [intA .i8 n, intA .i8 d, intA .u8 (k : Int)] 0 .ow none, .row [No, .d (.v (.slice none 0 0)), No, .d (.v (.slice none 0 0))] 1 .ow none, .row [boolA s1, .d x1] 2 .ow none, .row [No, .d (.v (.slice none 0 0))] 3 .ow none], 4⟩ (fun cf => by kernel_rfl) (store_int I1.1 rfl) ?_
  refine rs_cu (fun m9 => storeA Try.cx 34 m9 (.ptr 3 3 0) (.ag [boolA s2, .d x2])) none ⟨[.row [intA .i8 n, intA .i8 d, intA .u8 (k : Int)] 0 .ow none, .row [No, .d (.v (.slice none 0 0)), No, .d (.v (.slice none 0 0))] 1 .ow none, .row [boolA s1, .d x1] 2 .ow none, .row [boolA s2, .d x2] 3 .ow none], 4⟩ (fun cf => by kernel_rfl) (store_int I2.1 rfl) ?_
  refine rs_alu [] (fun cf => by kernel_rfl) ?_
  refine ev_seq ?_
  refine ev_seq ?_
  refine ev_reg (by kernel_rfl) ?_
  refine rs_alu [(14, .ptr 0 0 1), (15, intA .i8 d), (16, boolA (d == 0))] (fun cf => by kernel_rfl) ?_
  rcases hb3 : ((d == 0) : Bool) with _ | _
  ·
    have hb3' := beq_no hb3
    refine ev_false (by kernel_rfl) ?_
    refine ev_skip ?_
    refine ev_seq ?_
    refine ev_reg (by kernel_rfl) ?_
    refine rs_up 3 [(18, .ptr 0 0 2), (19, intA .u8 (k : Int)), (20, J (IntKind.wrap .i64 (k : Int)))] (fun cf => by kernel_rfl) ?_
    rw [wrapIn (n := k) (by omega)]
    refine rs_up 1 [(21, J (IntKind.wrap .i64 (4611686018427387904 + (k : Int))))] (fun cf => by kernel_rfl) ?_
    rw [addI (a := 4611686018427387904) (b := (k : Int)) (A := 4611686018427387904) (B := k) (by rfl) (by rfl) (by omega)]
    obtain ⟨⟨s4, x4⟩, ⟨l4, I4⟩, g4⟩ := g_of (n := ((4611686018427387904 + k : Nat) : Int)) (by omega) (by omega)
    have hll4 : l4.length ≤ 2 := iv_len I4 (of_lt (by omega) (by omega))
    refine rs_cp 27 [J ((4611686018427387904 + k : Nat) : Int)] false (some 22) (.ag [boolA s4, .d x4]) (by kernel_rfl) (g4) (by kernel_rfl) ?_
    refine rs_upm 1 [(5, .ptr 4 4 0)] ⟨[.row [intA .i8 n, intA .i8 d, intA .u8 (k : Int)] 0 .ow none, .row [No, .d (.v (.slice none 0 0)), No, .d (.v (.slice none 0 0))] 1 .ow none, .row [boolA s1, .d x1] 2 .ow none, .row [boolA s2, .d x2] 3 .ow none, .row [No, .d (.v (.slice none 0 0))] 4 .ow none], 5⟩ (fun cf => by kernel_rfl) ?_
    refine rs_cu (fun m9 => storeA Try.cx 34 m9 (.ptr 4 4 0) (.ag [boolA s4, .d x4])) none ⟨[.row [intA .i8 n, intA .i8 d, intA .u8 (k : Int)] 0 .ow none, .row [No, .d (.v (.slice none 0 0)), No, .d (.v (.slice none 0 0))] 1 .ow none, .row [boolA s1, .d x1] 2 .ow none, .row [boolA s2, .d x2] 3 .ow none, .row [boolA s4, .d x4] 4 .ow none], 5⟩ (fun cf => by kernel_rfl) (store_int I4.1 rfl) ?_
    refine rs_alu [] (fun cf => by kernel_rfl) ?_
    refine ev_seq ?_
    refine ev_seq ?_
    refine ev_reg (by kernel_rfl) ?_
    refine rs_up 3 [(23, .ptr 0 0 2), (24, intA .u8 (k : Int)), (25, intA .u8 (Int.tmod (k : Int) 8))] (fun cf => by kernel_rfl) ?_
    rw [remN (a := (k : Int)) (b := 8) (A := k) (B := 8) (by rfl) (by rfl)]
    refine rs_alu [(26, boolA (((k % 8 : Nat) : Int) == 7))] (fun cf => by kernel_rfl) ?_
    rcases hb5 : ((((k % 8 : Nat) : Int) == 7) : Bool) with _ | _
    ·
      have hb5' := beq_no hb5
      refine ev_false (by kernel_rfl) ?_
      refine ev_skip ?_
      refine ev_seq ?_
      refine ev_seq ?_
      refine ev_reg (by kernel_rfl) ?_
      refine rs_up 3 [(37, .ptr 0 0 2), (38, intA .u8 (k : Int)), (39, intA .u8 (Int.tmod (k : Int) 8))] (fun cf => by kernel_rfl) ?_
      rw [remN (a := (k : Int)) (b := 8) (A := k) (B := 8) (by rfl) (by rfl)]
      refine rs_all (s1 := ⟨[.ag [intA .i8 n, intA .i8 d, intA .u8 (k : Int)], .ptr 0 0 0, .ptr 1 1 0, .ptr 2 2 0, .ptr 3 3 0, .ptr 4 4 0, .ptr 0 0 0, intA .i8 n, J n, .ag [boolA s1, .d x1], .ptr 0 0 1, intA .i8 d, J d, .ag [boolA s2, .d x2], .ptr 0 0 1, intA .i8 d, No, U, .ptr 0 0 2, intA .u8 (k : Int), J (k : Int), J ((4611686018427387904 + k : Nat) : Int), .ag [boolA s4, .d x4], .ptr 0 0 2, intA .u8 (k : Int), intA .u8 ((k % 8 : Nat) : Int), No] ++ us 10 ++ [.ptr 0 0 2, intA .u8 (k : Int), intA .u8 ((k % 8 : Nat) : Int), boolA (((k % 8 : Nat) : Int) == 6)] ++ us 8, ⟨[.row [intA .i8 n, intA .i8 d, intA .u8 (k : Int)] 0 .ow none, .row [No, .d (.v (.slice none 0 0)), No, .d (.v (.slice none 0 0))] 1 .ow none, .row [boolA s1, .d x1] 2 .ow none, .row [boolA s2, .d x2] 3 .ow none, .row [boolA s4, .d x4] 4 .ow none], 5⟩⟩) (fun cf => by kernel_rfl) ?_
      rcases hb6 : ((((k % 8 : Nat) : Int) == 6) : Bool) with _ | _
      ·
        have hb6' := beq_no hb6
        refine ev_false (by kernel_rfl) ?_
        refine ev_skip ?_
        refine ev_seq ?_
        refine ev_reg (by kernel_rfl) ?_
        refine rs_up 2 [(46, .ag [boolA s1, .d x1]), (47, .ag [boolA s2, .d x2])] (fun cf => by kernel_rfl) ?_
        obtain ⟨⟨⟨sa7, xa7⟩, ⟨sb7, xb7⟩⟩, hlow7, g7⟩ := g_lowest I1 (by omega) I2 (by omega) ((by omega))
        obtain ⟨⟨la7, Ia7⟩, ⟨lb7, Ib7⟩⟩ := hlow7
        refine rs_cp 40 [.ag [boolA s1, .d x1], .ag [boolA s2, .d x2]] false (some 48) (.ag [boolA sa7, .d xa7, boolA sb7, .d xb7]) (by kernel_rfl) (g7) (by kernel_rfl) ?_
        refine rs_cu (fun m9 => storeA Try.cx 36 m9 (.ptr 1 1 0) (.ag [boolA sa7, .d xa7, boolA sb7, .d xb7])) none ⟨[.row [intA .i8 n, intA .i8 d, intA .u8 (k : Int)] 0 .ow none, .row [boolA sa7, .d xa7, boolA sb7, .d xb7] 1 .ow none, .row [boolA s1, .d x1] 2 .ow none, .row [boolA s2, .d x2] 3 .ow none, .row [boolA s4, .d x4] 4 .ow none], 5⟩ (fun cf => by kernel_rfl) (store_rat Ia7.1 Ib7.1 rfl) ?_
        refine rs_all (s1 := ⟨[.ag [intA .i8 n, intA .i8 d, intA .u8 (k : Int)], .ptr 0 0 0, .ptr 1 1 0, .ptr 2 2 0, .ptr 3 3 0, .ptr 4 4 0, .ptr 0 0 0, intA .i8 n, J n, .ag [boolA s1, .d x1], .ptr 0 0 1, intA .i8 d, J d, .ag [boolA s2, .d x2], .ptr 0 0 1, intA .i8 d, No, U, .ptr 0 0 2, intA .u8 (k : Int), J (k : Int), J ((4611686018427387904 + k : Nat) : Int), .ag [boolA s4, .d x4], .ptr 0 0 2, intA .u8 (k : Int), intA .u8 ((k % 8 : Nat) : Int), No] ++ us 10 ++ [.ptr 0 0 2, intA .u8 (k : Int), intA .u8 ((k % 8 : Nat) : Int), No] ++ us 5 ++ [.ag [boolA s1, .d x1], .ag [boolA s2, .d x2], .ag [boolA sa7, .d xa7, boolA sb7, .d xb7]], ⟨[.row [intA .i8 n, intA .i8 d, intA .u8 (k : Int)] 0 .ow none, .row [boolA sa7, .d xa7, boolA sb7, .d xb7] 1 .ow none, .row [boolA s1, .d x1] 2 .ow none, .row [boolA s2, .d x2] 3 .ow none, .row [boolA s4, .d x4] 4 .ow none], 5⟩⟩) (fun cf => by kernel_rfl) ?_
        refine ev_ret ?_
        exact ⟨((sa7, xa7), (sb7, xb7)), ⟨n, d, _, _, (by omega), Ia7, Nat.le_trans (iv_len Ia7 (Nat.lt_of_le_of_lt (div_natAbs_le _ _) (iv_lt I1))) (by omega), Ib7, Nat.le_trans (iv_len Ib7 (Nat.lt_of_le_of_lt (div_natAbs_le _ _) (iv_lt I2))) (by omega)⟩, .inr rfl, .ag [boolA sa7, .d xa7, boolA sb7, .d xb7], by kernel_rfl, by kernel_rfl⟩
      ·
        have hb6' := beq_yes hb6
        refine ev_true (by kernel_rfl) ?_
        refine ev_reg (by kernel_rfl) ?_
        refine rs_up 2 [(41, .ag [boolA s2, .d x2]), (42, .ag [boolA s4, .d x4])] (fun cf => by kernel_rfl) ?_
        obtain ⟨⟨s8, x8⟩, ⟨l8, I8⟩, g8⟩ := g_mul I2 (by omega) I4 (by omega)
        have hll8 : l8.length ≤ l2.length + l4.length := iv_len I8 (mul_lt (iv_lt I2) (iv_lt I4))
        refine rs_cp 28 [.ag [boolA s2, .d x2], .ag [boolA s4, .d x4]] false (some 43) (.ag [boolA s8, .d x8]) (by kernel_rfl) (g8) (by kernel_rfl) ?_
        refine rs_up 1 [(44, .ag [boolA s4, .d x4])] (fun cf => by kernel_rfl) ?_
        obtain ⟨⟨s9, x9⟩, ⟨l9, I9⟩, g9⟩ := g_mul I8 (by omega) I4 (by omega)
        have hll9 : l9.length ≤ l8.length + l4.length := iv_len I9 (mul_lt (iv_lt I8) (iv_lt I4))
        refine rs_cp 28 [.ag [boolA s8, .d x8], .ag [boolA s4, .d x4]] false (some 45) (.ag [boolA s9, .d x9]) (by kernel_rfl) (g9) (by kernel_rfl) ?_
        refine rs_cu (fun m9 => storeA Try.cx 34 m9 (.ptr 3 3 0) (.ag [boolA s9, .d x9])) none ⟨[.row [intA .i8 n, intA .i8 d, intA .u8 (k : Int)] 0 .ow none, .row [No, .d (.v (.slice none 0 0)), No, .d (.v (.slice none 0 0))] 1 .ow none, .row [boolA s1, .d x1] 2 .ow none, .row [boolA s9, .d x9] 3 .ow none, .row [boolA s4, .d x4] 4 .ow none], 5⟩ (fun cf => by kernel_rfl) (store_int I9.1 rfl) ?_
        refine rs_alu [] (fun cf => by kernel_rfl) ?_
        refine ev_seq ?_
        refine ev_reg (by kernel_rfl) ?_
        refine rs_up 2 [(46, .ag [boolA s1, .d x1]), (47, .ag [boolA s9, .d x9])] (fun cf => by kernel_rfl) ?_
        obtain ⟨⟨⟨sa10, xa10⟩, ⟨sb10, xb10⟩⟩, hlow10, g10⟩ := g_lowest I1 (by omega) I9 (by omega) ((Int.mul_ne_zero (Int.mul_ne_zero (by omega) (by omega)) (by omega)))
        obtain ⟨⟨la10, Ia10⟩, ⟨lb10, Ib10⟩⟩ := hlow10
        refine rs_cp 40 [.ag [boolA s1, .d x1], .ag [boolA s9, .d x9]] false (some 48) (.ag [boolA sa10, .d xa10, boolA sb10, .d xb10]) (by kernel_rfl) (g10) (by kernel_rfl) ?_
        refine rs_cu (fun m9 => storeA Try.cx 36 m9 (.ptr 1 1 0) (.ag [boolA sa10, .d xa10, boolA sb10, .d xb10])) none ⟨[.row [intA .i8 n, intA .i8 d, intA .u8 (k : Int)] 0 .ow none, .row [boolA sa10, .d xa10, boolA sb10, .d xb10] 1 .ow none, .row [boolA s1, .d x1] 2 .ow none, .row [boolA s9, .d x9] 3 .ow none, .row [boolA s4, .d x4] 4 .ow none], 5⟩ (fun cf => by kernel_rfl) (store_rat Ia10.1 Ib10.1 rfl) ?_
        refine rs_all (s1 := ⟨[.ag [intA .i8 n, intA .i8 d, intA .u8 (k : Int)], .ptr 0 0 0, .ptr 1 1 0, .ptr 2 2 0, .ptr 3 3 0, .ptr 4 4 0, .ptr 0 0 0, intA .i8 n, J n, .ag [boolA s1, .d x1], .ptr 0 0 1, intA .i8 d, J d, .ag [boolA s2, .d x2], .ptr 0 0 1, intA .i8 d, No, U, .ptr 0 0 2, intA .u8 (k : Int), J (k : Int), J ((4611686018427387904 + k : Nat) : Int), .ag [boolA s4, .d x4], .ptr 0 0 2, intA .u8 (k : Int), intA .u8 ((k % 8 : Nat) : Int), No] ++ us 10 ++ [.ptr 0 0 2, intA .u8 (k : Int), intA .u8 ((k % 8 : Nat) : Int), Yes, .ag [boolA s2, .d x2], .ag [boolA s4, .d x4], .ag [boolA s8, .d x8], .ag [boolA s4, .d x4], .ag [boolA s9, .d x9], .ag [boolA s1, .d x1], .ag [boolA s9, .d x9], .ag [boolA sa10, .d xa10, boolA sb10, .d xb10]], ⟨[.row [intA .i8 n, intA .i8 d, intA .u8 (k : Int)] 0 .ow none, .row [boolA sa10, .d xa10, boolA sb10, .d xb10] 1 .ow none, .row [boolA s1, .d x1] 2 .ow none, .row [boolA s9, .d x9] 3 .ow none, .row [boolA s4, .d x4] 4 .ow none], 5⟩⟩) (fun cf => by kernel_rfl) ?_
        refine ev_ret ?_
        exact ⟨((sa10, xa10), (sb10, xb10)), ⟨n, (d * ((4611686018427387904 + k : Nat) : Int)) * ((4611686018427387904 + k : Nat) : Int), _, _, (Int.mul_ne_zero (Int.mul_ne_zero (by omega) (by omega)) (by omega)), Ia10, Nat.le_trans (iv_len Ia10 (Nat.lt_of_le_of_lt (div_natAbs_le _ _) (iv_lt I1))) (by omega), Ib10, Nat.le_trans (iv_len Ib10 (Nat.lt_of_le_of_lt (div_natAbs_le _ _) (iv_lt I9))) (by omega)⟩, .inr rfl, .ag [boolA sa10, .d xa10, boolA sb10, .d xb10], by kernel_rfl, by kernel_rfl⟩
    ·
      have hb5' := beq_yes hb5
      refine ev_true (by kernel_rfl) ?_
      refine ev_reg (by kernel_rfl) ?_
      refine rs_up 2 [(27, .ag [boolA s1, .d x1]), (28, .ag [boolA s4, .d x4])] (fun cf => by kernel_rfl) ?_
      obtain ⟨⟨s11, x11⟩, ⟨l11, I11⟩, g11⟩ := g_mul I1 (by omega) I4 (by omega)
      have hll11 : l11.length ≤ l1.length + l4.length := iv_len I11 (mul_lt (iv_lt I1) (iv_lt I4))
      refine rs_cp 28 [.ag [boolA s1, .d x1], .ag [boolA s4, .d x4]] false (some 29) (.ag [boolA s11, .d x11]) (by kernel_rfl) (g11) (by kernel_rfl) ?_
      refine rs_up 1 [(30, .ag [boolA s4, .d x4])] (fun cf => by kernel_rfl) ?_
      obtain ⟨⟨s12, x12⟩, ⟨l12, I12⟩, g12⟩ := g_mul I11 (by omega) I4 (by omega)
      have hll12 : l12.length ≤ l11.length + l4.length := iv_len I12 (mul_lt (iv_lt I11) (iv_lt I4))
      refine rs_cp 28 [.ag [boolA s11, .d x11], .ag [boolA s4, .d x4]] false (some 31) (.ag [boolA s12, .d x12]) (by kernel_rfl) (g12) (by kernel_rfl) ?_
      refine rs_up 3 [(32, .ptr 0 0 2), (33, intA .u8 (k : Int)), (34, J (IntKind.wrap .i64 (k : Int)))] (fun cf => by kernel_rfl) ?_
      rw [wrapIn (n := k) (by omega)]
      obtain ⟨⟨s13, x13⟩, ⟨l13, I13⟩, g13⟩ := g_of (n := (k : Int)) (by omega) (by omega)
      have hll13 : l13.length ≤ 2 := iv_len I13 (of_lt (by omega) (by omega))
      refine rs_cp 27 [J (k : Int)] false (some 35) (.ag [boolA s13, .d x13]) (by kernel_rfl) (g13) (by kernel_rfl) ?_
      obtain ⟨⟨s14, x14⟩, ⟨l14, I14⟩, g14⟩ := g_add I12 (by omega) I13 (by omega)
      have hll14 : l14.length ≤ l12.length + l13.length + 1 := iv_len I14 (add_lt (iv_lt I12) (iv_lt I13))
      refine rs_cp 39 [.ag [boolA s12, .d x12], .ag [boolA s13, .d x13]] false (some 36) (.ag [boolA s14, .d x14]) (by kernel_rfl) (g14) (by kernel_rfl) ?_
      refine rs_cu (fun m9 => storeA Try.cx 34 m9 (.ptr 2 2 0) (.ag [boolA s14, .d x14])) none ⟨[.row [intA .i8 n, intA .i8 d, intA .u8 (k : Int)] 0 .ow none, .row [No, .d (.v (.slice none 0 0)), No, .d (.v (.slice none 0 0))] 1 .ow none, .row [boolA s14, .d x14] 2 .ow none, .row [boolA s2, .d x2] 3 .ow none, .row [boolA s4, .d x4] 4 .ow none], 5⟩ (fun cf => by kernel_rfl) (store_int I14.1 rfl) ?_
      refine rs_all (s1 := ⟨[.ag [intA .i8 n, intA .i8 d, intA .u8 (k : Int)], .ptr 0 0 0, .ptr 1 1 0, .ptr 2 2 0, .ptr 3 3 0, .ptr 4 4 0, .ptr 0 0 0, intA .i8 n, J n, .ag [boolA s1, .d x1], .ptr 0 0 1, intA .i8 d, J d, .ag [boolA s2, .d x2], .ptr 0 0 1, intA .i8 d, No, U, .ptr 0 0 2, intA .u8 (k : Int), J (k : Int), J ((4611686018427387904 + k : Nat) : Int), .ag [boolA s4, .d x4], .ptr 0 0 2, intA .u8 (k : Int), intA .u8 ((k % 8 : Nat) : Int), Yes, .ag [boolA s1, .d x1], .ag [boolA s4, .d x4], .ag [boolA s11, .d x11], .ag [boolA s4, .d x4], .ag [boolA s12, .d x12], .ptr 0 0 2, intA .u8 (k : Int), J (k : Int), .ag [boolA s13, .d x13], .ag [boolA s14, .d x14]] ++ us 12, ⟨[.row [intA .i8 n, intA .i8 d, intA .u8 (k : Int)] 0 .ow none, .row [No, .d (.v (.slice none 0 0)), No, .d (.v (.slice none 0 0))] 1 .ow none, .row [boolA s14, .d x14] 2 .ow none, .row [boolA s2, .d x2] 3 .ow none, .row [boolA s4, .d x4] 4 .ow none], 5⟩⟩) (fun cf => by kernel_rfl) ?_
      refine ev_seq ?_
      refine ev_seq ?_
      refine ev_reg (by kernel_rfl) ?_
      refine rs_up 3 [(37, .ptr 0 0 2), (38, intA .u8 (k : Int)), (39, intA .u8 (Int.tmod (k : Int) 8))] (fun cf => by kernel_rfl) ?_
      rw [remN (a := (k : Int)) (b := 8) (A := k) (B := 8) (by rfl) (by rfl)]
      refine rs_alu [(40, boolA (((k % 8 : Nat) : Int) == 6))] (fun cf => by kernel_rfl) ?_
      rcases hb15 : ((((k % 8 : Nat) : Int) == 6) : Bool) with _ | _
      ·
        have hb15' := beq_no hb15
        refine ev_false (by kernel_rfl) ?_
        refine ev_skip ?_
        refine ev_seq ?_
        refine ev_reg (by kernel_rfl) ?_
        refine rs_up 2 [(46, .ag [boolA s14, .d x14]), (47, .ag [boolA s2, .d x2])] (fun cf => by kernel_rfl) ?_
        obtain ⟨⟨⟨sa16, xa16⟩, ⟨sb16, xb16⟩⟩, hlow16, g16⟩ := g_lowest I14 (by omega) I2 (by omega) ((by omega))
        obtain ⟨⟨la16, Ia16⟩, ⟨lb16, Ib16⟩⟩ := hlow16
        refine rs_cp 40 [.ag [boolA s14, .d x14], .ag [boolA s2, .d x2]] false (some 48) (.ag [boolA sa16, .d xa16, boolA sb16, .d xb16]) (by kernel_rfl) (g16) (by kernel_rfl) ?_
        refine rs_cu (fun m9 => storeA Try.cx 36 m9 (.ptr 1 1 0) (.ag [boolA sa16, .d xa16, boolA sb16, .d xb16])) none ⟨[.row [intA .i8 n, intA .i8 d, intA .u8 (k : Int)] 0 .ow none, .row [boolA sa16, .d xa16, boolA sb16, .d xb16] 1 .ow none, .row [boolA s14, .d x14] 2 .ow none, .row [boolA s2, .d x2] 3 .ow none, .row [boolA s4, .d x4] 4 .ow none], 5⟩ (fun cf => by kernel_rfl) (store_rat Ia16.1 Ib16.1 rfl) ?_
        refine rs_all (s1 := ⟨[.ag [intA .i8 n, intA .i8 d, intA .u8 (k : Int)], .ptr 0 0 0, .ptr 1 1 0, .ptr 2 2 0, .ptr 3 3 0, .ptr 4 4 0, .ptr 0 0 0, intA .i8 n, J n, .ag [boolA s1, .d x1], .ptr 0 0 1, intA .i8 d, J d, .ag [boolA s2, .d x2], .ptr 0 0 1, intA .i8 d, No, U, .ptr 0 0 2, intA .u8 (k : Int), J (k : Int), J ((4611686018427387904 + k : Nat) : Int), .ag [boolA s4, .d x4], .ptr 0 0 2, intA .u8 (k : Int), intA .u8 ((k % 8 : Nat) : Int), Yes, .ag [boolA s1, .d x1], .ag [boolA s4, .d x4], .ag [boolA s11, .d x11], .ag [boolA s4, .d x4], .ag [boolA s12, .d x12], .ptr 0 0 2, intA .u8 (k : Int), J (k : Int), .ag [boolA s13, .d x13], .ag [boolA s14, .d x14], .ptr 0 0 2, intA .u8 (k : Int), intA .u8 ((k % 8 : Nat) : Int), No] ++ us 5 ++ [.ag [boolA s14, .d x14], .ag [boolA s2, .d x2], .ag [boolA sa16, .d xa16, boolA sb16, .d xb16]], ⟨[.row [intA .i8 n, intA .i8 d, intA .u8 (k : Int)] 0 .ow none, .row [boolA sa16, .d xa16, boolA sb16, .d xb16] 1 .ow none, .row [boolA s14, .d x14] 2 .ow none, .row [boolA s2, .d x2] 3 .ow none, .row [boolA s4, .d x4] 4 .ow none], 5⟩⟩) (fun cf => by kernel_rfl) ?_
        refine ev_ret ?_
        exact ⟨((sa16, xa16), (sb16, xb16)), ⟨((n * ((4611686018427387904 + k : Nat) : Int)) * ((4611686018427387904 + k : Nat) : Int)) + (k : Int), d, _, _, (by omega), Ia16, Nat.le_trans (iv_len Ia16 (Nat.lt_of_le_of_lt (div_natAbs_le _ _) (iv_lt I14))) (by omega), Ib16, Nat.le_trans (iv_len Ib16 (Nat.lt_of_le_of_lt (div_natAbs_le _ _) (iv_lt I2))) (by omega)⟩, .inr rfl, .ag [boolA sa16, .d xa16, boolA sb16, .d xb16], by kernel_rfl, by kernel_rfl⟩
      ·
        have hb15' := beq_yes hb15
        refine ev_true (by kernel_rfl) ?_
        refine ev_reg (by kernel_rfl) ?_
        refine rs_up 2 [(41, .ag [boolA s2, .d x2]), (42, .ag [boolA s4, .d x4])] (fun cf => by kernel_rfl) ?_
        obtain ⟨⟨s17, x17⟩, ⟨l17, I17⟩, g17⟩ := g_mul I2 (by omega) I4 (by omega)
        have hll17 : l17.length ≤ l2.length + l4.length := iv_len I17 (mul_lt (iv_lt I2) (iv_lt I4))
        refine rs_cp 28 [.ag [boolA s2, .d x2], .ag [boolA s4, .d x4]] false (some 43) (.ag [boolA s17, .d x17]) (by kernel_rfl) (g17) (by kernel_rfl) ?_
        refine rs_up 1 [(44, .ag [boolA s4, .d x4])] (fun cf => by kernel_rfl) ?_
        obtain ⟨⟨s18, x18⟩, ⟨l18, I18⟩, g18⟩ := g_mul I17 (by omega) I4 (by omega)
        have hll18 : l18.length ≤ l17.length + l4.length := iv_len I18 (mul_lt (iv_lt I17) (iv_lt I4))
        refine rs_cp 28 [.ag [boolA s17, .d x17], .ag [boolA s4, .d x4]] false (some 45) (.ag [boolA s18, .d x18]) (by kernel_rfl) (g18) (by kernel_rfl) ?_
        refine rs_cu (fun m9 => storeA Try.cx 34 m9 (.ptr 3 3 0) (.ag [boolA s18, .d x18])) none ⟨[.row [intA .i8 n, intA .i8 d, intA .u8 (k : Int)] 0 .ow none, .row [No, .d (.v (.slice none 0 0)), No, .d (.v (.slice none 0 0))] 1 .ow none, .row [boolA s14, .d x14] 2 .ow none, .row [boolA s18, .d x18] 3 .ow none, .row [boolA s4, .d x4] 4 .ow none], 5⟩ (fun cf => by kernel_rfl) (store_int I18.1 rfl) ?_
        refine rs_alu [] (fun cf => by kernel_rfl) ?_
        refine ev_seq ?_
        refine ev_reg (by kernel_rfl) ?_
        refine rs_up 2 [(46, .ag [boolA s14, .d x14]), (47, .ag [boolA s18, .d x18])] (fun cf => by kernel_rfl) ?_
        obtain ⟨⟨⟨sa19, xa19⟩, ⟨sb19, xb19⟩⟩, hlow19, g19⟩ := g_lowest I14 (by omega) I18 (by omega) ((Int.mul_ne_zero (Int.mul_ne_zero (by omega) (by omega)) (by omega)))
        obtain ⟨⟨la19, Ia19⟩, ⟨lb19, Ib19⟩⟩ := hlow19
        refine rs_cp 40 [.ag [boolA s14, .d x14], .ag [boolA s18, .d x18]] false (some 48) (.ag [boolA sa19, .d xa19, boolA sb19, .d xb19]) (by kernel_rfl) (g19) (by kernel_rfl) ?_
        refine rs_cu (fun m9 => storeA Try.cx 36 m9 (.ptr 1 1 0) (.ag [boolA sa19, .d xa19, boolA sb19, .d xb19])) none ⟨[.row [intA .i8 n, intA .i8 d, intA .u8 (k : Int)] 0 .ow none, .row [boolA sa19, .d xa19, boolA sb19, .d xb19] 1 .ow none, .row [boolA s14, .d x14] 2 .ow none, .row [boolA s18, .d x18] 3 .ow none, .row [boolA s4, .d x4] 4 .ow none], 5⟩ (fun cf => by kernel_rfl) (store_rat Ia19.1 Ib19.1 rfl) ?_
        refine rs_all (s1 := ⟨[.ag [intA .i8 n, intA .i8 d, intA .u8 (k : Int)], .ptr 0 0 0, .ptr 1 1 0, .ptr 2 2 0, .ptr 3 3 0, .ptr 4 4 0, .ptr 0 0 0, intA .i8 n, J n, .ag [boolA s1, .d x1], .ptr 0 0 1, intA .i8 d, J d, .ag [boolA s2, .d x2], .ptr 0 0 1, intA .i8 d, No, U, .ptr 0 0 2, intA .u8 (k : Int), J (k : Int), J ((4611686018427387904 + k : Nat) : Int), .ag [boolA s4, .d x4], .ptr 0 0 2, intA .u8 (k : Int), intA .u8 ((k % 8 : Nat) : Int), Yes, .ag [boolA s1, .d x1], .ag [boolA s4, .d x4], .ag [boolA s11, .d x11], .ag [boolA s4, .d x4], .ag [boolA s12, .d x12], .ptr 0 0 2, intA .u8 (k : Int), J (k : Int), .ag [boolA s13, .d x13], .ag [boolA s14, .d x14], .ptr 0 0 2, intA .u8 (k : Int), intA .u8 ((k % 8 : Nat) : Int), Yes, .ag [boolA s2, .d x2], .ag [boolA s4, .d x4], .ag [boolA s17, .d x17], .ag [boolA s4, .d x4], .ag [boolA s18, .d x18], .ag [boolA s14, .d x14], .ag [boolA s18, .d x18], .ag [boolA sa19, .d xa19, boolA sb19, .d xb19]], ⟨[.row [intA .i8 n, intA .i8 d, intA .u8 (k : Int)] 0 .ow none, .row [boolA sa19, .d xa19, boolA sb19, .d xb19] 1 .ow none, .row [boolA s14, .d x14] 2 .ow none, .row [boolA s18, .d x18] 3 .ow none, .row [boolA s4, .d x4] 4 .ow none], 5⟩⟩) (fun cf => by kernel_rfl) ?_
        refine ev_ret ?_
        exact ⟨((sa19, xa19), (sb19, xb19)), ⟨((n * ((4611686018427387904 + k : Nat) : Int)) * ((4611686018427387904 + k : Nat) : Int)) + (k : Int), (d * ((4611686018427387904 + k : Nat) : Int)) * ((4611686018427387904 + k : Nat) : Int), _, _, (Int.mul_ne_zero (Int.mul_ne_zero (by omega) (by omega)) (by omega)), Ia19, Nat.le_trans (iv_len Ia19 (Nat.lt_of_le_of_lt (div_natAbs_le _ _) (iv_lt I14))) (by omega), Ib19, Nat.le_trans (iv_len Ib19 (Nat.lt_of_le_of_lt (div_natAbs_le _ _) (iv_lt I18))) (by omega)⟩, .inr rfl, .ag [boolA sa19, .d xa19, boolA sb19, .d xb19], by kernel_rfl, by kernel_rfl⟩
  ·
    have hb3' := beq_yes hb3
    refine ev_true (by kernel_rfl) ?_
    refine ev_reg (by kernel_rfl) ?_
    obtain ⟨⟨s20, x20⟩, ⟨l20, I20⟩, g20⟩ := g_of (n := 1) (by omega) (by omega)
    have hll20 : l20.length ≤ 2 := iv_len I20 (of_lt (by omega) (by omega))
    refine rs_cp 27 [J 1] false (some 17) (.ag [boolA s20, .d x20]) (by kernel_rfl) (g20) (by kernel_rfl) ?_
    refine rs_cu (fun m9 => storeA Try.cx 34 m9 (.ptr 3 3 0) (.ag [boolA s20, .d x20])) none ⟨[.row [intA .i8 n, intA .i8 d, intA .u8 (k : Int)] 0 .ow none, .row [No, .d (.v (.slice none 0 0)), No, .d (.v (.slice none 0 0))] 1 .ow none, .row [boolA s1, .d x1] 2 .ow none, .row [boolA s20, .d x20] 3 .ow none], 4⟩ (fun cf => by kernel_rfl) (store_int I20.1 rfl) ?_
    refine rs_alu [] (fun cf => by kernel_rfl) ?_
    refine ev_seq ?_
    refine ev_reg (by kernel_rfl) ?_
    refine rs_up 3 [(18, .ptr 0 0 2), (19, intA .u8 (k : Int)), (20, J (IntKind.wrap .i64 (k : Int)))] (fun cf => by kernel_rfl) ?_
    rw [wrapIn (n := k) (by omega)]
    refine rs_up 1 [(21, J (IntKind.wrap .i64 (4611686018427387904 + (k : Int))))] (fun cf => by kernel_rfl) ?_
    rw [addI (a := 4611686018427387904) (b := (k : Int)) (A := 4611686018427387904) (B := k) (by rfl) (by rfl) (by omega)]
    obtain ⟨⟨s21, x21⟩, ⟨l21, I21⟩, g21⟩ := g_of (n := ((4611686018427387904 + k : Nat) : Int)) (by omega) (by omega)
    have hll21 : l21.length ≤ 2 := iv_len I21 (of_lt (by omega) (by omega))
    refine rs_cp 27 [J ((4611686018427387904 + k : Nat) : Int)] false (some 22) (.ag [boolA s21, .d x21]) (by kernel_rfl) (g21) (by kernel_rfl) ?_
    refine rs_upm 1 [(5, .ptr 4 4 0)] ⟨[.row [intA .i8 n, intA .i8 d, intA .u8 (k : Int)] 0 .ow none, .row [No, .d (.v (.slice none 0 0)), No, .d (.v (.slice none 0 0))] 1 .ow none, .row [boolA s1, .d x1] 2 .ow none, .row [boolA s20, .d x20] 3 .ow none, .row [No, .d (.v (.slice none 0 0))] 4 .ow none], 5⟩ (fun cf => by kernel_rfl) ?_
    refine rs_cu (fun m9 => storeA Try.cx 34 m9 (.ptr 4 4 0) (.ag [boolA s21, .d x21])) none ⟨[.row [intA .i8 n, intA .i8 d, intA .u8 (k : Int)] 0 .ow none, .row [No, .d (.v (.slice none 0 0)), No, .d (.v (.slice none 0 0))] 1 .ow none, .row [boolA s1, .d x1] 2 .ow none, .row [boolA s20, .d x20] 3 .ow none, .row [boolA s21, .d x21] 4 .ow none], 5⟩ (fun cf => by kernel_rfl) (store_int I21.1 rfl) ?_
    refine rs_alu [] (fun cf => by kernel_rfl) ?_
    refine ev_seq ?_
    refine ev_seq ?_
    refine ev_reg (by kernel_rfl) ?_
    refine rs_up 3 [(23, .ptr 0 0 2), (24, intA .u8 (k : Int)), (25, intA .u8 (Int.tmod (k : Int) 8))] (fun cf => by kernel_rfl) ?_
    rw [remN (a := (k : Int)) (b := 8) (A := k) (B := 8) (by rfl) (by rfl)]
    refine rs_all (s1 := ⟨[.ag [intA .i8 n, intA .i8 d, intA .u8 (k : Int)], .ptr 0 0 0, .ptr 1 1 0, .ptr 2 2 0, .ptr 3 3 0, .ptr 4 4 0, .ptr 0 0 0, intA .i8 n, J n, .ag [boolA s1, .d x1], .ptr 0 0 1, intA .i8 d, J d, .ag [boolA s2, .d x2], .ptr 0 0 1, intA .i8 d, Yes, .ag [boolA s20, .d x20], .ptr 0 0 2, intA .u8 (k : Int), J (k : Int), J ((4611686018427387904 + k : Nat) : Int), .ag [boolA s21, .d x21], .ptr 0 0 2, intA .u8 (k : Int), intA .u8 ((k % 8 : Nat) : Int), boolA (((k % 8 : Nat) : Int) == 7)] ++ us 22, ⟨[.row [intA .i8 n, intA .i8 d, intA .u8 (k : Int)] 0 .ow none, .row [No, .d (.v (.slice none 0 0)), No, .d (.v (.slice none 0 0))] 1 .ow none, .row [boolA s1, .d x1] 2 .ow none, .row [boolA s20, .d x20] 3 .ow none, .row [boolA s21, .d x21] 4 .ow none], 5⟩⟩) (fun cf => by kernel_rfl) ?_
    rcases hb22 : ((((k % 8 : Nat) : Int) == 7) : Bool) with _ | _
    ·
      have hb22' := beq_no hb22
      refine ev_false (by kernel_rfl) ?_
      refine ev_skip ?_
      refine ev_seq ?_
      refine ev_seq ?_
      refine ev_reg (by kernel_rfl) ?_
      refine rs_up 3 [(37, .ptr 0 0 2), (38, intA .u8 (k : Int)), (39, intA .u8 (Int.tmod (k : Int) 8))] (fun cf => by kernel_rfl) ?_
      rw [remN (a := (k : Int)) (b := 8) (A := k) (B := 8) (by rfl) (by rfl)]
      refine rs_alu [(40, boolA (((k % 8 : Nat) : Int) == 6))] (fun cf => by kernel_rfl) ?_
      rcases hb23 : ((((k % 8 : Nat) : Int) == 6) : Bool) with _ | _
      ·
        have hb23' := beq_no hb23
        refine ev_false (by kernel_rfl) ?_
        refine ev_skip ?_
        refine ev_seq ?_
        refine ev_reg (by kernel_rfl) ?_
        refine rs_up 2 [(46, .ag [boolA s1, .d x1]), (47, .ag [boolA s20, .d x20])] (fun cf => by kernel_rfl) ?_
        obtain ⟨⟨⟨sa24, xa24⟩, ⟨sb24, xb24⟩⟩, hlow24, g24⟩ := g_lowest I1 (by omega) I20 (by omega) ((by decide))
        obtain ⟨⟨la24, Ia24⟩, ⟨lb24, Ib24⟩⟩ := hlow24
        refine rs_cp 40 [.ag [boolA s1, .d x1], .ag [boolA s20, .d x20]] false (some 48) (.ag [boolA sa24, .d xa24, boolA sb24, .d xb24]) (by kernel_rfl) (g24) (by kernel_rfl) ?_
        refine rs_cu (fun m9 => storeA Try.cx 36 m9 (.ptr 1 1 0) (.ag [boolA sa24, .d xa24, boolA sb24, .d xb24])) none ⟨[.row [intA .i8 n, intA .i8 d, intA .u8 (k : Int)] 0 .ow none, .row [boolA sa24, .d xa24, boolA sb24, .d xb24] 1 .ow none, .row [boolA s1, .d x1] 2 .ow none, .row [boolA s20, .d x20] 3 .ow none, .row [boolA s21, .d x21] 4 .ow none], 5⟩ (fun cf => by kernel_rfl) (store_rat Ia24.1 Ib24.1 rfl) ?_
        refine rs_all (s1 := ⟨[.ag [intA .i8 n, intA .i8 d, intA .u8 (k : Int)], .ptr 0 0 0, .ptr 1 1 0, .ptr 2 2 0, .ptr 3 3 0, .ptr 4 4 0, .ptr 0 0 0, intA .i8 n, J n, .ag [boolA s1, .d x1], .ptr 0 0 1, intA .i8 d, J d, .ag [boolA s2, .d x2], .ptr 0 0 1, intA .i8 d, Yes, .ag [boolA s20, .d x20], .ptr 0 0 2, intA .u8 (k : Int), J (k : Int), J ((4611686018427387904 + k : Nat) : Int), .ag [boolA s21, .d x21], .ptr 0 0 2, intA .u8 (k : Int), intA .u8 ((k % 8 : Nat) : Int), No] ++ us 10 ++ [.ptr 0 0 2, intA .u8 (k : Int), intA .u8 ((k % 8 : Nat) : Int), No] ++ us 5 ++ [.ag [boolA s1, .d x1], .ag [boolA s20, .d x20], .ag [boolA sa24, .d xa24, boolA sb24, .d xb24]], ⟨[.row [intA .i8 n, intA .i8 d, intA .u8 (k : Int)] 0 .ow none, .row [boolA sa24, .d xa24, boolA sb24, .d xb24] 1 .ow none, .row [boolA s1, .d x1] 2 .ow none, .row [boolA s20, .d x20] 3 .ow none, .row [boolA s21, .d x21] 4 .ow none], 5⟩⟩) (fun cf => by kernel_rfl) ?_
        refine ev_ret ?_
        exact ⟨((sa24, xa24), (sb24, xb24)), ⟨n, 1, _, _, (by decide), Ia24, Nat.le_trans (iv_len Ia24 (Nat.lt_of_le_of_lt (div_natAbs_le _ _) (iv_lt I1))) (by omega), Ib24, Nat.le_trans (iv_len Ib24 (Nat.lt_of_le_of_lt (div_natAbs_le _ _) (iv_lt I20))) (by omega)⟩, .inr rfl, .ag [boolA sa24, .d xa24, boolA sb24, .d xb24], by kernel_rfl, by kernel_rfl⟩
      ·
        have hb23' := beq_yes hb23
        refine ev_true (by kernel_rfl) ?_
        refine ev_reg (by kernel_rfl) ?_
        refine rs_up 2 [(41, .ag [boolA s20, .d x20]), (42, .ag [boolA s21, .d x21])] (fun cf => by kernel_rfl) ?_
        obtain ⟨⟨s25, x25⟩, ⟨l25, I25⟩, g25⟩ := g_mul I20 (by omega) I21 (by omega)
        have hll25 : l25.length ≤ l20.length + l21.length := iv_len I25 (mul_lt (iv_lt I20) (iv_lt I21))
        refine rs_cp 28 [.ag [boolA s20, .d x20], .ag [boolA s21, .d x21]] false (some 43) (.ag [boolA s25, .d x25]) (by kernel_rfl) (g25) (by kernel_rfl) ?_
        refine rs_up 1 [(44, .ag [boolA s21, .d x21])] (fun cf => by kernel_rfl) ?_
        obtain ⟨⟨s26, x26⟩, ⟨l26, I26⟩, g26⟩ := g_mul I25 (by omega) I21 (by omega)
        have hll26 : l26.length ≤ l25.length + l21.length := iv_len I26 (mul_lt (iv_lt I25) (iv_lt I21))
        refine rs_cp 28 [.ag [boolA s25, .d x25], .ag [boolA s21, .d x21]] false (some 45) (.ag [boolA s26, .d x26]) (by kernel_rfl) (g26) (by kernel_rfl) ?_
        refine rs_cu (fun m9 => storeA Try.cx 34 m9 (.ptr 3 3 0) (.ag [boolA s26, .d x26])) none ⟨[.row [intA .i8 n, intA .i8 d, intA .u8 (k : Int)] 0 .ow none, .row [No, .d (.v (.slice none 0 0)), No, .d (.v (.slice none 0 0))] 1 .ow none, .row [boolA s1, .d x1] 2 .ow none, .row [boolA s26, .d x26] 3 .ow none, .row [boolA s21, .d x21] 4 .ow none], 5⟩ (fun cf => by kernel_rfl) (store_int I26.1 rfl) ?_
        refine rs_alu [] (fun cf => by kernel_rfl) ?_
        refine ev_seq ?_
        refine ev_reg (by kernel_rfl) ?_
        refine rs_up 2 [(46, .ag [boolA s1, .d x1]), (47, .ag [boolA s26, .d x26])] (fun cf => by kernel_rfl) ?_
        obtain ⟨⟨⟨sa27, xa27⟩, ⟨sb27, xb27⟩⟩, hlow27, g27⟩ := g_lowest I1 (by omega) I26 (by omega) ((Int.mul_ne_zero (Int.mul_ne_zero (by decide) (by omega)) (by omega)))
        obtain ⟨⟨la27, Ia27⟩, ⟨lb27, Ib27⟩⟩ := hlow27
        refine rs_cp 40 [.ag [boolA s1, .d x1], .ag [boolA s26, .d x26]] false (some 48) (.ag [boolA sa27, .d xa27, boolA sb27, .d xb27]) (by kernel_rfl) (g27) (by kernel_rfl) ?_
        refine rs_cu (fun m9 => storeA Try.cx 36 m9 (.ptr 1 1 0) (.ag [boolA sa27, .d xa27, boolA sb27, .d xb27])) none ⟨[.row [intA .i8 n, intA .i8 d, intA .u8 (k : Int)] 0 .ow none, .row [boolA sa27, .d xa27, boolA sb27, .d xb27] 1 .ow none, .row [boolA s1, .d x1] 2 .ow none, .row [boolA s26, .d x26] 3 .ow none, .row [boolA s21, .d x21] 4 .ow none], 5⟩ (fun cf => by kernel_rfl) (store_rat Ia27.1 Ib27.1 rfl) ?_
        refine rs_all (s1 := ⟨[.ag [intA .i8 n, intA .i8 d, intA .u8 (k : Int)], .ptr 0 0 0, .ptr 1 1 0, .ptr 2 2 0, .ptr 3 3 0, .ptr 4 4 0, .ptr 0 0 0, intA .i8 n, J n, .ag [boolA s1, .d x1], .ptr 0 0 1, intA .i8 d, J d, .ag [boolA s2, .d x2], .ptr 0 0 1, intA .i8 d, Yes, .ag [boolA s20, .d x20], .ptr 0 0 2, intA .u8 (k : Int), J (k : Int), J ((4611686018427387904 + k : Nat) : Int), .ag [boolA s21, .d x21], .ptr 0 0 2, intA .u8 (k : Int), intA .u8 ((k % 8 : Nat) : Int), No] ++ us 10 ++ [.ptr 0 0 2, intA .u8 (k : Int), intA .u8 ((k % 8 : Nat) : Int), Yes, .ag [boolA s20, .d x20], .ag [boolA s21, .d x21], .ag [boolA s25, .d x25], .ag [boolA s21, .d x21], .ag [boolA s26, .d x26], .ag [boolA s1, .d x1], .ag [boolA s26, .d x26], .ag [boolA sa27, .d xa27, boolA sb27, .d xb27]], ⟨[.row [intA .i8 n, intA .i8 d, intA .u8 (k : Int)] 0 .ow none, .row [boolA sa27, .d xa27, boolA sb27, .d xb27] 1 .ow none, .row [boolA s1, .d x1] 2 .ow none, .row [boolA s26, .d x26] 3 .ow none, .row [boolA s21, .d x21] 4 .ow none], 5⟩⟩) (fun cf => by kernel_rfl) ?_
        refine ev_ret ?_
        exact ⟨((sa27, xa27), (sb27, xb27)), ⟨n, (1 * ((4611686018427387904 + k : Nat) : Int)) * ((4611686018427387904 + k : Nat) : Int), _, _, (Int.mul_ne_zero (Int.mul_ne_zero (by decide) (by omega)) (by omega)), Ia27, Nat.le_trans (iv_len Ia27 (Nat.lt_of_le_of_lt (div_natAbs_le _ _) (iv_lt I1))) (by omega), Ib27, Nat.le_trans (iv_len Ib27 (Nat.lt_of_le_of_lt (div_natAbs_le _ _) (iv_lt I26))) (by omega)⟩, .inr rfl, .ag [boolA sa27, .d xa27, boolA sb27, .d xb27], by kernel_rfl, by kernel_rfl⟩
    ·
      have hb22' := beq_yes hb22
      refine ev_true (by kernel_rfl) ?_
      refine ev_reg (by kernel_rfl) ?_
      refine rs_up 2 [(27, .ag [boolA s1, .d x1]), (28, .ag [boolA s21, .d x21])] (fun cf => by kernel_rfl) ?_
      obtain ⟨⟨s28, x28⟩, ⟨l28, I28⟩, g28⟩ := g_mul I1 (by omega) I21 (by omega)
      have hll28 : l28.length ≤ l1.length + l21.length := iv_len I28 (mul_lt (iv_lt I1) (iv_lt I21))
      refine rs_cp 28 [.ag [boolA s1, .d x1], .ag [boolA s21, .d x21]] false (some 29) (.ag [boolA s28, .d x28]) (by kernel_rfl) (g28) (by kernel_rfl) ?_
      refine rs_up 1 [(30, .ag [boolA s21, .d x21])] (fun cf => by kernel_rfl) ?_
      obtain ⟨⟨s29, x29⟩, ⟨l29, I29⟩, g29⟩ := g_mul I28 (by omega) I21 (by omega)
      have hll29 : l29.length ≤ l28.length + l21.length := iv_len I29 (mul_lt (iv_lt I28) (iv_lt I21))
      refine rs_cp 28 [.ag [boolA s28, .d x28], .ag [boolA s21, .d x21]] false (some 31) (.ag [boolA s29, .d x29]) (by kernel_rfl) (g29) (by kernel_rfl) ?_
      refine rs_up 3 [(32, .ptr 0 0 2), (33, intA .u8 (k : Int)), (34, J (IntKind.wrap .i64 (k : Int)))] (fun cf => by kernel_rfl) ?_
      rw [wrapIn (n := k) (by omega)]
      obtain ⟨⟨s30, x30⟩, ⟨l30, I30⟩, g30⟩ := g_of (n := (k : Int)) (by omega) (by omega)
      have hll30 : l30.length ≤ 2 := iv_len I30 (of_lt (by omega) (by omega))
      refine rs_cp 27 [J (k : Int)] false (some 35) (.ag [boolA s30, .d x30]) (by kernel_rfl) (g30) (by kernel_rfl) ?_
      obtain ⟨⟨s31, x31⟩, ⟨l31, I31⟩, g31⟩ := g_add I29 (by omega) I30 (by omega)
      have hll31 : l31.length ≤ l29.length + l30.length + 1 := iv_len I31 (add_lt (iv_lt I29) (iv_lt I30))
      refine rs_cp 39 [.ag [boolA s29, .d x29], .ag [boolA s30, .d x30]] false (some 36) (.ag [boolA s31, .d x31]) (by kernel_rfl) (g31) (by kernel_rfl) ?_
      refine rs_cu (fun m9 => storeA Try.cx 34 m9 (.ptr 2 2 0) (.ag [boolA s31, .d x31])) none ⟨[.row [intA .i8 n, intA .i8 d, intA .u8 (k : Int)] 0 .ow none, .row [No, .d (.v (.slice none 0 0)), No, .d (.v (.slice none 0 0))] 1 .ow none, .row [boolA s31, .d x31] 2 .ow none, .row [boolA s20, .d x20] 3 .ow none, .row [boolA s21, .d x21] 4 .ow none], 5⟩ (fun cf => by kernel_rfl) (store_int I31.1 rfl) ?_
      refine rs_alu [] (fun cf => by kernel_rfl) ?_
      refine ev_seq ?_
      refine ev_seq ?_
      refine ev_reg (by kernel_rfl) ?_
      refine rs_up 3 [(37, .ptr 0 0 2), (38, intA .u8 (k : Int)), (39, intA .u8 (Int.tmod (k : Int) 8))] (fun cf => by kernel_rfl) ?_
      rw [remN (a := (k : Int)) (b := 8) (A := k) (B := 8) (by rfl) (by rfl)]
      refine rs_alu [(40, boolA (((k % 8 : Nat) : Int) == 6))] (fun cf => by kernel_rfl) ?_
      rcases hb32 : ((((k % 8 : Nat) : Int) == 6) : Bool) with _ | _
      ·
        have hb32' := beq_no hb32
        refine ev_false (by kernel_rfl) ?_
        refine ev_skip ?_
        refine ev_seq ?_
        refine ev_reg (by kernel_rfl) ?_
        refine rs_up 2 [(46, .ag [boolA s31, .d x31]), (47, .ag [boolA s20, .d x20])] (fun cf => by kernel_rfl) ?_
        obtain ⟨⟨⟨sa33, xa33⟩, ⟨sb33, xb33⟩⟩, hlow33, g33⟩ := g_lowest I31 (by omega) I20 (by omega) ((by decide))
        obtain ⟨⟨la33, Ia33⟩, ⟨lb33, Ib33⟩⟩ := hlow33
        refine rs_cp 40 [.ag [boolA s31, .d x31], .ag [boolA s20, .d x20]] false (some 48) (.ag [boolA sa33, .d xa33, boolA sb33, .d xb33]) (by kernel_rfl) (g33) (by kernel_rfl) ?_
        refine rs_cu (fun m9 => storeA Try.cx 36 m9 (.ptr 1 1 0) (.ag [boolA sa33, .d xa33, boolA sb33, .d xb33])) none ⟨[.row [intA .i8 n, intA .i8 d, intA .u8 (k : Int)] 0 .ow none, .row [boolA sa33, .d xa33, boolA sb33, .d xb33] 1 .ow none, .row [boolA s31, .d x31] 2 .ow none, .row [boolA s20, .d x20] 3 .ow none, .row [boolA s21, .d x21] 4 .ow none], 5⟩ (fun cf => by kernel_rfl) (store_rat Ia33.1 Ib33.1 rfl) ?_
        refine rs_all (s1 := ⟨[.ag [intA .i8 n, intA .i8 d, intA .u8 (k : Int)], .ptr 0 0 0, .ptr 1 1 0, .ptr 2 2 0, .ptr 3 3 0, .ptr 4 4 0, .ptr 0 0 0, intA .i8 n, J n, .ag [boolA s1, .d x1], .ptr 0 0 1, intA .i8 d, J d, .ag [boolA s2, .d x2], .ptr 0 0 1, intA .i8 d, Yes, .ag [boolA s20, .d x20], .ptr 0 0 2, intA .u8 (k : Int), J (k : Int), J ((4611686018427387904 + k : Nat) : Int), .ag [boolA s21, .d x21], .ptr 0 0 2, intA .u8 (k : Int), intA .u8 ((k % 8 : Nat) : Int), Yes, .ag [boolA s1, .d x1], .ag [boolA s21, .d x21], .ag [boolA s28, .d x28], .ag [boolA s21, .d x21], .ag [boolA s29, .d x29], .ptr 0 0 2, intA .u8 (k : Int), J (k : Int), .ag [boolA s30, .d x30], .ag [boolA s31, .d x31], .ptr 0 0 2, intA .u8 (k : Int), intA .u8 ((k % 8 : Nat) : Int), No] ++ us 5 ++ [.ag [boolA s31, .d x31], .ag [boolA s20, .d x20], .ag [boolA sa33, .d xa33, boolA sb33, .d xb33]], ⟨[.row [intA .i8 n, intA .i8 d, intA .u8 (k : Int)] 0 .ow none, .row [boolA sa33, .d xa33, boolA sb33, .d xb33] 1 .ow none, .row [boolA s31, .d x31] 2 .ow none, .row [boolA s20, .d x20] 3 .ow none, .row [boolA s21, .d x21] 4 .ow none], 5⟩⟩) (fun cf => by kernel_rfl) ?_
        refine ev_ret ?_
        exact ⟨((sa33, xa33), (sb33, xb33)), ⟨((n * ((4611686018427387904 + k : Nat) : Int)) * ((4611686018427387904 + k : Nat) : Int)) + (k : Int), 1, _, _, (by decide), Ia33, Nat.le_trans (iv_len Ia33 (Nat.lt_of_le_of_lt (div_natAbs_le _ _) (iv_lt I31))) (by omega), Ib33, Nat.le_trans (iv_len Ib33 (Nat.lt_of_le_of_lt (div_natAbs_le _ _) (iv_lt I20))) (by omega)⟩, .inr rfl, .ag [boolA sa33, .d xa33, boolA sb33, .d xb33], by kernel_rfl, by kernel_rfl⟩
      ·
        have hb32' := beq_yes hb32
        refine ev_true (by kernel_rfl) ?_
        refine ev_reg (by kernel_rfl) ?_
        refine rs_up 2 [(41, .ag [boolA s20, .d x20]), (42, .ag [boolA s21, .d x21])] (fun cf => by kernel_rfl) ?_
        obtain ⟨⟨s34, x34⟩, ⟨l34, I34⟩, g34⟩ := g_mul I20 (by omega) I21 (by omega)
        have hll34 : l34.length ≤ l20.length + l21.length := iv_len I34 (mul_lt (iv_lt I20) (iv_lt I21))
        refine rs_cp 28 [.ag [boolA s20, .d x20], .ag [boolA s21, .d x21]] false (some 43) (.ag [boolA s34, .d x34]) (by kernel_rfl) (g34) (by kernel_rfl) ?_
        refine rs_up 1 [(44, .ag [boolA s21, .d x21])] (fun cf => by kernel_rfl) ?_
        obtain ⟨⟨s35, x35⟩, ⟨l35, I35⟩, g35⟩ := g_mul I34 (by omega) I21 (by omega)
        have hll35 : l35.length ≤ l34.length + l21.length := iv_len I35 (mul_lt (iv_lt I34) (iv_lt I21))
        refine rs_cp 28 [.ag [boolA s34, .d x34], .ag [boolA s21, .d x21]] false (some 45) (.ag [boolA s35, .d x35]) (by kernel_rfl) (g35) (by kernel_rfl) ?_
        refine rs_cu (fun m9 => storeA Try.cx 34 m9 (.ptr 3 3 0) (.ag [boolA s35, .d x35])) none ⟨[.row [intA .i8 n, intA .i8 d, intA .u8 (k : Int)] 0 .ow none, .row [No, .d (.v (.slice none 0 0)), No, .d (.v (.slice none 0 0))] 1 .ow none, .row [boolA s31, .d x31] 2 .ow none, .row [boolA s35, .d x35] 3 .ow none, .row [boolA s21, .d x21] 4 .ow none], 5⟩ (fun cf => by kernel_rfl) (store_int I35.1 rfl) ?_
        refine rs_alu [] (fun cf => by kernel_rfl) ?_
        refine ev_seq ?_
        refine ev_reg (by kernel_rfl) ?_
        refine rs_up 2 [(46, .ag [boolA s31, .d x31]), (47, .ag [boolA s35, .d x35])] (fun cf => by kernel_rfl) ?_
        obtain ⟨⟨⟨sa36, xa36⟩, ⟨sb36, xb36⟩⟩, hlow36, g36⟩ := g_lowest I31 (by omega) I35 (by omega) ((Int.mul_ne_zero (Int.mul_ne_zero (by decide) (by omega)) (by omega)))
        obtain ⟨⟨la36, Ia36⟩, ⟨lb36, Ib36⟩⟩ := hlow36
        refine rs_cp 40 [.ag [boolA s31, .d x31], .ag [boolA s35, .d x35]] false (some 48) (.ag [boolA sa36, .d xa36, boolA sb36, .d xb36]) (by kernel_rfl) (g36) (by kernel_rfl) ?_
        refine rs_cu (fun m9 => storeA Try.cx 36 m9 (.ptr 1 1 0) (.ag [boolA sa36, .d xa36, boolA sb36, .d xb36])) none ⟨[.row [intA .i8 n, intA .i8 d, intA .u8 (k : Int)] 0 .ow none, .row [boolA sa36, .d xa36, boolA sb36, .d xb36] 1 .ow none, .row [boolA s31, .d x31] 2 .ow none, .row [boolA s35, .d x35] 3 .ow none, .row [boolA s21, .d x21] 4 .ow none], 5⟩ (fun cf => by kernel_rfl) (store_rat Ia36.1 Ib36.1 rfl) ?_
        refine rs_all (s1 := ⟨[.ag [intA .i8 n, intA .i8 d, intA .u8 (k : Int)], .ptr 0 0 0, .ptr 1 1 0, .ptr 2 2 0, .ptr 3 3 0, .ptr 4 4 0, .ptr 0 0 0, intA .i8 n, J n, .ag [boolA s1, .d x1], .ptr 0 0 1, intA .i8 d, J d, .ag [boolA s2, .d x2], .ptr 0 0 1, intA .i8 d, Yes, .ag [boolA s20, .d x20], .ptr 0 0 2, intA .u8 (k : Int), J (k : Int), J ((4611686018427387904 + k : Nat) : Int), .ag [boolA s21, .d x21], .ptr 0 0 2, intA .u8 (k : Int), intA .u8 ((k % 8 : Nat) : Int), Yes, .ag [boolA s1, .d x1], .ag [boolA s21, .d x21], .ag [boolA s28, .d x28], .ag [boolA s21, .d x21], .ag [boolA s29, .d x29], .ptr 0 0 2, intA .u8 (k : Int), J (k : Int), .ag [boolA s30, .d x30], .ag [boolA s31, .d x31], .ptr 0 0 2, intA .u8 (k : Int), intA .u8 ((k % 8 : Nat) : Int), Yes, .ag [boolA s20, .d x20], .ag [boolA s21, .d x21], .ag [boolA s34, .d x34], .ag [boolA s21, .d x21], .ag [boolA s35, .d x35], .ag [boolA s31, .d x31], .ag [boolA s35, .d x35], .ag [boolA sa36, .d xa36, boolA sb36, .d xb36]], ⟨[.row [intA .i8 n, intA .i8 d, intA .u8 (k : Int)] 0 .ow none, .row [boolA sa36, .d xa36, boolA sb36, .d xb36] 1 .ow none, .row [boolA s31, .d x31] 2 .ow none, .row [boolA s35, .d x35] 3 .ow none, .row [boolA s21, .d x21] 4 .ow none], 5⟩⟩) (fun cf => by kernel_rfl) ?_
        refine ev_ret ?_
        exact ⟨((sa36, xa36), (sb36, xb36)), ⟨((n * ((4611686018427387904 + k : Nat) : Int)) * ((4611686018427387904 + k : Nat) : Int)) + (k : Int), (1 * ((4611686018427387904 + k : Nat) : Int)) * ((4611686018427387904 + k : Nat) : Int), _, _, (Int.mul_ne_zero (Int.mul_ne_zero (by decide) (by omega)) (by omega)), Ia36, Nat.le_trans (iv_len Ia36 (Nat.lt_of_le_of_lt (div_natAbs_le _ _) (iv_lt I31))) (by omega), Ib36, Nat.le_trans (iv_len Ib36 (Nat.lt_of_le_of_lt (div_natAbs_le _ _) (iv_lt I35))) (by omega)⟩, .inr rfl, .ag [boolA sa36, .d xa36, boolA sb36, .d xb36], by kernel_rfl, by kernel_rfl⟩

end Go.Proofs.Ytgkjdfojogemhaa.W
