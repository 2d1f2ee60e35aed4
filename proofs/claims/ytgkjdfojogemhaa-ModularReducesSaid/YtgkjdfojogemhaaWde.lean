/-
  The reference: the guess of a digit. Made by program. Conditions: none.
-/
import Derived.Test.YtgkjdfojogemhaaWdd
set_option maxRecDepth 100000
set_option maxHeartbeats 20000000
set_option linter.unusedSimpArgs false
set_option linter.unusedVariables false
namespace Go.Proofs.Ytgkjdfojogemhaa.W
open Go.Am


/-- The top of the dividend's part (three words) and of the divisor (two words). -/
def top3 (a : List Nat) (n : Nat) : Nat := (a.getD n 0 * 4294967296 + a.getD (n - 1) 0) * 4294967296 + a.getD (n - 2) 0
def top2 (b : List Nat) (n : Nat) : Nat := b.getD (n - 1) 0 * 4294967296 + b.getD (n - 2) 0

theorem gs_first {U u v1 v0 Q : Nat} (hu : u < 4294967296) (h1 : v1 ≠ 0) (h : Q * (v1 * 4294967296 + v0) ≤ U * 4294967296 + u) : Q ≤ U / v1 := by
  rw [Nat.le_div_iff_mul_le (by omega)]
  rw [Nat.mul_add, ← Nat.mul_assoc] at h
  omega
theorem gs_less {U u v1 v0 Q q r : Nat} (he : q * v1 + r = U) (hQ : Q ≤ q) (hB : Q < 4294967296) (h : Q * (v1 * 4294967296 + v0) ≤ U * 4294967296 + u) (hc : 4294967296 ≤ q ∨ q * v0 > r * 4294967296 + u) : Q ≤ q - 1 := by
  by_cases hq : Q = q
  · subst hq
    rw [Nat.mul_add, ← Nat.mul_assoc, ← he, Nat.add_mul] at h
    omega
  · omega
theorem gs_end {U u v1 v0 q r un : Nat} (he : q * v1 + r = U) (hU : U ≤ v1 * 4294967296 + 4294967295) (h0 : v0 < 4294967296) (h : 4294967296 ≤ r ∨ q < 4294967296 ∧ q * v0 ≤ r * 4294967296 + u) : q < 4294967296 ∧ q * (v1 * 4294967296 + v0) ≤ U * 4294967296 + u := by
  have hq : q < 4294967296 := by
    rcases h with h | h
    · by_cases hq : q < 4294967296
      · exact hq
      · have := Nat.mul_le_mul_right v1 (Nat.le_of_not_lt hq)
        have e : 4294967296 * v1 = v1 * 4294967296 := Nat.mul_comm _ _
        omega
    · exact h.1
  refine ⟨hq, ?_⟩
  rw [Nat.mul_add, ← Nat.mul_assoc, ← he, Nat.add_mul]
  rcases h with h | h
  · have h2 := mulB hq h0
    omega
  · omega

noncomputable def guessC : Code := (lft (lft (lft (rgt (rgt (rgt (rgt (rgt (Try.f85.body.getD .skip)))))))))


theorem guess_round {K : Out → St → Prop} {a b : List Nat} {x y : D} {n q r : Nat} (x6 x9 x10 x11 x12 x13 x14 x15 x16 x17 x18 x19 x20 x21 x22 x23 x24 x25 x26 x27 x28 x29 x30 x31 x32 x33 x34 x35 x36 x37 x38 x39 : AV) (hx : Ws a x) (hy : Ws b y) (ha : Ok a) (hb : Ok b) (hn : 2 ≤ n) (hn2 : n < 1000000000) (hal : a.length = n + 1) (hbl : b.length = n) (hq : q < 18446744073709551616) (hr : r < 4294967296) (z40 z41 z42 z43 z44 z45 z46 z47 z48 z49 z50 z51 z52 z53 z54 z55 z56 z57 z58 z59 z60 z61 z62 z63 z64 z65 z66 z67 z68 z69 z70 z71 z72 z73 : AV) (h0 : q < 4294967296 → q * b.getD (n - 2) 0 ≤ r * 4294967296 + a.getD (n - 2) 0 → ∀ z40 z41 z42 z43 z44 z45 z46 z47 z48 z49 z50 z51 z52 z53 z54 z55 z56 z57 z58 z59 z60 z61 z62 z63 z64 z65 z66 z67 z68 z69 z70 z71 z72 z73, K (.exit 0) ⟨[.d x, .d y, U, U, intA .u64 0, J (n : Int), x6, intA .u64 (q : Int), intA .u64 (r : Int), x9, x10, x11, x12, x13, x14, x15, x16, x17, x18, x19, x20, x21, x22, x23, x24, x25, x26, x27, x28, x29, x30, x31, x32, x33, x34, x35, x36, x37, x38, x39, z40, z41, z42, z43, z44, z45, z46, z47, z48, z49, z50, z51, z52, z53, z54, z55, z56, z57, z58, z59, z60, z61, z62, z63, z64, z65, z66, z67, z68, z69, z70, z71, z72, z73, U], ⟨[], 0⟩⟩) (h1 : (4294967296 ≤ q ∨ q * b.getD (n - 2) 0 > r * 4294967296 + a.getD (n - 2) 0) → 4294967296 ≤ r + b.getD (n - 1) 0 → ∀ z40 z41 z42 z43 z44 z45 z46 z47 z48 z49 z50 z51 z52 z53 z54 z55 z56 z57 z58 z59 z60 z61 z62 z63 z64 z65 z66 z67 z68 z69 z70 z71 z72 z73, K (.exit 0) ⟨[.d x, .d y, U, U, intA .u64 0, J (n : Int), x6, intA .u64 ((q - 1 : Nat) : Int), intA .u64 ((r + b.getD (n - 1) 0 : Nat) : Int), x9, x10, x11, x12, x13, x14, x15, x16, x17, x18, x19, x20, x21, x22, x23, x24, x25, x26, x27, x28, x29, x30, x31, x32, x33, x34, x35, x36, x37, x38, x39, z40, z41, z42, z43, z44, z45, z46, z47, z48, z49, z50, z51, z52, z53, z54, z55, z56, z57, z58, z59, z60, z61, z62, z63, z64, z65, z66, z67, z68, z69, z70, z71, z72, z73, U], ⟨[], 0⟩⟩) (h2 : (4294967296 ≤ q ∨ q * b.getD (n - 2) 0 > r * 4294967296 + a.getD (n - 2) 0) → r + b.getD (n - 1) 0 < 4294967296 → ∀ z40 z41 z42 z43 z44 z45 z46 z47 z48 z49 z50 z51 z52 z53 z54 z55 z56 z57 z58 z59 z60 z61 z62 z63 z64 z65 z66 z67 z68 z69 z70 z71 z72 z73, EvK Try.cx 85 (.loop guessC) ⟨[.d x, .d y, U, U, intA .u64 0, J (n : Int), x6, intA .u64 ((q - 1 : Nat) : Int), intA .u64 ((r + b.getD (n - 1) 0 : Nat) : Int), x9, x10, x11, x12, x13, x14, x15, x16, x17, x18, x19, x20, x21, x22, x23, x24, x25, x26, x27, x28, x29, x30, x31, x32, x33, x34, x35, x36, x37, x38, x39, z40, z41, z42, z43, z44, z45, z46, z47, z48, z49, z50, z51, z52, z53, z54, z55, z56, z57, z58, z59, z60, z61, z62, z63, z64, z65, z66, z67, z68, z69, z70, z71, z72, z73, U], ⟨[], 0⟩⟩ K) : EvK Try.cx 85 (.loop guessC) ⟨[.d x, .d y, U, U, intA .u64 0, J (n : Int), x6, intA .u64 (q : Int), intA .u64 (r : Int), x9, x10, x11, x12, x13, x14, x15, x16, x17, x18, x19, x20, x21, x22, x23, x24, x25, x26, x27, x28, x29, x30, x31, x32, x33, x34, x35, x36, x37, x38, x39, z40, z41, z42, z43, z44, z45, z46, z47, z48, z49, z50, z51, z52, z53, z54, z55, z56, z57, z58, z59, z60, z61, z62, z63, z64, z65, z66, z67, z68, z69, z70, z71, z72, z73, U], ⟨[], 0⟩⟩ K := by
  refine ev_loop ?_
  refine ev_seq ?_
  refine ev_seq ?_
  refine ev_reg (by kernel_rfl) ?_
  refine rs_up 3 [(40, intA .u64 (q : Int)), (41, boolA (decide ((q : Int) ≥ 4294967296))), (42, boolA (decide ((q : Int) ≥ 4294967296)))] (fun cf => by kernel_rfl) ?_
  rcases hb1 : ((decide ((q : Int) ≥ 4294967296)) : Bool) with _ | _
  ·
    have hb1' := of_decide_eq_false hb1
    refine rs_up 4 [(43, intA .u64 (q : Int)), (44, .d y), (45, J (n : Int)), (46, J (IntKind.wrap .i64 ((n : Int) - 2)))] (fun cf => by kernel_rfl) ?_
    rw [subI (a := (n : Int)) (b := 2) (A := n) (B := 2) (by rfl) (by rfl) (by omega)]
    refine rs_cv (fun m9 => indexAddrA Try.cx 32 m9 (.d y) (J ((n - 2 : Nat) : Int))) (some 47) (.rp [.v (.int .u32 ((b.getD (n - 2) 0 : Nat) : Int))]) (fun cf => by kernel_rfl) (idx_ws (k := n - 2) hy (by rfl) (by omega)) ?_
    refine rs_up 2 [(48, intA .u32 ((b.getD (n - 2) 0 : Nat) : Int)), (49, intA .u64 (IntKind.wrap .u64 ((b.getD (n - 2) 0 : Nat) : Int)))] (fun cf => by kernel_rfl) ?_
    rw [wrapU (n := b.getD (n - 2) 0) (by have := hb (n - 2); omega)]
    refine rs_up 1 [(50, intA .u64 (IntKind.wrap .u64 ((q : Int) * ((b.getD (n - 2) 0 : Nat) : Int))))] (fun cf => by kernel_rfl) ?_
    rw [mulU (a := (q : Int)) (b := ((b.getD (n - 2) 0 : Nat) : Int)) (A := q) (B := b.getD (n - 2) 0) (by rfl) (by rfl) (by have := mulB (show q < 4294967296 by omega) (hb (n - 2)); omega)]
    refine rs_up 2 [(51, intA .u64 (r : Int)), (52, intA .u64 (IntKind.wrap .u64 ((r : Int) * 4294967296)))] (fun cf => by kernel_rfl) ?_
    rw [mulU (a := (r : Int)) (b := 4294967296) (A := r) (B := 4294967296) (by rfl) (by rfl) (by omega)]
    refine rs_up 3 [(53, .d x), (54, J (n : Int)), (55, J (IntKind.wrap .i64 ((n : Int) - 2)))] (fun cf => by kernel_rfl) ?_
    rw [subI (a := (n : Int)) (b := 2) (A := n) (B := 2) (by rfl) (by rfl) (by omega)]
    refine rs_cv (fun m9 => indexAddrA Try.cx 32 m9 (.d x) (J ((n - 2 : Nat) : Int))) (some 56) (.rp [.v (.int .u32 ((a.getD (n - 2) 0 : Nat) : Int))]) (fun cf => by kernel_rfl) (idx_ws (k := n - 2) hx (by rfl) (by omega)) ?_
    refine rs_up 2 [(57, intA .u32 ((a.getD (n - 2) 0 : Nat) : Int)), (58, intA .u64 (IntKind.wrap .u64 ((a.getD (n - 2) 0 : Nat) : Int)))] (fun cf => by kernel_rfl) ?_
    rw [wrapU (n := a.getD (n - 2) 0) (by have := ha (n - 2); omega)]
    refine rs_up 1 [(59, intA .u64 (IntKind.wrap .u64 (((r * 4294967296 : Nat) : Int) + ((a.getD (n - 2) 0 : Nat) : Int))))] (fun cf => by kernel_rfl) ?_
    rw [addU (a := ((r * 4294967296 : Nat) : Int)) (b := ((a.getD (n - 2) 0 : Nat) : Int)) (A := r * 4294967296) (B := a.getD (n - 2) 0) (by rfl) (by rfl) (by have := ha (n - 2); omega)]
    refine rs_all (s1 := ⟨[.d x, .d y, U, U, intA .u64 0, J (n : Int), x6, intA .u64 (q : Int), intA .u64 (r : Int), x9, x10, x11, x12, x13, x14, x15, x16, x17, x18, x19, x20, x21, x22, x23, x24, x25, x26, x27, x28, x29, x30, x31, x32, x33, x34, x35, x36, x37, x38, x39, intA .u64 (q : Int), No, No, intA .u64 (q : Int), .d y, J (n : Int), J ((n - 2 : Nat) : Int), .rp [.v (.int .u32 ((b.getD (n - 2) 0 : Nat) : Int))], intA .u32 ((b.getD (n - 2) 0 : Nat) : Int), intA .u64 ((b.getD (n - 2) 0 : Nat) : Int), intA .u64 ((q * (b.getD (n - 2) 0) : Nat) : Int), intA .u64 (r : Int), intA .u64 ((r * 4294967296 : Nat) : Int), .d x, J (n : Int), J ((n - 2 : Nat) : Int), .rp [.v (.int .u32 ((a.getD (n - 2) 0 : Nat) : Int))], intA .u32 ((a.getD (n - 2) 0 : Nat) : Int), intA .u64 ((a.getD (n - 2) 0 : Nat) : Int), intA .u64 (((r * 4294967296) + (a.getD (n - 2) 0) : Nat) : Int), boolA (decide (((q * (b.getD (n - 2) 0) : Nat) : Int) > (((r * 4294967296) + (a.getD (n - 2) 0) : Nat) : Int))), boolA (decide (((q * (b.getD (n - 2) 0) : Nat) : Int) > (((r * 4294967296) + (a.getD (n - 2) 0) : Nat) : Int))), z62, z63, z64, z65, z66, z67, z68, z69, z70, z71, z72, z73, U], ⟨[], 0⟩⟩) (fun cf => by kernel_rfl) ?_
    rcases hb2 : ((decide (((q * (b.getD (n - 2) 0) : Nat) : Int) > (((r * 4294967296) + (a.getD (n - 2) 0) : Nat) : Int))) : Bool) with _ | _
    ·
      have hb2' := of_decide_eq_false hb2
      refine ev_false (by kernel_rfl) ?_
      refine ev_exit ?_
      exact h0 (by omega) (by omega) _ _ _ _ _ _ _ _ _ _ _ _ _ _ _ _ _ _ _ _ _ _ _ _ _ _ _ _ _ _ _ _ _ _
    ·
      have hb2' := of_decide_eq_true hb2
      refine ev_true (by kernel_rfl) ?_
      refine ev_skip ?_
      refine ev_block ?_
      refine ev_seq ?_
      refine ev_reg (by kernel_rfl) ?_
      refine rs_up 2 [(62, intA .u64 (q : Int)), (63, intA .u64 (IntKind.wrap .u64 ((q : Int) - 1)))] (fun cf => by kernel_rfl) ?_
      rw [subU (a := (q : Int)) (b := 1) (A := q) (B := 1) (by rfl) (by rfl) (⟨Nat.pos_of_ne_zero (fun h0 => by subst h0; omega), hq⟩)]
      refine rs_alu [(7, intA .u64 ((q - 1 : Nat) : Int))] (fun cf => by kernel_rfl) ?_
      refine ev_seq ?_
      refine ev_reg (by kernel_rfl) ?_
      refine rs_up 4 [(64, intA .u64 (r : Int)), (65, .d y), (66, J (n : Int)), (67, J (IntKind.wrap .i64 ((n : Int) - 1)))] (fun cf => by kernel_rfl) ?_
      rw [subI (a := (n : Int)) (b := 1) (A := n) (B := 1) (by rfl) (by rfl) (by omega)]
      refine rs_cv (fun m9 => indexAddrA Try.cx 32 m9 (.d y) (J ((n - 1 : Nat) : Int))) (some 68) (.rp [.v (.int .u32 ((b.getD (n - 1) 0 : Nat) : Int))]) (fun cf => by kernel_rfl) (idx_ws (k := n - 1) hy (by rfl) (by omega)) ?_
      refine rs_up 2 [(69, intA .u32 ((b.getD (n - 1) 0 : Nat) : Int)), (70, intA .u64 (IntKind.wrap .u64 ((b.getD (n - 1) 0 : Nat) : Int)))] (fun cf => by kernel_rfl) ?_
      rw [wrapU (n := b.getD (n - 1) 0) (by have := hb (n - 1); omega)]
      refine rs_up 1 [(71, intA .u64 (IntKind.wrap .u64 ((r : Int) + ((b.getD (n - 1) 0 : Nat) : Int))))] (fun cf => by kernel_rfl) ?_
      rw [addU (a := (r : Int)) (b := ((b.getD (n - 1) 0 : Nat) : Int)) (A := r) (B := b.getD (n - 1) 0) (by rfl) (by rfl) (by have := hb (n - 1); omega)]
      refine rs_alu [(8, intA .u64 ((r + (b.getD (n - 1) 0) : Nat) : Int))] (fun cf => by kernel_rfl) ?_
      refine ev_seq ?_
      refine ev_reg (by kernel_rfl) ?_
      refine rs_all (s1 := ⟨[.d x, .d y, U, U, intA .u64 0, J (n : Int), x6, intA .u64 ((q - 1 : Nat) : Int), intA .u64 ((r + (b.getD (n - 1) 0) : Nat) : Int), x9, x10, x11, x12, x13, x14, x15, x16, x17, x18, x19, x20, x21, x22, x23, x24, x25, x26, x27, x28, x29, x30, x31, x32, x33, x34, x35, x36, x37, x38, x39, intA .u64 (q : Int), No, No, intA .u64 (q : Int), .d y, J (n : Int), J ((n - 2 : Nat) : Int), .rp [.v (.int .u32 ((b.getD (n - 2) 0 : Nat) : Int))], intA .u32 ((b.getD (n - 2) 0 : Nat) : Int), intA .u64 ((b.getD (n - 2) 0 : Nat) : Int), intA .u64 ((q * (b.getD (n - 2) 0) : Nat) : Int), intA .u64 (r : Int), intA .u64 ((r * 4294967296 : Nat) : Int), .d x, J (n : Int), J ((n - 2 : Nat) : Int), .rp [.v (.int .u32 ((a.getD (n - 2) 0 : Nat) : Int))], intA .u32 ((a.getD (n - 2) 0 : Nat) : Int), intA .u64 ((a.getD (n - 2) 0 : Nat) : Int), intA .u64 (((r * 4294967296) + (a.getD (n - 2) 0) : Nat) : Int), Yes, Yes, intA .u64 (q : Int), intA .u64 ((q - 1 : Nat) : Int), intA .u64 (r : Int), .d y, J (n : Int), J ((n - 1 : Nat) : Int), .rp [.v (.int .u32 ((b.getD (n - 1) 0 : Nat) : Int))], intA .u32 ((b.getD (n - 1) 0 : Nat) : Int), intA .u64 ((b.getD (n - 1) 0 : Nat) : Int), intA .u64 ((r + (b.getD (n - 1) 0) : Nat) : Int), intA .u64 ((r + (b.getD (n - 1) 0) : Nat) : Int), boolA (decide (((r + (b.getD (n - 1) 0) : Nat) : Int) ≥ 4294967296)), U], ⟨[], 0⟩⟩) (fun cf => by kernel_rfl) ?_
      rcases hb3 : ((decide (((r + (b.getD (n - 1) 0) : Nat) : Int) ≥ 4294967296)) : Bool) with _ | _
      ·
        have hb3' := of_decide_eq_false hb3
        refine ev_false (by kernel_rfl) ?_
        refine ev_skip ?_
        exact h2 (by omega) (by omega) _ _ _ _ _ _ _ _ _ _ _ _ _ _ _ _ _ _ _ _ _ _ _ _ _ _ _ _ _ _ _ _ _ _
      ·
        have hb3' := of_decide_eq_true hb3
        refine ev_true (by kernel_rfl) ?_
        refine ev_exit ?_
        exact h1 (by omega) (by omega) _ _ _ _ _ _ _ _ _ _ _ _ _ _ _ _ _ _ _ _ _ _ _ _ _ _ _ _ _ _ _ _ _ _
  ·
    have hb1' := of_decide_eq_true hb1
    refine rs_alu [(43, U), (44, U), (45, U), (46, U), (47, U), (48, U), (49, U), (50, U), (51, U), (52, U), (53, U), (54, U), (55, U), (56, U), (57, U), (58, U), (59, U), (60, U), (61, Yes)] (fun cf => by kernel_rfl) ?_
    refine ev_true (by kernel_rfl) ?_
    refine ev_skip ?_
    refine ev_block ?_
    refine ev_seq ?_
    refine ev_reg (by kernel_rfl) ?_
    refine rs_up 2 [(62, intA .u64 (q : Int)), (63, intA .u64 (IntKind.wrap .u64 ((q : Int) - 1)))] (fun cf => by kernel_rfl) ?_
    rw [subU (a := (q : Int)) (b := 1) (A := q) (B := 1) (by rfl) (by rfl) (⟨Nat.pos_of_ne_zero (fun h0 => by subst h0; omega), hq⟩)]
    refine rs_alu [(7, intA .u64 ((q - 1 : Nat) : Int))] (fun cf => by kernel_rfl) ?_
    refine ev_seq ?_
    refine ev_reg (by kernel_rfl) ?_
    refine rs_up 4 [(64, intA .u64 (r : Int)), (65, .d y), (66, J (n : Int)), (67, J (IntKind.wrap .i64 ((n : Int) - 1)))] (fun cf => by kernel_rfl) ?_
    rw [subI (a := (n : Int)) (b := 1) (A := n) (B := 1) (by rfl) (by rfl) (by omega)]
    refine rs_cv (fun m9 => indexAddrA Try.cx 32 m9 (.d y) (J ((n - 1 : Nat) : Int))) (some 68) (.rp [.v (.int .u32 ((b.getD (n - 1) 0 : Nat) : Int))]) (fun cf => by kernel_rfl) (idx_ws (k := n - 1) hy (by rfl) (by omega)) ?_
    refine rs_up 2 [(69, intA .u32 ((b.getD (n - 1) 0 : Nat) : Int)), (70, intA .u64 (IntKind.wrap .u64 ((b.getD (n - 1) 0 : Nat) : Int)))] (fun cf => by kernel_rfl) ?_
    rw [wrapU (n := b.getD (n - 1) 0) (by have := hb (n - 1); omega)]
    refine rs_up 1 [(71, intA .u64 (IntKind.wrap .u64 ((r : Int) + ((b.getD (n - 1) 0 : Nat) : Int))))] (fun cf => by kernel_rfl) ?_
    rw [addU (a := (r : Int)) (b := ((b.getD (n - 1) 0 : Nat) : Int)) (A := r) (B := b.getD (n - 1) 0) (by rfl) (by rfl) (by have := hb (n - 1); omega)]
    refine rs_alu [(8, intA .u64 ((r + (b.getD (n - 1) 0) : Nat) : Int))] (fun cf => by kernel_rfl) ?_
    refine ev_seq ?_
    refine ev_reg (by kernel_rfl) ?_
    refine rs_all (s1 := ⟨[.d x, .d y, U, U, intA .u64 0, J (n : Int), x6, intA .u64 ((q - 1 : Nat) : Int), intA .u64 ((r + (b.getD (n - 1) 0) : Nat) : Int), x9, x10, x11, x12, x13, x14, x15, x16, x17, x18, x19, x20, x21, x22, x23, x24, x25, x26, x27, x28, x29, x30, x31, x32, x33, x34, x35, x36, x37, x38, x39, intA .u64 (q : Int), Yes, Yes] ++ us 18 ++ [Yes, intA .u64 (q : Int), intA .u64 ((q - 1 : Nat) : Int), intA .u64 (r : Int), .d y, J (n : Int), J ((n - 1 : Nat) : Int), .rp [.v (.int .u32 ((b.getD (n - 1) 0 : Nat) : Int))], intA .u32 ((b.getD (n - 1) 0 : Nat) : Int), intA .u64 ((b.getD (n - 1) 0 : Nat) : Int), intA .u64 ((r + (b.getD (n - 1) 0) : Nat) : Int), intA .u64 ((r + (b.getD (n - 1) 0) : Nat) : Int), boolA (decide (((r + (b.getD (n - 1) 0) : Nat) : Int) ≥ 4294967296)), U], ⟨[], 0⟩⟩) (fun cf => by kernel_rfl) ?_
    rcases hb4 : ((decide (((r + (b.getD (n - 1) 0) : Nat) : Int) ≥ 4294967296)) : Bool) with _ | _
    ·
      have hb4' := of_decide_eq_false hb4
      refine ev_false (by kernel_rfl) ?_
      refine ev_skip ?_
      exact h2 (by omega) (by omega) _ _ _ _ _ _ _ _ _ _ _ _ _ _ _ _ _ _ _ _ _ _ _ _ _ _ _ _ _ _ _ _ _ _
    ·
      have hb4' := of_decide_eq_true hb4
      refine ev_true (by kernel_rfl) ?_
      refine ev_exit ?_
      exact h1 (by omega) (by omega) _ _ _ _ _ _ _ _ _ _ _ _ _ _ _ _ _ _ _ _ _ _ _ _ _ _ _ _ _ _ _ _ _ _

theorem guess_loop {K : Out → St → Prop} {a b : List Nat} {x y : D} {n : Nat} (x6 x9 x10 x11 x12 x13 x14 x15 x16 x17 x18 x19 x20 x21 x22 x23 x24 x25 x26 x27 x28 x29 x30 x31 x32 x33 x34 x35 x36 x37 x38 x39 : AV) (hx : Ws a x) (hy : Ws b y) (ha : Ok a) (hb : Ok b) (hn : 2 ≤ n) (hn2 : n < 1000000000) (hal : a.length = n + 1) (hbl : b.length = n) (h1 : b.getD (n - 1) 0 ≠ 0) (hu : a.getD n 0 ≤ b.getD (n - 1) 0)
    (h : ∀ (q r : Nat) (z40 z41 z42 z43 z44 z45 z46 z47 z48 z49 z50 z51 z52 z53 z54 z55 z56 z57 z58 z59 z60 z61 z62 z63 z64 z65 z66 z67 z68 z69 z70 z71 z72 z73 : AV), q < 4294967296 → q * top2 b n ≤ top3 a n → (∀ Q, Q < 4294967296 → Q * top2 b n ≤ top3 a n → Q ≤ q) → K (.exit 0) ⟨[.d x, .d y, U, U, intA .u64 0, J (n : Int), x6, intA .u64 (q : Int), intA .u64 (r : Int), x9, x10, x11, x12, x13, x14, x15, x16, x17, x18, x19, x20, x21, x22, x23, x24, x25, x26, x27, x28, x29, x30, x31, x32, x33, x34, x35, x36, x37, x38, x39, z40, z41, z42, z43, z44, z45, z46, z47, z48, z49, z50, z51, z52, z53, z54, z55, z56, z57, z58, z59, z60, z61, z62, z63, z64, z65, z66, z67, z68, z69, z70, z71, z72, z73, U], ⟨[], 0⟩⟩) :
    ∀ (f q r : Nat) (z40 z41 z42 z43 z44 z45 z46 z47 z48 z49 z50 z51 z52 z53 z54 z55 z56 z57 z58 z59 z60 z61 z62 z63 z64 z65 z66 z67 z68 z69 z70 z71 z72 z73 : AV), q ≤ f → q < 18446744073709551616 → r < 4294967296 → q * b.getD (n - 1) 0 + r = a.getD n 0 * 4294967296 + a.getD (n - 1) 0 → (∀ Q, Q < 4294967296 → Q * top2 b n ≤ top3 a n → Q ≤ q) → EvK Try.cx 85 (.loop guessC) ⟨[.d x, .d y, U, U, intA .u64 0, J (n : Int), x6, intA .u64 (q : Int), intA .u64 (r : Int), x9, x10, x11, x12, x13, x14, x15, x16, x17, x18, x19, x20, x21, x22, x23, x24, x25, x26, x27, x28, x29, x30, x31, x32, x33, x34, x35, x36, x37, x38, x39, z40, z41, z42, z43, z44, z45, z46, z47, z48, z49, z50, z51, z52, z53, z54, z55, z56, z57, z58, z59, z60, z61, z62, z63, z64, z65, z66, z67, z68, z69, z70, z71, z72, z73, U], ⟨[], 0⟩⟩ K := by
  have hU : a.getD n 0 * 4294967296 + a.getD (n - 1) 0 ≤ b.getD (n - 1) 0 * 4294967296 + 4294967295 := by
    have h3 := ha (n - 1)
    generalize a.getD (n - 1) 0 = t at h3
    generalize a.getD n 0 = s at hu
    generalize b.getD (n - 1) 0 = v at hu
    omega
  have hv0 := hb (n - 2)
  intro f
  induction f with
  | zero =>
    intro q r z40 z41 z42 z43 z44 z45 z46 z47 z48 z49 z50 z51 z52 z53 z54 z55 z56 z57 z58 z59 z60 z61 z62 z63 z64 z65 z66 z67 z68 z69 z70 z71 z72 z73 hf hq hr he hQ
    have : q = 0 := by omega
    subst this
    refine guess_round x6 x9 x10 x11 x12 x13 x14 x15 x16 x17 x18 x19 x20 x21 x22 x23 x24 x25 x26 x27 x28 x29 x30 x31 x32 x33 x34 x35 x36 x37 x38 x39 hx hy ha hb hn hn2 hal hbl hq hr z40 z41 z42 z43 z44 z45 z46 z47 z48 z49 z50 z51 z52 z53 z54 z55 z56 z57 z58 z59 z60 z61 z62 z63 z64 z65 z66 z67 z68 z69 z70 z71 z72 z73 (fun c1 c2 z40 z41 z42 z43 z44 z45 z46 z47 z48 z49 z50 z51 z52 z53 z54 z55 z56 z57 z58 z59 z60 z61 z62 z63 z64 z65 z66 z67 z68 z69 z70 z71 z72 z73 => ?_) (fun c => by omega) fun c => by omega
    exact h 0 r z40 z41 z42 z43 z44 z45 z46 z47 z48 z49 z50 z51 z52 z53 z54 z55 z56 z57 z58 z59 z60 z61 z62 z63 z64 z65 z66 z67 z68 z69 z70 z71 z72 z73 (by decide) (gs_end (un := 0) he hU hv0 (.inr ⟨c1, c2⟩)).2 hQ
  | succ f ih =>
    intro q r z40 z41 z42 z43 z44 z45 z46 z47 z48 z49 z50 z51 z52 z53 z54 z55 z56 z57 z58 z59 z60 z61 z62 z63 z64 z65 z66 z67 z68 z69 z70 z71 z72 z73 hf hq hr he hQ
    refine guess_round x6 x9 x10 x11 x12 x13 x14 x15 x16 x17 x18 x19 x20 x21 x22 x23 x24 x25 x26 x27 x28 x29 x30 x31 x32 x33 x34 x35 x36 x37 x38 x39 hx hy ha hb hn hn2 hal hbl hq hr z40 z41 z42 z43 z44 z45 z46 z47 z48 z49 z50 z51 z52 z53 z54 z55 z56 z57 z58 z59 z60 z61 z62 z63 z64 z65 z66 z67 z68 z69 z70 z71 z72 z73 (fun c1 c2 z40 z41 z42 z43 z44 z45 z46 z47 z48 z49 z50 z51 z52 z53 z54 z55 z56 z57 z58 z59 z60 z61 z62 z63 z64 z65 z66 z67 z68 z69 z70 z71 z72 z73 => ?_) (fun c1 c2 z40 z41 z42 z43 z44 z45 z46 z47 z48 z49 z50 z51 z52 z53 z54 z55 z56 z57 z58 z59 z60 z61 z62 z63 z64 z65 z66 z67 z68 z69 z70 z71 z72 z73 => ?_) fun c1 c2 z40 z41 z42 z43 z44 z45 z46 z47 z48 z49 z50 z51 z52 z53 z54 z55 z56 z57 z58 z59 z60 z61 z62 z63 z64 z65 z66 z67 z68 z69 z70 z71 z72 z73 => ?_
    · exact h q r z40 z41 z42 z43 z44 z45 z46 z47 z48 z49 z50 z51 z52 z53 z54 z55 z56 z57 z58 z59 z60 z61 z62 z63 z64 z65 z66 z67 z68 z69 z70 z71 z72 z73 c1 (gs_end (un := 0) he hU hv0 (.inr ⟨c1, c2⟩)).2 hQ
    · have hq1 : q ≠ 0 := fun h => by subst h; omega
      have he' : (q - 1) * b.getD (n - 1) 0 + (r + b.getD (n - 1) 0) = a.getD n 0 * 4294967296 + a.getD (n - 1) 0 := by
        obtain ⟨k, rfl⟩ : ∃ k, q = k + 1 := ⟨q - 1, by omega⟩
        rw [Nat.add_mul, Nat.one_mul] at he
        rw [Nat.add_sub_cancel]
        omega
      have hfin := gs_end (un := 0) (u := a.getD (n - 2) 0) he' hU hv0 (.inl c2)
      exact h (q - 1) _ z40 z41 z42 z43 z44 z45 z46 z47 z48 z49 z50 z51 z52 z53 z54 z55 z56 z57 z58 z59 z60 z61 z62 z63 z64 z65 z66 z67 z68 z69 z70 z71 z72 z73 hfin.1 hfin.2 fun Q h3 h4 => gs_less he (hQ Q h3 h4) h3 h4 c1
    · have hq1 : q ≠ 0 := fun h => by subst h; omega
      have he' : (q - 1) * b.getD (n - 1) 0 + (r + b.getD (n - 1) 0) = a.getD n 0 * 4294967296 + a.getD (n - 1) 0 := by
        obtain ⟨k, rfl⟩ : ∃ k, q = k + 1 := ⟨q - 1, by omega⟩
        rw [Nat.add_mul, Nat.one_mul] at he
        rw [Nat.add_sub_cancel]
        omega
      exact ih (q - 1) _ z40 z41 z42 z43 z44 z45 z46 z47 z48 z49 z50 z51 z52 z53 z54 z55 z56 z57 z58 z59 z60 z61 z62 z63 z64 z65 z66 z67 z68 z69 z70 z71 z72 z73 (by omega) (by omega) c2 he' fun Q h3 h4 => gs_less he (hQ Q h3 h4) h3 h4 c1

theorem g_guess {a b : List Nat} {x y : D} {n : Nat} (hx : Ws a x) (hy : Ws b y) (ha : Ok a) (hb : Ok b) (hn : 2 ≤ n) (hn2 : n < 100000000) (hal : a.length = n + 1) (hbl : b.length = n) (h1 : b.getD (n - 1) 0 ≠ 0) (hu : a.getD n 0 ≤ b.getD (n - 1) 0) : ∃ res : Nat, (fun q => q < 4294967296 ∧ q * top2 b n ≤ top3 a n ∧ ∀ Q, Q < 4294967296 → Q * top2 b n ≤ top3 a n → Q ≤ q) res ∧ Gets Try.cx 85 [.d x, .d y] ((fun q => intA .u64 ((q : Nat) : Int)) res) := by
  have hrs : (a.getD n 0 * 4294967296 + a.getD (n - 1) 0) % b.getD (n - 1) 0 < 4294967296 := by have := hb (n - 1); have := Nat.mod_lt (a.getD n 0 * 4294967296 + a.getD (n - 1) 0) (Nat.pos_of_ne_zero h1); omega
  have hqs : (a.getD n 0 * 4294967296 + a.getD (n - 1) 0) / b.getD (n - 1) 0 < 18446744073709551616 := by have := ha n; have := ha (n - 1); have := Nat.div_le_self (a.getD n 0 * 4294967296 + a.getD (n - 1) 0) (b.getD (n - 1) 0); omega
  refine gets_some (fn := Try.f85) (fun q => q < 4294967296 ∧ q * top2 b n ≤ top3 a n ∧ ∀ Q, Q < 4294967296 → Q * top2 b n ≤ top3 a n → Q ≤ q) (fun q => intA .u64 ((q : Nat) : Int)) (by kernel_rfl) rfl ?_
  show EvK _ _ _ ⟨[.d x, .d y] ++ us 73, ⟨[], 0⟩⟩ _
  refine ev_seq ?_
  refine ev_reg (by kernel_rfl) ?_
  refine rs_alu [(4, intA .u64 0)] (fun cf => by kernel_rfl) ?_
  refine ev_seq ?_
  refine ev_reg (by kernel_rfl) ?_
  refine rs_up 1 [(9, .d y)] (fun cf => by kernel_rfl) ?_
  refine rs_cl (fun m9 => lenA Try.cx 32 m9 (.d y)) (some 10) (b.length) (fun cf => by kernel_rfl) (len_ws hy) ?_
  rw [hbl]
  refine rs_alu [(5, J (n : Int))] (fun cf => by kernel_rfl) ?_
  refine ev_seq ?_
  refine ev_reg (by kernel_rfl) ?_
  refine rs_up 2 [(11, .d x), (12, J (n : Int))] (fun cf => by kernel_rfl) ?_
  refine rs_cv (fun m9 => indexAddrA Try.cx 32 m9 (.d x) (J (n : Int))) (some 13) (.rp [.v (.int .u32 ((a.getD n 0 : Nat) : Int))]) (fun cf => by kernel_rfl) (idx_ws (k := n) hx (by rfl) (by omega)) ?_
  refine rs_up 2 [(14, intA .u32 ((a.getD n 0 : Nat) : Int)), (15, intA .u64 (IntKind.wrap .u64 ((a.getD n 0 : Nat) : Int)))] (fun cf => by kernel_rfl) ?_
  rw [wrapU (n := a.getD n 0) (by have := ha n; omega)]
  refine rs_up 1 [(16, intA .u64 (IntKind.wrap .u64 (((a.getD n 0 : Nat) : Int) * 4294967296)))] (fun cf => by kernel_rfl) ?_
  rw [mulU (a := ((a.getD n 0 : Nat) : Int)) (b := 4294967296) (A := a.getD n 0) (B := 4294967296) (by rfl) (by rfl) (by have := ha n; have := ha (n - 1); omega)]
  refine rs_up 3 [(17, .d x), (18, J (n : Int)), (19, J (IntKind.wrap .i64 ((n : Int) - 1)))] (fun cf => by kernel_rfl) ?_
  rw [subI (a := (n : Int)) (b := 1) (A := n) (B := 1) (by rfl) (by rfl) (by omega)]
  refine rs_cv (fun m9 => indexAddrA Try.cx 32 m9 (.d x) (J ((n - 1 : Nat) : Int))) (some 20) (.rp [.v (.int .u32 ((a.getD (n - 1) 0 : Nat) : Int))]) (fun cf => by kernel_rfl) (idx_ws (k := n - 1) hx (by rfl) (by omega)) ?_
  refine rs_up 2 [(21, intA .u32 ((a.getD (n - 1) 0 : Nat) : Int)), (22, intA .u64 (IntKind.wrap .u64 ((a.getD (n - 1) 0 : Nat) : Int)))] (fun cf => by kernel_rfl) ?_
  rw [wrapU (n := a.getD (n - 1) 0) (by have := ha (n - 1); omega)]
  refine rs_up 1 [(23, intA .u64 (IntKind.wrap .u64 ((((a.getD n 0) * 4294967296 : Nat) : Int) + ((a.getD (n - 1) 0 : Nat) : Int))))] (fun cf => by kernel_rfl) ?_
  rw [addU (a := (((a.getD n 0) * 4294967296 : Nat) : Int)) (b := ((a.getD (n - 1) 0 : Nat) : Int)) (A := (a.getD n 0) * 4294967296) (B := a.getD (n - 1) 0) (by rfl) (by rfl) (by have := ha n; have := ha (n - 1); omega)]
  refine rs_alu [(6, intA .u64 ((((a.getD n 0) * 4294967296) + (a.getD (n - 1) 0) : Nat) : Int))] (fun cf => by kernel_rfl) ?_
  refine ev_seq ?_
  refine ev_reg (by kernel_rfl) ?_
  refine rs_up 4 [(24, intA .u64 ((((a.getD n 0) * 4294967296) + (a.getD (n - 1) 0) : Nat) : Int)), (25, .d y), (26, J (n : Int)), (27, J (IntKind.wrap .i64 ((n : Int) - 1)))] (fun cf => by kernel_rfl) ?_
  rw [subI (a := (n : Int)) (b := 1) (A := n) (B := 1) (by rfl) (by rfl) (by omega)]
  refine rs_cv (fun m9 => indexAddrA Try.cx 32 m9 (.d y) (J ((n - 1 : Nat) : Int))) (some 28) (.rp [.v (.int .u32 ((b.getD (n - 1) 0 : Nat) : Int))]) (fun cf => by kernel_rfl) (idx_ws (k := n - 1) hy (by rfl) (by omega)) ?_
  refine rs_up 2 [(29, intA .u32 ((b.getD (n - 1) 0 : Nat) : Int)), (30, intA .u64 (IntKind.wrap .u64 ((b.getD (n - 1) 0 : Nat) : Int)))] (fun cf => by kernel_rfl) ?_
  rw [wrapU (n := b.getD (n - 1) 0) (by have := hb (n - 1); omega)]
  refine rs_cv (fun m9 => binA Try.cx m9 .quo 23 (intA .u64 ((((a.getD n 0) * 4294967296) + (a.getD (n - 1) 0) : Nat) : Int)) (intA .u64 ((b.getD (n - 1) 0 : Nat) : Int))) (some 31) (intA .u64 (((((a.getD n 0) * 4294967296) + (a.getD (n - 1) 0)) / (b.getD (n - 1) 0) : Nat) : Int)) (fun cf => by kernel_rfl) (quoU_at (A := ((a.getD n 0) * 4294967296) + (a.getD (n - 1) 0)) (P := b.getD (n - 1) 0) (by rfl) (by rfl) (⟨h1, by have := ha n; have := ha (n - 1); omega⟩)) ?_
  refine rs_alu [(7, intA .u64 (((((a.getD n 0) * 4294967296) + (a.getD (n - 1) 0)) / (b.getD (n - 1) 0) : Nat) : Int))] (fun cf => by kernel_rfl) ?_
  refine ev_seq ?_
  refine ev_reg (by kernel_rfl) ?_
  refine rs_up 4 [(32, intA .u64 ((((a.getD n 0) * 4294967296) + (a.getD (n - 1) 0) : Nat) : Int)), (33, .d y), (34, J (n : Int)), (35, J (IntKind.wrap .i64 ((n : Int) - 1)))] (fun cf => by kernel_rfl) ?_
  rw [subI (a := (n : Int)) (b := 1) (A := n) (B := 1) (by rfl) (by rfl) (by omega)]
  refine rs_cv (fun m9 => indexAddrA Try.cx 32 m9 (.d y) (J ((n - 1 : Nat) : Int))) (some 36) (.rp [.v (.int .u32 ((b.getD (n - 1) 0 : Nat) : Int))]) (fun cf => by kernel_rfl) (idx_ws (k := n - 1) hy (by rfl) (by omega)) ?_
  refine rs_up 2 [(37, intA .u32 ((b.getD (n - 1) 0 : Nat) : Int)), (38, intA .u64 (IntKind.wrap .u64 ((b.getD (n - 1) 0 : Nat) : Int)))] (fun cf => by kernel_rfl) ?_
  rw [wrapU (n := b.getD (n - 1) 0) (by have := hb (n - 1); omega)]
  refine rs_cv (fun m9 => binA Try.cx m9 .rem 23 (intA .u64 ((((a.getD n 0) * 4294967296) + (a.getD (n - 1) 0) : Nat) : Int)) (intA .u64 ((b.getD (n - 1) 0 : Nat) : Int))) (some 39) (intA .u64 (((((a.getD n 0) * 4294967296) + (a.getD (n - 1) 0)) % (b.getD (n - 1) 0) : Nat) : Int)) (fun cf => by kernel_rfl) (remU_at (A := ((a.getD n 0) * 4294967296) + (a.getD (n - 1) 0)) (P := b.getD (n - 1) 0) (by rfl) (by rfl) (h1)) ?_
  refine rs_all (s1 := ⟨[.d x, .d y, U, U, intA .u64 0, J (n : Int), intA .u64 ((((a.getD n 0) * 4294967296) + (a.getD (n - 1) 0) : Nat) : Int), intA .u64 (((((a.getD n 0) * 4294967296) + (a.getD (n - 1) 0)) / (b.getD (n - 1) 0) : Nat) : Int), intA .u64 (((((a.getD n 0) * 4294967296) + (a.getD (n - 1) 0)) % (b.getD (n - 1) 0) : Nat) : Int), .d y, J (n : Int), .d x, J (n : Int), .rp [.v (.int .u32 ((a.getD n 0 : Nat) : Int))], intA .u32 ((a.getD n 0 : Nat) : Int), intA .u64 ((a.getD n 0 : Nat) : Int), intA .u64 (((a.getD n 0) * 4294967296 : Nat) : Int), .d x, J (n : Int), J ((n - 1 : Nat) : Int), .rp [.v (.int .u32 ((a.getD (n - 1) 0 : Nat) : Int))], intA .u32 ((a.getD (n - 1) 0 : Nat) : Int), intA .u64 ((a.getD (n - 1) 0 : Nat) : Int), intA .u64 ((((a.getD n 0) * 4294967296) + (a.getD (n - 1) 0) : Nat) : Int), intA .u64 ((((a.getD n 0) * 4294967296) + (a.getD (n - 1) 0) : Nat) : Int), .d y, J (n : Int), J ((n - 1 : Nat) : Int), .rp [.v (.int .u32 ((b.getD (n - 1) 0 : Nat) : Int))], intA .u32 ((b.getD (n - 1) 0 : Nat) : Int), intA .u64 ((b.getD (n - 1) 0 : Nat) : Int), intA .u64 (((((a.getD n 0) * 4294967296) + (a.getD (n - 1) 0)) / (b.getD (n - 1) 0) : Nat) : Int), intA .u64 ((((a.getD n 0) * 4294967296) + (a.getD (n - 1) 0) : Nat) : Int), .d y, J (n : Int), J ((n - 1 : Nat) : Int), .rp [.v (.int .u32 ((b.getD (n - 1) 0 : Nat) : Int))], intA .u32 ((b.getD (n - 1) 0 : Nat) : Int), intA .u64 ((b.getD (n - 1) 0 : Nat) : Int), intA .u64 (((((a.getD n 0) * 4294967296) + (a.getD (n - 1) 0)) % (b.getD (n - 1) 0) : Nat) : Int)] ++ us 35, ⟨[], 0⟩⟩) (fun cf => by kernel_rfl) ?_
  refine ev_seq ?_
  refine ev_block ?_
  refine guess_loop (a := a) (b := b) (n := n) _ _ _ _ _ _ _ _ _ _ _ _ _ _ _ _ _ _ _ _ _ _ _ _ _ _ _ _ _ _ _ _ hx hy ha hb hn (by omega) hal hbl h1 hu (fun q r v40 v41 v42 v43 v44 v45 v46 v47 v48 v49 v50 v51 v52 v53 v54 v55 v56 v57 v58 v59 v60 v61 v62 v63 v64 v65 v66 v67 v68 v69 v70 v71 v72 v73 q1 q2 q3 => ?_) _ ((((a.getD n 0) * 4294967296) + (a.getD (n - 1) 0)) / b.getD (n - 1) 0) ((((a.getD n 0) * 4294967296) + (a.getD (n - 1) 0)) % b.getD (n - 1) 0) _ _ _ _ _ _ _ _ _ _ _ _ _ _ _ _ _ _ _ _ _ _ _ _ _ _ _ _ _ _ _ _ _ _ (Nat.le_refl _) hqs hrs (by rw [Nat.mul_comm]; exact Nat.div_add_mod _ _) (fun Q _ h4 => gs_first (ha (n - 2)) h1 h4)
  refine ev_seq ?_
  refine ev_reg (by kernel_rfl) ?_
  refine rs_all (s1 := ⟨[.d x, .d y, U, U, intA .u64 (q : Int), J (n : Int), intA .u64 ((((a.getD n 0) * 4294967296) + (a.getD (n - 1) 0) : Nat) : Int), intA .u64 (q : Int), intA .u64 (r : Int), .d y, J (n : Int), .d x, J (n : Int), .rp [.v (.int .u32 ((a.getD n 0 : Nat) : Int))], intA .u32 ((a.getD n 0 : Nat) : Int), intA .u64 ((a.getD n 0 : Nat) : Int), intA .u64 (((a.getD n 0) * 4294967296 : Nat) : Int), .d x, J (n : Int), J ((n - 1 : Nat) : Int), .rp [.v (.int .u32 ((a.getD (n - 1) 0 : Nat) : Int))], intA .u32 ((a.getD (n - 1) 0 : Nat) : Int), intA .u64 ((a.getD (n - 1) 0 : Nat) : Int), intA .u64 ((((a.getD n 0) * 4294967296) + (a.getD (n - 1) 0) : Nat) : Int), intA .u64 ((((a.getD n 0) * 4294967296) + (a.getD (n - 1) 0) : Nat) : Int), .d y, J (n : Int), J ((n - 1 : Nat) : Int), .rp [.v (.int .u32 ((b.getD (n - 1) 0 : Nat) : Int))], intA .u32 ((b.getD (n - 1) 0 : Nat) : Int), intA .u64 ((b.getD (n - 1) 0 : Nat) : Int), intA .u64 (((((a.getD n 0) * 4294967296) + (a.getD (n - 1) 0)) / (b.getD (n - 1) 0) : Nat) : Int), intA .u64 ((((a.getD n 0) * 4294967296) + (a.getD (n - 1) 0) : Nat) : Int), .d y, J (n : Int), J ((n - 1 : Nat) : Int), .rp [.v (.int .u32 ((b.getD (n - 1) 0 : Nat) : Int))], intA .u32 ((b.getD (n - 1) 0 : Nat) : Int), intA .u64 ((b.getD (n - 1) 0 : Nat) : Int), intA .u64 (((((a.getD n 0) * 4294967296) + (a.getD (n - 1) 0)) % (b.getD (n - 1) 0) : Nat) : Int), v40, v41, v42, v43, v44, v45, v46, v47, v48, v49, v50, v51, v52, v53, v54, v55, v56, v57, v58, v59, v60, v61, v62, v63, v64, v65, v66, v67, v68, v69, v70, v71, v72, v73, intA .u64 (q : Int)], ⟨[], 0⟩⟩) (fun cf => by kernel_rfl) ?_
  refine ev_ret ?_
  exact ⟨q, ⟨q1, q2, q3⟩, .inr rfl, intA .u64 (q : Int), by kernel_rfl, by kernel_rfl⟩

end Go.Proofs.Ytgkjdfojogemhaa.W
