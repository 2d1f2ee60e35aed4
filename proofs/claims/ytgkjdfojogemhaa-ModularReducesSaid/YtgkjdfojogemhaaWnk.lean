/-
  The program: residues; Reduce. Made by program. Conditions: none.
-/
import Derived.Test.YtgkjdfojogemhaaWnj
import Derived.Test.YtgkjdfojogemhaaInvc
set_option maxRecDepth 100000
set_option maxHeartbeats 20000000
set_option linter.unusedSimpArgs false
set_option linter.unusedVariables false
namespace Go.Proofs.Ytgkjdfojogemhaa.W
open Go.Am


theorem iv_one {p : Nat} {s : Bool} {x : D} {l : List Nat} (h : Iv (p : Int) s x l) (h0 : 0 < p) (h1 : p < 4294967296) : l.length = 1 := by
  have h2 : l.length ≤ 1 := iv_len h (by rw [Int.natAbs_natCast]; simpa using h1)
  obtain ⟨_, _, nl, hn, _⟩ := h
  have h3 : l.length ≠ 0 := fun e => by
    have h4 := (len_pos_iff nl).mp e
    rw [h4] at hn
    cases s <;> simp at hn <;> omega
  omega
theorem mulp {a i p : Nat} (ha : a < p) (hi : i < p) (hp : p ≤ 2147483648) : a * i < 18446744073709551616 := by
  have h1 : a * i ≤ 2147483648 * 2147483648 := Nat.mul_le_mul (by omega) (by omega)
  omega

theorem p_residue {n : Int} {s : Bool} {x : D} {l : List Nat} {p : Nat} (h : Iv n s x l) (hl : l.length < 20000000) (hp : 0 < p) (hpb : p ≤ 2147483648) : Gets Try.cx 41 [.ag [boolA s, .d x], intA .u64 (p : Int)] (intA .u64 ((n % (p : Int)).toNat : Int)) := by
  have hp0 : (p : Int) ≠ 0 := by omega
  refine gets_of (fn := Try.f41) (by kernel_rfl) rfl ?_
  show EvK _ _ _ ⟨[.ag [boolA s, .d x], intA .u64 (p : Int)] ++ us 24, ⟨[], 0⟩⟩ _
  refine ev_seq ?_
  refine ev_reg (by kernel_rfl) ?_
  refine rs_alm [(2, .ptr 0 0 0), (4, intA .u64 0)] ⟨[.row [boolA s, .d x] 0 .ow none], 1⟩ (fun cf => by kernel_rfl) ?_
  refine ev_seq ?_
  refine ev_reg (by kernel_rfl) ?_
  refine rs_up 3 [(11, .ag [boolA s, .d x]), (12, intA .u64 (p : Int)), (13, J (IntKind.wrap .i64 (p : Int)))] (fun cf => by kernel_rfl) ?_
  rw [wrapIn (n := p) (by omega)]
  obtain ⟨⟨s1, x1⟩, ⟨l1, I1⟩, g1⟩ := p_of (n := p) (by omega)
  have hll1 := iv_one I1 (by omega) (by omega)
  refine rs_cp 44 [J (p : Int)] false (some 14) (.ag [boolA s1, .d x1]) (by kernel_rfl) (g1) (by kernel_rfl) ?_
  obtain ⟨⟨⟨sq2, xq2⟩, ⟨sr2, xr2⟩⟩, ⟨⟨lq2, Iq2⟩, ⟨lr2, Ir2⟩⟩, g2⟩ := p_divmod1 h (by omega) I1 (by omega) hll1 hp0
  refine rs_cp 52 [.ag [boolA s, .d x], .ag [boolA s1, .d x1]] false (some 15) (.tu [.ag [boolA sq2, .d xq2], .ag [boolA sr2, .d xr2], J 0]) (by kernel_rfl) (g2) (by kernel_rfl) ?_
  refine rs_upm 6 [(5, .ptr 1 1 0), (6, .ptr 2 2 0), (10, .tu [.ag [boolA sq2, .d xq2], .ag [boolA sr2, .d xr2], J 0]), (16, .ag [boolA sq2, .d xq2]), (17, .ag [boolA sr2, .d xr2]), (18, J 0)] ⟨[.row [boolA s, .d x] 0 .ow none, .row [No, .d (.v (.slice none 0 0))] 1 .ow none, .row [No, .d (.v (.slice none 0 0))] 2 .ow none], 3⟩ (fun cf => by kernel_rfl) ?_
  refine rs_cu (fun m9 => storeA Try.cx 34 m9 (.ptr 1 1 0) (.ag [boolA sq2, .d xq2])) none ⟨[.row [boolA s, .d x] 0 .ow none, .row [boolA sq2, .d xq2] 1 .ow none, .row [No, .d (.v (.slice none 0 0))] 2 .ow none], 3⟩ (fun cf => by kernel_rfl) (store_int Iq2.1 rfl) ?_
  refine rs_cu (fun m9 => storeA Try.cx 34 m9 (.ptr 2 2 0) (.ag [boolA sr2, .d xr2])) none ⟨[.row [boolA s, .d x] 0 .ow none, .row [boolA sq2, .d xq2] 1 .ow none, .row [boolA sr2, .d xr2] 2 .ow none], 3⟩ (fun cf => by kernel_rfl) (store_int Ir2.1 rfl) ?_
  refine rs_alu [(7, J 0)] (fun cf => by kernel_rfl) ?_
  refine ev_seq ?_
  refine ev_reg (by kernel_rfl) ?_
  refine rs_up 1 [(20, .ag [boolA sr2, .d xr2])] (fun cf => by kernel_rfl) ?_
  refine rs_take 0 (s1 := ⟨[.ag [boolA s, .d x], intA .u64 (p : Int), .ptr 0 0 0, U, intA .u64 0, .ptr 1 1 0, .ptr 2 2 0, J 0, U, U, .tu [.ag [boolA sq2, .d xq2], .ag [boolA sr2, .d xr2], J 0], .ag [boolA s, .d x], intA .u64 (p : Int), J (p : Int), .ag [boolA s1, .d x1], .tu [.ag [boolA sq2, .d xq2], .ag [boolA sr2, .d xr2], J 0], .ag [boolA sq2, .d xq2], .ag [boolA sr2, .d xr2], J 0, U, .ag [boolA sr2, .d xr2]] ++ us 5, ⟨[.row [boolA s, .d x] 0 .ow none, .row [boolA sq2, .d xq2] 1 .ow none, .row [boolA sr2, .d xr2] 2 .ow none], 3⟩⟩) (fun cf => by kernel_rfl) ?_
  have hsg := iv_sign Ir2 (Int.emod_nonneg _ hp0)
  have hrl := Int.emod_lt_of_pos n (show (0 : Int) < (p : Int) by omega)
  have hr0 := Int.emod_nonneg n hp0
  subst hsg
  refine rs_pure (g := 65) (bs := [.ag [No, .d xr2]]) (ow := false) (r := .tu [J ((n % (p : Int)).toNat : Int), Yes]) (s1 := ⟨[.ag [boolA s, .d x], intA .u64 (p : Int), .ptr 0 0 0, U, intA .u64 0, .ptr 1 1 0, .ptr 2 2 0, J 0, U, U, .tu [.ag [boolA sq2, .d xq2], .ag [No, .d xr2], J 0], .ag [boolA s, .d x], intA .u64 (p : Int), J (p : Int), .ag [boolA s1, .d x1], .tu [.ag [boolA sq2, .d xq2], .ag [No, .d xr2], J 0], .ag [boolA sq2, .d xq2], .ag [No, .d xr2], J 0, U, .ag [No, .d xr2], .tu [J ((n % (p : Int)).toNat : Int), Yes]] ++ us 4, ⟨[.row [boolA s, .d x] 0 .ow none, .row [boolA sq2, .d xq2] 1 .ow none, .row [No, .d xr2] 2 .ow none], 3⟩⟩) (by kernel_rfl) (p_small Ir2 (by omega)) (by kernel_rfl) (by kernel_rfl) ?_
  refine rs_alu [(8, J ((n % (p : Int)).toNat : Int)), (9, Yes), (19, .tu [J ((n % (p : Int)).toNat : Int), Yes]), (22, J ((n % (p : Int)).toNat : Int)), (23, Yes)] (fun cf => by kernel_rfl) ?_
  refine ev_seq ?_
  refine ev_reg (by kernel_rfl) ?_
  refine rs_up 2 [(24, J ((n % (p : Int)).toNat : Int)), (25, intA .u64 (IntKind.wrap .u64 ((n % (p : Int)).toNat : Int)))] (fun cf => by kernel_rfl) ?_
  rw [wrapU (n := (n % (p : Int)).toNat) (by omega)]
  refine rs_all (s1 := ⟨[.ag [boolA s, .d x], intA .u64 (p : Int), .ptr 0 0 0, U, intA .u64 (((n % (p : Int)).toNat : Nat) : Int), .ptr 1 1 0, .ptr 2 2 0, J 0, J ((n % (p : Int)).toNat : Int), Yes, .tu [.ag [boolA sq2, .d xq2], .ag [No, .d xr2], J 0], .ag [boolA s, .d x], intA .u64 (p : Int), J (p : Int), .ag [boolA s1, .d x1], .tu [.ag [boolA sq2, .d xq2], .ag [No, .d xr2], J 0], .ag [boolA sq2, .d xq2], .ag [No, .d xr2], J 0, .tu [J ((n % (p : Int)).toNat : Int), Yes], .ag [No, .d xr2], .tu [J ((n % (p : Int)).toNat : Int), Yes], J ((n % (p : Int)).toNat : Int), Yes, J ((n % (p : Int)).toNat : Int), intA .u64 (((n % (p : Int)).toNat : Nat) : Int)], ⟨[.row [boolA s, .d x] 0 .ow none, .row [boolA sq2, .d xq2] 1 .ow none, .row [No, .d xr2] 2 .ow none], 3⟩⟩) (fun cf => by kernel_rfl) ?_
  refine ev_ret ?_
  refine leaf (r0 := intA .u64 (((n % (p : Int)).toNat : Nat) : Int)) (r1 := intA .u64 (((n % (p : Int)).toNat : Nat) : Int)) (.inr rfl) (by kernel_rfl) (by kernel_rfl) ?_
  rfl

theorem p_reduce0 {n d : Int} {s t : Bool} {x y : D} {l q : List Nat} {p : Nat} (h : Iv n s x l) (hl : l.length < 20000000) (k : Iv d t y q) (hm : q.length < 20000000) (hp : 0 < p) (hpb : p ≤ 2147483648) (hz : (d % (p : Int)).toNat % p = 0) : Gets Try.cx 18 [.ag [boolA s, .d x, boolA t, .d y], intA .u64 (p : Int)] (.tu [intA .u64 0, intA .i64 30]) := by
  refine gets_of (fn := Try.f18) (by kernel_rfl) rfl ?_
  show EvK _ _ _ ⟨[.ag [boolA s, .d x, boolA t, .d y], intA .u64 (p : Int)] ++ us 25, ⟨[], 0⟩⟩ _
  refine ev_seq ?_
  refine ev_reg (by kernel_rfl) ?_
  refine rs_alm [(2, .ptr 0 0 0), (4, intA .u64 0), (5, J 0)] ⟨[.row [boolA s, .d x, boolA t, .d y] 0 .ow none], 1⟩ (fun cf => by kernel_rfl) ?_
  refine ev_seq ?_
  refine ev_reg (by kernel_rfl) ?_
  refine rs_up 3 [(9, .ptr 0 0 2), (10, .ag [boolA t, .d y]), (11, intA .u64 (p : Int))] (fun cf => by kernel_rfl) ?_
  refine rs_cp 41 [.ag [boolA t, .d y], intA .u64 (p : Int)] false (some 12) (intA .u64 (((d % (p : Int)).toNat : Nat) : Int)) (by kernel_rfl) (p_residue k (by omega) hp hpb) (by kernel_rfl) ?_
  refine rs_up 1 [(13, intA .u64 (p : Int))] (fun cf => by kernel_rfl) ?_
  refine rs_cp 16 [intA .u64 (((d % (p : Int)).toNat : Nat) : Int), intA .u64 (p : Int)] false (some 14) (.tu [intA .u64 0, J 10]) (by kernel_rfl) (g_inv0 (a := (d % (p : Int)).toNat) (p := p) (by omega) hpb hz) (by kernel_rfl) ?_
  refine rs_alu [(6, intA .u64 0), (7, J 10), (8, .tu [intA .u64 0, J 10]), (15, intA .u64 0), (16, J 10)] (fun cf => by kernel_rfl) ?_
  refine ev_seq ?_
  refine ev_seq ?_
  refine ev_reg (by kernel_rfl) ?_
  refine rs_alu [(17, J 10), (18, Yes)] (fun cf => by kernel_rfl) ?_
  refine ev_true (by kernel_rfl) ?_
  refine ev_seq ?_
  refine ev_reg (by kernel_rfl) ?_
  refine rs_all (s1 := ⟨[.ag [boolA s, .d x, boolA t, .d y], intA .u64 (p : Int), .ptr 0 0 0, U, intA .u64 0, J 30, intA .u64 0, J 10, .tu [intA .u64 0, J 10], .ptr 0 0 2, .ag [boolA t, .d y], intA .u64 (p : Int), intA .u64 (((d % (p : Int)).toNat : Nat) : Int), intA .u64 (p : Int), .tu [intA .u64 0, J 10], intA .u64 0, J 10, J 10, Yes] ++ us 8, ⟨[.row [boolA s, .d x, boolA t, .d y] 0 .ow none], 1⟩⟩) (fun cf => by kernel_rfl) ?_
  refine ev_ret ?_
  refine leaf (r0 := .tu [intA .u64 0, J 30]) (r1 := .tu [intA .u64 0, J 30]) (.inr rfl) (by kernel_rfl) (by kernel_rfl) ?_
  rfl

theorem p_reduce {n d : Int} {s t : Bool} {x y : D} {l q : List Nat} {p : Nat} (h : Iv n s x l) (hl : l.length < 20000000) (k : Iv d t y q) (hm : q.length < 20000000) (hp : 0 < p) (hpb : p ≤ 2147483648) {i : Nat} (hi : i < p) (gi : Gets Try.cx 16 [intA .u64 ((d % (p : Int)).toNat : Int), intA .u64 (p : Int)] (.tu [intA .u64 (i : Int), intA .i64 0])) : Gets Try.cx 18 [.ag [boolA s, .d x, boolA t, .d y], intA .u64 (p : Int)] (.tu [intA .u64 (((n % (p : Int)).toNat * i % p : Nat) : Int), intA .i64 0]) := by
  refine gets_of (fn := Try.f18) (by kernel_rfl) rfl ?_
  show EvK _ _ _ ⟨[.ag [boolA s, .d x, boolA t, .d y], intA .u64 (p : Int)] ++ us 25, ⟨[], 0⟩⟩ _
  refine ev_seq ?_
  refine ev_reg (by kernel_rfl) ?_
  refine rs_alm [(2, .ptr 0 0 0), (4, intA .u64 0), (5, J 0)] ⟨[.row [boolA s, .d x, boolA t, .d y] 0 .ow none], 1⟩ (fun cf => by kernel_rfl) ?_
  refine ev_seq ?_
  refine ev_reg (by kernel_rfl) ?_
  refine rs_up 3 [(9, .ptr 0 0 2), (10, .ag [boolA t, .d y]), (11, intA .u64 (p : Int))] (fun cf => by kernel_rfl) ?_
  refine rs_cp 41 [.ag [boolA t, .d y], intA .u64 (p : Int)] false (some 12) (intA .u64 (((d % (p : Int)).toNat : Nat) : Int)) (by kernel_rfl) (p_residue k (by omega) hp hpb) (by kernel_rfl) ?_
  refine rs_up 1 [(13, intA .u64 (p : Int))] (fun cf => by kernel_rfl) ?_
  refine rs_cp 16 [intA .u64 (((d % (p : Int)).toNat : Nat) : Int), intA .u64 (p : Int)] false (some 14) (.tu [intA .u64 (i : Int), J 0]) (by kernel_rfl) (gi) (by kernel_rfl) ?_
  refine rs_alu [(6, intA .u64 (i : Int)), (7, J 0), (8, .tu [intA .u64 (i : Int), J 0]), (15, intA .u64 (i : Int)), (16, J 0)] (fun cf => by kernel_rfl) ?_
  refine ev_seq ?_
  refine ev_seq ?_
  refine ev_reg (by kernel_rfl) ?_
  refine rs_alu [(17, J 0), (18, No)] (fun cf => by kernel_rfl) ?_
  refine ev_false (by kernel_rfl) ?_
  refine ev_skip ?_
  refine ev_seq ?_
  refine ev_reg (by kernel_rfl) ?_
  refine rs_up 3 [(19, .ptr 0 0 0), (20, .ag [boolA s, .d x]), (21, intA .u64 (p : Int))] (fun cf => by kernel_rfl) ?_
  refine rs_cp 41 [.ag [boolA s, .d x], intA .u64 (p : Int)] false (some 22) (intA .u64 (((n % (p : Int)).toNat : Nat) : Int)) (by kernel_rfl) (p_residue h (by omega) hp hpb) (by kernel_rfl) ?_
  refine rs_up 2 [(23, intA .u64 (i : Int)), (24, intA .u64 (IntKind.wrap .u64 ((((n % (p : Int)).toNat : Nat) : Int) * (i : Int))))] (fun cf => by kernel_rfl) ?_
  rw [mulU (a := (((n % (p : Int)).toNat : Nat) : Int)) (b := (i : Int)) (A := (n % (p : Int)).toNat) (B := i) (by rfl) (by rfl) (mulp (by have := Int.emod_nonneg n (show (p : Int) ≠ 0 by omega); have := Int.emod_lt_of_pos n (show (0 : Int) < (p : Int) by omega); omega) hi hpb)]
  refine rs_up 1 [(25, intA .u64 (p : Int))] (fun cf => by kernel_rfl) ?_
  refine rs_cv (fun m9 => binA Try.cx m9 .rem 23 (intA .u64 ((((n % (p : Int)).toNat) * i : Nat) : Int)) (intA .u64 (p : Int))) (some 26) (intA .u64 (((((n % (p : Int)).toNat) * i) % p : Nat) : Int)) (fun cf => by kernel_rfl) (remU_at (A := ((n % (p : Int)).toNat) * i) (P := p) (by rfl) (by rfl) (by omega)) ?_
  refine rs_all (s1 := ⟨[.ag [boolA s, .d x, boolA t, .d y], intA .u64 (p : Int), .ptr 0 0 0, U, intA .u64 (((((n % (p : Int)).toNat) * i) % p : Nat) : Int), J 0, intA .u64 (i : Int), J 0, .tu [intA .u64 (i : Int), J 0], .ptr 0 0 2, .ag [boolA t, .d y], intA .u64 (p : Int), intA .u64 (((d % (p : Int)).toNat : Nat) : Int), intA .u64 (p : Int), .tu [intA .u64 (i : Int), J 0], intA .u64 (i : Int), J 0, J 0, No, .ptr 0 0 0, .ag [boolA s, .d x], intA .u64 (p : Int), intA .u64 (((n % (p : Int)).toNat : Nat) : Int), intA .u64 (i : Int), intA .u64 ((((n % (p : Int)).toNat) * i : Nat) : Int), intA .u64 (p : Int), intA .u64 (((((n % (p : Int)).toNat) * i) % p : Nat) : Int)], ⟨[.row [boolA s, .d x, boolA t, .d y] 0 .ow none], 1⟩⟩) (fun cf => by kernel_rfl) ?_
  refine ev_ret ?_
  refine leaf (r0 := .tu [intA .u64 (((((n % (p : Int)).toNat) * i) % p : Nat) : Int), J 0]) (r1 := .tu [intA .u64 (((((n % (p : Int)).toNat) * i) % p : Nat) : Int), J 0]) (.inr rfl) (by kernel_rfl) (by kernel_rfl) ?_
  rfl

end Go.Proofs.Ytgkjdfojogemhaa.W
