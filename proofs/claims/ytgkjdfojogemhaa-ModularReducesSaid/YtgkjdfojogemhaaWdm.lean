/-
  The reference: made numbers and residues. Made by program. Conditions: none.
-/
import Derived.Test.YtgkjdfojogemhaaWdl
set_option maxRecDepth 100000
set_option maxHeartbeats 20000000
set_option linter.unusedSimpArgs false
set_option linter.unusedVariables false
namespace Go.Proofs.Ytgkjdfojogemhaa.W
open Go.Am


theorem num_iv {n : Int} {x : D} {l : List Nat} (h : Iv n false x l) (hs : n < 18446744073709551616) : l.length ≤ 2 ∧ l.getD 1 0 * 4294967296 + l.getD 0 0 = n.toNat ∧ 0 ≤ n := by
  obtain ⟨_, ol, nl, hn, _⟩ := h
  have hn' : n = (val l : Int) := hn
  have h2 : l.length ≤ 2 := nrm_len nl (by have : (4294967296 : Nat) ^ 2 = 18446744073709551616 := by decide
                                           omega)
  refine ⟨h2, ?_, by omega⟩
  have := num_val h2
  omega
theorem iv_sign {n : Int} {s : Bool} {x : D} {l : List Nat} (h : Iv n s x l) (h0 : 0 ≤ n) : s = false := by
  obtain ⟨_, _, _, hn, hs⟩ := h
  cases s with
  | false => rfl
  | true =>
    have := hs rfl
    simp only [cond_true] at hn
    omega

theorem g_small {n : Int} {x : D} {l : List Nat} (h : Iv n false x l) (hs : n < 9223372036854775808) : Gets Try.cx 43 [.ag [No, .d x]] (.tu [intA .i64 (n.toNat : Int), boolA true]) := by
  obtain ⟨hl2, hq, h0⟩ := num_iv h (by omega)
  have hlen : decide ((l.length : Int) > 2) = false := decide_eq_false (by omega)
  have hsm : decide ((n.toNat : Int) < 9223372036854775808) = true := decide_eq_true (by omega)
  refine gets_of (fn := Try.f43) (by kernel_rfl) rfl ?_
  show EvK _ _ _ ⟨[.ag [No, .d x]] ++ us 31, ⟨[], 0⟩⟩ _
  refine ev_seq ?_
  refine ev_reg (by kernel_rfl) ?_
  refine rs_all (s1 := ⟨[.ag [No, .d x], .ptr 0 0 0, J 0, No] ++ us 28, ⟨[.row [No, .d x] 0 .ow none], 1⟩⟩) (fun cf => by kernel_rfl) ?_
  refine ev_seq ?_
  refine ev_seq ?_
  refine ev_reg (by kernel_rfl) ?_
  refine rs_up 2 [(5, .ptr 0 0 1), (6, .d x)] (fun cf => by kernel_rfl) ?_
  refine rs_cl (fun m9 => lenA Try.cx 32 m9 (.d x)) (some 7) (l.length) (fun cf => by kernel_rfl) (len_ws h.1) ?_
  refine rs_up 1 [(8, boolA (decide ((l.length : Int) > 2)))] (fun cf => by kernel_rfl) ?_
  rw [hlen]
  refine rs_alu [] (fun cf => by kernel_rfl) ?_
  refine ev_false (by kernel_rfl) ?_
  refine ev_skip ?_
  refine ev_seq ?_
  refine ev_reg (by kernel_rfl) ?_
  refine rs_up 2 [(9, .ptr 0 0 1), (10, .d x)] (fun cf => by kernel_rfl) ?_
  refine rs_cp 67 [.d x] false (some 11) (intA .u64 (n.toNat : Int)) (by kernel_rfl) ((show Gets Try.cx 67 [.d x] (intA .u64 (n.toNat : Int)) from by rw [← hq]; exact g_number h.1 h.2.1)) (by kernel_rfl) ?_
  refine rs_alu [(4, intA .u64 (n.toNat : Int))] (fun cf => by kernel_rfl) ?_
  refine ev_seq ?_
  refine ev_seq ?_
  refine ev_reg (by kernel_rfl) ?_
  refine rs_up 6 [(12, .ptr 0 0 0), (13, No), (14, Yes), (15, Yes), (16, intA .u64 (n.toNat : Int)), (17, boolA (decide ((n.toNat : Int) < 9223372036854775808)))] (fun cf => by kernel_rfl) ?_
  rw [hsm]
  refine rs_alu [(18, Yes)] (fun cf => by kernel_rfl) ?_
  refine ev_true (by kernel_rfl) ?_
  refine ev_seq ?_
  refine ev_reg (by kernel_rfl) ?_
  refine rs_up 2 [(19, intA .u64 (n.toNat : Int)), (20, J (IntKind.wrap .i64 (n.toNat : Int)))] (fun cf => by kernel_rfl) ?_
  rw [wrapIn (n := n.toNat) (by omega)]
  refine rs_all (s1 := ⟨[.ag [No, .d x], .ptr 0 0 0, J (n.toNat : Int), Yes, intA .u64 (n.toNat : Int), .ptr 0 0 1, .d x, J (l.length : Int), No, .ptr 0 0 1, .d x, intA .u64 (n.toNat : Int), .ptr 0 0 0, No, Yes, Yes, intA .u64 (n.toNat : Int), Yes, Yes, intA .u64 (n.toNat : Int), J (n.toNat : Int)] ++ us 11, ⟨[.row [No, .d x] 0 .ow none], 1⟩⟩) (fun cf => by kernel_rfl) ?_
  refine ev_ret ?_
  refine leaf (r0 := .tu [J (n.toNat : Int), Yes]) (r1 := .tu [J (n.toNat : Int), Yes]) (.inr rfl) (by kernel_rfl) (by kernel_rfl) ?_
  rfl

theorem of_lt {n : Int} (h1 : -9223372036854775808 ≤ n) (h2 : n ≤ 9223372036854775807) : n.natAbs < 4294967296 ^ 2 := by
  have : (4294967296 : Nat) ^ 2 = 18446744073709551616 := by decide
  omega

theorem g_residue {n : Int} {s : Bool} {x : D} {l : List Nat} {p : Nat} (h : Iv n s x l) (hl : l.length < 20000000) (hp : 0 < p) (hpb : p ≤ 2147483648) : Gets Try.cx 22 [.ag [boolA s, .d x], intA .u64 (p : Int)] (intA .u64 ((n % (p : Int)).toNat : Int)) := by
  have hp0 : (p : Int) ≠ 0 := by omega
  refine gets_of (fn := Try.f22) (by kernel_rfl) rfl ?_
  show EvK _ _ _ ⟨[.ag [boolA s, .d x], intA .u64 (p : Int)] ++ us 24, ⟨[], 0⟩⟩ _
  refine ev_seq ?_
  refine ev_reg (by kernel_rfl) ?_
  refine rs_alm [(2, .ptr 0 0 0), (4, intA .u64 0)] ⟨[.row [boolA s, .d x] 0 .ow none], 1⟩ (fun cf => by kernel_rfl) ?_
  refine ev_seq ?_
  refine ev_reg (by kernel_rfl) ?_
  refine rs_up 3 [(11, .ag [boolA s, .d x]), (12, intA .u64 (p : Int)), (13, J (IntKind.wrap .i64 (p : Int)))] (fun cf => by kernel_rfl) ?_
  rw [wrapIn (n := p) (by omega)]
  obtain ⟨⟨s1, x1⟩, ⟨l1, I1⟩, g1⟩ := g_of (n := (p : Int)) (by omega) (by omega)
  have hll1 : l1.length ≤ 2 := iv_len I1 (of_lt (by omega) (by omega))
  refine rs_cp 27 [J (p : Int)] false (some 14) (.ag [boolA s1, .d x1]) (by kernel_rfl) (g1) (by kernel_rfl) ?_
  obtain ⟨⟨⟨sq2, xq2⟩, ⟨sr2, xr2⟩⟩, ⟨⟨lq2, Iq2⟩, ⟨lr2, Ir2⟩⟩, g2⟩ := g_divmod h (by omega) I1 (by omega) (hp0)
  refine rs_cp 42 [.ag [boolA s, .d x], .ag [boolA s1, .d x1]] false (some 15) (.tu [.ag [boolA sq2, .d xq2], .ag [boolA sr2, .d xr2], J 0]) (by kernel_rfl) (g2) (by kernel_rfl) ?_
  refine rs_upm 6 [(5, .ptr 1 1 0), (6, .ptr 2 2 0), (10, .tu [.ag [boolA sq2, .d xq2], .ag [boolA sr2, .d xr2], J 0]), (16, .ag [boolA sq2, .d xq2]), (17, .ag [boolA sr2, .d xr2]), (18, J 0)] ⟨[.row [boolA s, .d x] 0 .ow none, .row [No, .d (.v (.slice none 0 0))] 1 .ow none, .row [No, .d (.v (.slice none 0 0))] 2 .ow none], 3⟩ (fun cf => by kernel_rfl) ?_
  refine rs_cu (fun m9 => storeA Try.cx 34 m9 (.ptr 1 1 0) (.ag [boolA sq2, .d xq2])) none ⟨[.row [boolA s, .d x] 0 .ow none, .row [boolA sq2, .d xq2] 1 .ow none, .row [No, .d (.v (.slice none 0 0))] 2 .ow none], 3⟩ (fun cf => by kernel_rfl) (store_int Iq2.1 rfl) ?_
  refine rs_cu (fun m9 => storeA Try.cx 34 m9 (.ptr 2 2 0) (.ag [boolA sr2, .d xr2])) none ⟨[.row [boolA s, .d x] 0 .ow none, .row [boolA sq2, .d xq2] 1 .ow none, .row [boolA sr2, .d xr2] 2 .ow none], 3⟩ (fun cf => by kernel_rfl) (store_int Ir2.1 rfl) ?_
  refine rs_alu [(7, J 0)] (fun cf => by kernel_rfl) ?_
  refine ev_seq ?_
  refine ev_reg (by kernel_rfl) ?_
  refine rs_up 1 [(20, .ag [boolA sr2, .d xr2])] (fun cf => by kernel_rfl) ?_
  refine rs_take 0 (s1 := ⟨[.ag [boolA s, .d x], intA .u64 (p : Int), .ptr 0 0 0, U, intA .u64 0, .ptr 1 1 0, .ptr 2 2 0, J 0, U, U, .tu [.ag [boolA sq2, .d xq2], .ag [boolA sr2, .d xr2], J 0], .ag [boolA s, .d x], intA .u64 (p : Int), J (p : Int), .ag [boolA s1, .d x1], .tu [.ag [boolA sq2, .d xq2], .ag [boolA sr2, .d xr2], J 0], .ag [boolA sq2, .d xq2], .ag [boolA sr2, .d xr2], J 0, U, .ag [boolA sr2, .d xr2]] ++ us 5, ⟨[.row [boolA s, .d x] 0 .ow none, .row [boolA sq2, .d xq2] 1 .ow none, .row [boolA sr2, .d xr2] 2 .ow none], 3⟩⟩) (fun cf => by kernel_rfl) ?_
  have hsg := iv_sign Ir2 (Int.emod_nonneg _ hp0)
  have hrl := Int.emod_lt_of_pos n (show (0 : Int) < (p : Int) by omega)
  have hr0 := Int.emod_nonneg n hp0
  subst hsg
  refine rs_pure (g := 43) (bs := [.ag [No, .d xr2]]) (ow := false) (r := .tu [J ((n % (p : Int)).toNat : Int), Yes]) (s1 := ⟨[.ag [boolA s, .d x], intA .u64 (p : Int), .ptr 0 0 0, U, intA .u64 0, .ptr 1 1 0, .ptr 2 2 0, J 0, U, U, .tu [.ag [boolA sq2, .d xq2], .ag [No, .d xr2], J 0], .ag [boolA s, .d x], intA .u64 (p : Int), J (p : Int), .ag [boolA s1, .d x1], .tu [.ag [boolA sq2, .d xq2], .ag [No, .d xr2], J 0], .ag [boolA sq2, .d xq2], .ag [No, .d xr2], J 0, U, .ag [No, .d xr2], .tu [J ((n % (p : Int)).toNat : Int), Yes]] ++ us 4, ⟨[.row [boolA s, .d x] 0 .ow none, .row [boolA sq2, .d xq2] 1 .ow none, .row [No, .d xr2] 2 .ow none], 3⟩⟩) (by kernel_rfl) (g_small Ir2 (by omega)) (by kernel_rfl) (by kernel_rfl) ?_
  refine rs_alu [(8, J ((n % (p : Int)).toNat : Int)), (9, Yes), (19, .tu [J ((n % (p : Int)).toNat : Int), Yes]), (22, J ((n % (p : Int)).toNat : Int)), (23, Yes)] (fun cf => by kernel_rfl) ?_
  refine ev_seq ?_
  refine ev_reg (by kernel_rfl) ?_
  refine rs_up 2 [(24, J ((n % (p : Int)).toNat : Int)), (25, intA .u64 (IntKind.wrap .u64 ((n % (p : Int)).toNat : Int)))] (fun cf => by kernel_rfl) ?_
  rw [wrapU (n := (n % (p : Int)).toNat) (by omega)]
  refine rs_all (s1 := ⟨[.ag [boolA s, .d x], intA .u64 (p : Int), .ptr 0 0 0, U, intA .u64 (((n % (p : Int)).toNat : Nat) : Int), .ptr 1 1 0, .ptr 2 2 0, J 0, J ((n % (p : Int)).toNat : Int), Yes, .tu [.ag [boolA sq2, .d xq2], .ag [No, .d xr2], J 0], .ag [boolA s, .d x], intA .u64 (p : Int), J (p : Int), .ag [boolA s1, .d x1], .tu [.ag [boolA sq2, .d xq2], .ag [No, .d xr2], J 0], .ag [boolA sq2, .d xq2], .ag [No, .d xr2], J 0, .tu [J ((n % (p : Int)).toNat : Int), Yes], .ag [No, .d xr2], .tu [J ((n % (p : Int)).toNat : Int), Yes], J ((n % (p : Int)).toNat : Int), Yes, J ((n % (p : Int)).toNat : Int), intA .u64 (((n % (p : Int)).toNat : Nat) : Int)], ⟨[.row [boolA s, .d x] 0 .ow none, .row [boolA sq2, .d xq2] 1 .ow none, .row [No, .d xr2] 2 .ow none], 3⟩⟩) (fun cf => by kernel_rfl) ?_
  refine ev_ret ?_
  refine leaf (r0 := intA .u64 (((n % (p : Int)).toNat : Nat) : Int)) (r1 := intA .u64 (((n % (p : Int)).toNat : Nat) : Int)) (.inr rfl) (by kernel_rfl) (by kernel_rfl) ?_
  rfl

end Go.Proofs.Ytgkjdfojogemhaa.W
