/-
  The law ModularReduces. Made by program. Conditions: none.
-/
import Derived.Test.YtgkjdfojogemhaaWnm
set_option maxRecDepth 100000
set_option maxHeartbeats 20000000
set_option linter.unusedSimpArgs false
set_option linter.unusedVariables false
namespace Go.Proofs.Ytgkjdfojogemhaa.W
open Go.Am


theorem red_some {n d : Int} {s t : Bool} {x y : D} {l q : List Nat} {p : Nat} (h : Iv n s x l) (hl : l.length < 20000000) (k : Iv d t y q) (hm : q.length < 20000000) (hpr : Pr p) (hnz : ¬ (p : Int) ∣ d) : ∃ z, Rd p n d z ∧ Gets Try.cx 18 [.ag [boolA s, .d x, boolA t, .d y], intA .u64 (p : Int)] (.tu [intA .u64 (z : Int), intA .i64 0]) := by
  have hp2 := hpr.1
  have hpb := hpr.2.1
  have hz : (d % (p : Int)).toNat % p ≠ 0 := fun e => hnz (by
    have h1 := toNat_mod d (show 0 < p by omega)
    have h2 := Int.emod_lt_of_pos d (show (0 : Int) < p by omega)
    rw [Nat.mod_eq_of_lt (by omega)] at e
    rw [e] at h1
    exact Int.dvd_of_emod_eq_zero h1.symm)
  obtain ⟨i, ⟨hi, h1⟩, gi⟩ := g_inv (a := (d % (p : Int)).toNat) hpr.1 (by omega) hz (pr_gcd hpr hz)
  exact ⟨_, rd_of (by omega) (by rw [h1]; exact (Nat.mod_eq_of_lt (by omega)).symm), p_reduce h hl k hm (by omega) (by omega) hi gi⟩
theorem res_zero {p : Nat} {d : Int} (hp : 0 < p) (h : (p : Int) ∣ d) : (d % (p : Int)).toNat = 0 := by rw [Int.emod_eq_zero_of_dvd h]; rfl
theorem res_pos {p : Nat} {d : Int} (hp : 0 < p) (h : ¬ (p : Int) ∣ d) : (d % (p : Int)).toNat ≠ 0 := fun e => h (by
  have h1 := toNat_mod d hp
  rw [e] at h1
  exact Int.dvd_of_emod_eq_zero h1.symm)
theorem ne_of_ndvd {p : Nat} {d : Int} (h : ¬ (p : Int) ∣ d) : d ≠ 0 := fun e => h (by rw [e]; exact Int.dvd_zero _)

theorem l_case_zz {n p : Nat} (hn : n < 4294967296) (hpr : Pr p) (gn : Gets Try.cx 12 [intA .u64 ((n % 2147483647 : Nat) : Int)] (.tu [intA .u64 (p : Int), intA .i64 0])) {na da : Int} {ka : Nat} {Pa Qa : Int} {ua va : Bool} {xa ya : D} {la qa : List Nat} (Ia : Iv Pa ua xa la) (La : la.length ≤ 10) (Ga : Iv Qa va ya qa) (Ma : qa.length ≤ 10) (ga : Gets Try.cx 15 [.ag [intA .i8 na, intA .i8 da, intA .u8 (ka : Int)]] (.ag [boolA ua, .d xa, boolA va, .d ya])) {nb db : Int} {kb : Nat} {Pb Qb : Int} {ub vb : Bool} {xb yb : D} {lb qb : List Nat} (Ib : Iv Pb ub xb lb) (Lb : lb.length ≤ 10) (Gb : Iv Qb vb yb qb) (Mb : qb.length ≤ 10) (gb : Gets Try.cx 15 [.ag [intA .i8 nb, intA .i8 db, intA .u8 (kb : Int)]] (.ag [boolA ub, .d xb, boolA vb, .d yb])) (ha : (p : Int) ∣ Qa) (hb : (p : Int) ∣ Qb) : Gets Try.cx 6 [intA .u32 (n : Int), .ag [intA .i8 na, intA .i8 da, intA .u8 (ka : Int)], .ag [intA .i8 nb, intA .i8 db, intA .u8 (kb : Int)]] (Yes) := by
  have hp : 0 < p := by have := hpr.1; omega
  have hpb : p ≤ 2147483648 := by have := hpr.2.1; omega
  refine gets_of (fn := Try.f6) (by kernel_rfl) rfl ?_
  show EvK _ _ _ ⟨[intA .u32 (n : Int), .ag [intA .i8 na, intA .i8 da, intA .u8 (ka : Int)], .ag [intA .i8 nb, intA .i8 db, intA .u8 (kb : Int)]] ++ us 135, ⟨[], 0⟩⟩ _
  refine ev_seq ?_
  refine ev_reg (by kernel_rfl) ?_
  refine rs_alm [(4, .ptr 0 0 0), (5, .ptr 1 1 0), (6, No)] ⟨[.row [intA .i8 na, intA .i8 da, intA .u8 (ka : Int)] 0 .ow none, .row [intA .i8 nb, intA .i8 db, intA .u8 (kb : Int)] 1 .ow none], 2⟩ (fun cf => by kernel_rfl) ?_
  refine ev_seq ?_
  refine ev_reg (by kernel_rfl) ?_
  refine rs_cp 10 [] false (some 21) (Yes) (by kernel_rfl) (g_sanity) (by kernel_rfl) ?_
  refine rs_alu [(7, Yes)] (fun cf => by kernel_rfl) ?_
  refine ev_seq ?_
  refine ev_seq ?_
  refine ev_reg (by kernel_rfl) ?_
  refine rs_alu [(22, Yes), (23, No)] (fun cf => by kernel_rfl) ?_
  refine ev_false (by kernel_rfl) ?_
  refine ev_skip ?_
  refine ev_seq ?_
  refine ev_reg (by kernel_rfl) ?_
  refine rs_up 2 [(25, intA .u32 (n : Int)), (26, intA .u32 (Int.tmod (n : Int) 2147483647))] (fun cf => by kernel_rfl) ?_
  rw [remN (a := (n : Int)) (b := 2147483647) (A := n) (B := 2147483647) (by rfl) (by rfl)]
  refine rs_up 1 [(27, intA .u64 (IntKind.wrap .u64 ((n % 2147483647 : Nat) : Int)))] (fun cf => by kernel_rfl) ?_
  rw [wrapU (n := n % 2147483647) (by omega)]
  refine rs_cp 12 [intA .u64 ((n % 2147483647 : Nat) : Int)] false (some 28) (.tu [intA .u64 (p : Int), J 0]) (by kernel_rfl) (gn) (by kernel_rfl) ?_
  refine rs_alu [(8, intA .u64 (p : Int)), (9, J 0), (24, .tu [intA .u64 (p : Int), J 0]), (29, intA .u64 (p : Int)), (30, J 0)] (fun cf => by kernel_rfl) ?_
  refine ev_seq ?_
  refine ev_reg (by kernel_rfl) ?_
  refine rs_up 1 [(31, .ag [intA .i8 na, intA .i8 da, intA .u8 (ka : Int)])] (fun cf => by kernel_rfl) ?_
  refine rs_cp 15 [.ag [intA .i8 na, intA .i8 da, intA .u8 (ka : Int)]] false (some 32) (.ag [boolA ua, .d xa, boolA va, .d ya]) (by kernel_rfl) (ga) (by kernel_rfl) ?_
  refine rs_up 1 [(33, .ag [intA .i8 nb, intA .i8 db, intA .u8 (kb : Int)])] (fun cf => by kernel_rfl) ?_
  refine rs_cp 15 [.ag [intA .i8 nb, intA .i8 db, intA .u8 (kb : Int)]] false (some 34) (.ag [boolA ub, .d xb, boolA vb, .d yb]) (by kernel_rfl) (gb) (by kernel_rfl) ?_
  refine rs_upm 2 [(10, .ptr 2 2 0), (11, .ptr 3 3 0)] ⟨[.row [intA .i8 na, intA .i8 da, intA .u8 (ka : Int)] 0 .ow none, .row [intA .i8 nb, intA .i8 db, intA .u8 (kb : Int)] 1 .ow none, .row [No, .d (.v (.slice none 0 0)), No, .d (.v (.slice none 0 0))] 2 .ow none, .row [No, .d (.v (.slice none 0 0)), No, .d (.v (.slice none 0 0))] 3 .ow none], 4⟩ (fun cf => by kernel_rfl) ?_
  refine rs_cu (fun m9 => storeA Try.cx 36 m9 (.ptr 2 2 0) (.ag [boolA ua, .d xa, boolA va, .d ya])) none ⟨[.row [intA .i8 na, intA .i8 da, intA .u8 (ka : Int)] 0 .ow none, .row [intA .i8 nb, intA .i8 db, intA .u8 (kb : Int)] 1 .ow none, .row [boolA ua, .d xa, boolA va, .d ya] 2 .ow none, .row [No, .d (.v (.slice none 0 0)), No, .d (.v (.slice none 0 0))] 3 .ow none], 4⟩ (fun cf => by kernel_rfl) (store_rat Ia.1 Ga.1 rfl) ?_
  refine rs_cu (fun m9 => storeA Try.cx 36 m9 (.ptr 3 3 0) (.ag [boolA ub, .d xb, boolA vb, .d yb])) none ⟨[.row [intA .i8 na, intA .i8 da, intA .u8 (ka : Int)] 0 .ow none, .row [intA .i8 nb, intA .i8 db, intA .u8 (kb : Int)] 1 .ow none, .row [boolA ua, .d xa, boolA va, .d ya] 2 .ow none, .row [boolA ub, .d xb, boolA vb, .d yb] 3 .ow none], 4⟩ (fun cf => by kernel_rfl) (store_rat Ib.1 Gb.1 rfl) ?_
  refine rs_alu [] (fun cf => by kernel_rfl) ?_
  refine ev_seq ?_
  refine ev_reg (by kernel_rfl) ?_
  refine rs_up 2 [(36, .ag [boolA ua, .d xa, boolA va, .d ya]), (37, intA .u64 (p : Int))] (fun cf => by kernel_rfl) ?_
  refine rs_cp 18 [.ag [boolA ua, .d xa, boolA va, .d ya], intA .u64 (p : Int)] false (some 38) (.tu [intA .u64 0, J 30]) (by kernel_rfl) (p_reduce0 Ia (by omega) Ga (by omega) hp hpb (by rw [res_zero hp ha]; exact Nat.zero_mod p)) (by kernel_rfl) ?_
  refine rs_all (s1 := ⟨[intA .u32 (n : Int), .ag [intA .i8 na, intA .i8 da, intA .u8 (ka : Int)], .ag [intA .i8 nb, intA .i8 db, intA .u8 (kb : Int)], U, .ptr 0 0 0, .ptr 1 1 0, No, Yes, intA .u64 (p : Int), J 0, .ptr 2 2 0, .ptr 3 3 0, intA .u64 0, J 30] ++ us 7 ++ [Yes, Yes, No, .tu [intA .u64 (p : Int), J 0], intA .u32 (n : Int), intA .u32 ((n % 2147483647 : Nat) : Int), intA .u64 ((n % 2147483647 : Nat) : Int), .tu [intA .u64 (p : Int), J 0], intA .u64 (p : Int), J 0, .ag [intA .i8 na, intA .i8 da, intA .u8 (ka : Int)], .ag [boolA ua, .d xa, boolA va, .d ya], .ag [intA .i8 nb, intA .i8 db, intA .u8 (kb : Int)], .ag [boolA ub, .d xb, boolA vb, .d yb], .tu [intA .u64 0, J 30], .ag [boolA ua, .d xa, boolA va, .d ya], intA .u64 (p : Int), .tu [intA .u64 0, J 30], intA .u64 0, J 30] ++ us 97, ⟨[.row [intA .i8 na, intA .i8 da, intA .u8 (ka : Int)] 0 .ow none, .row [intA .i8 nb, intA .i8 db, intA .u8 (kb : Int)] 1 .ow none, .row [boolA ua, .d xa, boolA va, .d ya] 2 .ow none, .row [boolA ub, .d xb, boolA vb, .d yb] 3 .ow none], 4⟩⟩) (fun cf => by kernel_rfl) ?_
  refine ev_seq ?_
  refine ev_reg (by kernel_rfl) ?_
  refine rs_up 2 [(42, .ag [boolA ub, .d xb, boolA vb, .d yb]), (43, intA .u64 (p : Int))] (fun cf => by kernel_rfl) ?_
  refine rs_cp 18 [.ag [boolA ub, .d xb, boolA vb, .d yb], intA .u64 (p : Int)] false (some 44) (.tu [intA .u64 0, J 30]) (by kernel_rfl) (p_reduce0 Ib (by omega) Gb (by omega) hp hpb (by rw [res_zero hp hb]; exact Nat.zero_mod p)) (by kernel_rfl) ?_
  refine rs_alu [(14, intA .u64 0), (15, J 30), (41, .tu [intA .u64 0, J 30]), (45, intA .u64 0), (46, J 30)] (fun cf => by kernel_rfl) ?_
  refine ev_seq ?_
  refine ev_seq ?_
  refine ev_reg (by kernel_rfl) ?_
  refine rs_up 5 [(47, J 30), (48, Yes), (49, .ptr 2 2 2), (50, .ag [boolA va, .d ya]), (51, intA .u64 (p : Int))] (fun cf => by kernel_rfl) ?_
  refine rs_cp 22 [.ag [boolA va, .d ya], intA .u64 (p : Int)] false (some 52) (intA .u64 (((Qa % (p : Int)).toNat : Nat) : Int)) (by kernel_rfl) (g_residue Ga (by omega) hp hpb) (by kernel_rfl) ?_
  refine rs_up 1 [(53, boolA ((((Qa % (p : Int)).toNat : Nat) : Int) == 0))] (fun cf => by kernel_rfl) ?_
  rw [(show ((((Qa % (p : Int)).toNat : Nat) : Int) == 0) = true from by have := res_zero hp ha; simp; omega)]
  refine rs_alu [(54, No), (55, No), (56, J 30), (57, Yes), (58, Yes), (59, J 30), (60, No), (61, No), (62, intA .u64 0), (63, No), (64, No), (65, No), (66, No)] (fun cf => by kernel_rfl) ?_
  refine ev_false (by kernel_rfl) ?_
  refine ev_skip ?_
  refine ev_seq ?_
  refine ev_seq ?_
  refine ev_reg (by kernel_rfl) ?_
  refine rs_alu [(67, J 30), (68, Yes), (69, Yes), (72, Yes)] (fun cf => by kernel_rfl) ?_
  refine ev_true (by kernel_rfl) ?_
  refine ev_seq ?_
  refine ev_reg (by kernel_rfl) ?_
  refine rs_all (s1 := ⟨[intA .u32 (n : Int), .ag [intA .i8 na, intA .i8 da, intA .u8 (ka : Int)], .ag [intA .i8 nb, intA .i8 db, intA .u8 (kb : Int)], U, .ptr 0 0 0, .ptr 1 1 0, Yes, Yes, intA .u64 (p : Int), J 0, .ptr 2 2 0, .ptr 3 3 0, intA .u64 0, J 30, intA .u64 0, J 30] ++ us 5 ++ [Yes, Yes, No, .tu [intA .u64 (p : Int), J 0], intA .u32 (n : Int), intA .u32 ((n % 2147483647 : Nat) : Int), intA .u64 ((n % 2147483647 : Nat) : Int), .tu [intA .u64 (p : Int), J 0], intA .u64 (p : Int), J 0, .ag [intA .i8 na, intA .i8 da, intA .u8 (ka : Int)], .ag [boolA ua, .d xa, boolA va, .d ya], .ag [intA .i8 nb, intA .i8 db, intA .u8 (kb : Int)], .ag [boolA ub, .d xb, boolA vb, .d yb], .tu [intA .u64 0, J 30], .ag [boolA ua, .d xa, boolA va, .d ya], intA .u64 (p : Int), .tu [intA .u64 0, J 30], intA .u64 0, J 30, .tu [intA .u64 0, J 30], .ag [boolA ub, .d xb, boolA vb, .d yb], intA .u64 (p : Int), .tu [intA .u64 0, J 30], intA .u64 0, J 30, J 30, Yes, .ptr 2 2 2, .ag [boolA va, .d ya], intA .u64 (p : Int), intA .u64 (((Qa % (p : Int)).toNat : Nat) : Int), Yes, No, No, J 30, Yes, Yes, J 30, No, No, intA .u64 0, No, No, No, No, J 30, Yes, Yes, U, U, Yes, Yes] ++ us 64, ⟨[.row [intA .i8 na, intA .i8 da, intA .u8 (ka : Int)] 0 .ow none, .row [intA .i8 nb, intA .i8 db, intA .u8 (kb : Int)] 1 .ow none, .row [boolA ua, .d xa, boolA va, .d ya] 2 .ow none, .row [boolA ub, .d xb, boolA vb, .d yb] 3 .ow none], 4⟩⟩) (fun cf => by kernel_rfl) ?_
  refine ev_ret ?_
  refine leaf (r0 := Yes) (r1 := Yes) (.inr rfl) (by kernel_rfl) (by kernel_rfl) ?_
  rfl

theorem l_case_zn {n p : Nat} (hn : n < 4294967296) (hpr : Pr p) (gn : Gets Try.cx 12 [intA .u64 ((n % 2147483647 : Nat) : Int)] (.tu [intA .u64 (p : Int), intA .i64 0])) {na da : Int} {ka : Nat} {Pa Qa : Int} {ua va : Bool} {xa ya : D} {la qa : List Nat} (Ia : Iv Pa ua xa la) (La : la.length ≤ 10) (Ga : Iv Qa va ya qa) (Ma : qa.length ≤ 10) (ga : Gets Try.cx 15 [.ag [intA .i8 na, intA .i8 da, intA .u8 (ka : Int)]] (.ag [boolA ua, .d xa, boolA va, .d ya])) {nb db : Int} {kb : Nat} {Pb Qb : Int} {ub vb : Bool} {xb yb : D} {lb qb : List Nat} (Ib : Iv Pb ub xb lb) (Lb : lb.length ≤ 10) (Gb : Iv Qb vb yb qb) (Mb : qb.length ≤ 10) (gb : Gets Try.cx 15 [.ag [intA .i8 nb, intA .i8 db, intA .u8 (kb : Int)]] (.ag [boolA ub, .d xb, boolA vb, .d yb])) (ha : (p : Int) ∣ Qa) (hb : ¬ (p : Int) ∣ Qb) : Gets Try.cx 6 [intA .u32 (n : Int), .ag [intA .i8 na, intA .i8 da, intA .u8 (ka : Int)], .ag [intA .i8 nb, intA .i8 db, intA .u8 (kb : Int)]] (Yes) := by
  have hp : 0 < p := by have := hpr.1; omega
  have hpb : p ≤ 2147483648 := by have := hpr.2.1; omega
  obtain ⟨zb, hB, gzb⟩ := red_some Ib (by omega) Gb (by omega) hpr hb
  have hzb := hB.1
  refine gets_of (fn := Try.f6) (by kernel_rfl) rfl ?_
  show EvK _ _ _ ⟨[intA .u32 (n : Int), .ag [intA .i8 na, intA .i8 da, intA .u8 (ka : Int)], .ag [intA .i8 nb, intA .i8 db, intA .u8 (kb : Int)]] ++ us 135, ⟨[], 0⟩⟩ _
  refine ev_seq ?_
  refine ev_reg (by kernel_rfl) ?_
  refine rs_alm [(4, .ptr 0 0 0), (5, .ptr 1 1 0), (6, No)] ⟨[.row [intA .i8 na, intA .i8 da, intA .u8 (ka : Int)] 0 .ow none, .row [intA .i8 nb, intA .i8 db, intA .u8 (kb : Int)] 1 .ow none], 2⟩ (fun cf => by kernel_rfl) ?_
  refine ev_seq ?_
  refine ev_reg (by kernel_rfl) ?_
  refine rs_cp 10 [] false (some 21) (Yes) (by kernel_rfl) (g_sanity) (by kernel_rfl) ?_
  refine rs_alu [(7, Yes)] (fun cf => by kernel_rfl) ?_
  refine ev_seq ?_
  refine ev_seq ?_
  refine ev_reg (by kernel_rfl) ?_
  refine rs_alu [(22, Yes), (23, No)] (fun cf => by kernel_rfl) ?_
  refine ev_false (by kernel_rfl) ?_
  refine ev_skip ?_
  refine ev_seq ?_
  refine ev_reg (by kernel_rfl) ?_
  refine rs_up 2 [(25, intA .u32 (n : Int)), (26, intA .u32 (Int.tmod (n : Int) 2147483647))] (fun cf => by kernel_rfl) ?_
  rw [remN (a := (n : Int)) (b := 2147483647) (A := n) (B := 2147483647) (by rfl) (by rfl)]
  refine rs_up 1 [(27, intA .u64 (IntKind.wrap .u64 ((n % 2147483647 : Nat) : Int)))] (fun cf => by kernel_rfl) ?_
  rw [wrapU (n := n % 2147483647) (by omega)]
  refine rs_cp 12 [intA .u64 ((n % 2147483647 : Nat) : Int)] false (some 28) (.tu [intA .u64 (p : Int), J 0]) (by kernel_rfl) (gn) (by kernel_rfl) ?_
  refine rs_alu [(8, intA .u64 (p : Int)), (9, J 0), (24, .tu [intA .u64 (p : Int), J 0]), (29, intA .u64 (p : Int)), (30, J 0)] (fun cf => by kernel_rfl) ?_
  refine ev_seq ?_
  refine ev_reg (by kernel_rfl) ?_
  refine rs_up 1 [(31, .ag [intA .i8 na, intA .i8 da, intA .u8 (ka : Int)])] (fun cf => by kernel_rfl) ?_
  refine rs_cp 15 [.ag [intA .i8 na, intA .i8 da, intA .u8 (ka : Int)]] false (some 32) (.ag [boolA ua, .d xa, boolA va, .d ya]) (by kernel_rfl) (ga) (by kernel_rfl) ?_
  refine rs_up 1 [(33, .ag [intA .i8 nb, intA .i8 db, intA .u8 (kb : Int)])] (fun cf => by kernel_rfl) ?_
  refine rs_cp 15 [.ag [intA .i8 nb, intA .i8 db, intA .u8 (kb : Int)]] false (some 34) (.ag [boolA ub, .d xb, boolA vb, .d yb]) (by kernel_rfl) (gb) (by kernel_rfl) ?_
  refine rs_upm 2 [(10, .ptr 2 2 0), (11, .ptr 3 3 0)] ⟨[.row [intA .i8 na, intA .i8 da, intA .u8 (ka : Int)] 0 .ow none, .row [intA .i8 nb, intA .i8 db, intA .u8 (kb : Int)] 1 .ow none, .row [No, .d (.v (.slice none 0 0)), No, .d (.v (.slice none 0 0))] 2 .ow none, .row [No, .d (.v (.slice none 0 0)), No, .d (.v (.slice none 0 0))] 3 .ow none], 4⟩ (fun cf => by kernel_rfl) ?_
  refine rs_cu (fun m9 => storeA Try.cx 36 m9 (.ptr 2 2 0) (.ag [boolA ua, .d xa, boolA va, .d ya])) none ⟨[.row [intA .i8 na, intA .i8 da, intA .u8 (ka : Int)] 0 .ow none, .row [intA .i8 nb, intA .i8 db, intA .u8 (kb : Int)] 1 .ow none, .row [boolA ua, .d xa, boolA va, .d ya] 2 .ow none, .row [No, .d (.v (.slice none 0 0)), No, .d (.v (.slice none 0 0))] 3 .ow none], 4⟩ (fun cf => by kernel_rfl) (store_rat Ia.1 Ga.1 rfl) ?_
  refine rs_cu (fun m9 => storeA Try.cx 36 m9 (.ptr 3 3 0) (.ag [boolA ub, .d xb, boolA vb, .d yb])) none ⟨[.row [intA .i8 na, intA .i8 da, intA .u8 (ka : Int)] 0 .ow none, .row [intA .i8 nb, intA .i8 db, intA .u8 (kb : Int)] 1 .ow none, .row [boolA ua, .d xa, boolA va, .d ya] 2 .ow none, .row [boolA ub, .d xb, boolA vb, .d yb] 3 .ow none], 4⟩ (fun cf => by kernel_rfl) (store_rat Ib.1 Gb.1 rfl) ?_
  refine rs_alu [] (fun cf => by kernel_rfl) ?_
  refine ev_seq ?_
  refine ev_reg (by kernel_rfl) ?_
  refine rs_up 2 [(36, .ag [boolA ua, .d xa, boolA va, .d ya]), (37, intA .u64 (p : Int))] (fun cf => by kernel_rfl) ?_
  refine rs_cp 18 [.ag [boolA ua, .d xa, boolA va, .d ya], intA .u64 (p : Int)] false (some 38) (.tu [intA .u64 0, J 30]) (by kernel_rfl) (p_reduce0 Ia (by omega) Ga (by omega) hp hpb (by rw [res_zero hp ha]; exact Nat.zero_mod p)) (by kernel_rfl) ?_
  refine rs_all (s1 := ⟨[intA .u32 (n : Int), .ag [intA .i8 na, intA .i8 da, intA .u8 (ka : Int)], .ag [intA .i8 nb, intA .i8 db, intA .u8 (kb : Int)], U, .ptr 0 0 0, .ptr 1 1 0, No, Yes, intA .u64 (p : Int), J 0, .ptr 2 2 0, .ptr 3 3 0, intA .u64 0, J 30] ++ us 7 ++ [Yes, Yes, No, .tu [intA .u64 (p : Int), J 0], intA .u32 (n : Int), intA .u32 ((n % 2147483647 : Nat) : Int), intA .u64 ((n % 2147483647 : Nat) : Int), .tu [intA .u64 (p : Int), J 0], intA .u64 (p : Int), J 0, .ag [intA .i8 na, intA .i8 da, intA .u8 (ka : Int)], .ag [boolA ua, .d xa, boolA va, .d ya], .ag [intA .i8 nb, intA .i8 db, intA .u8 (kb : Int)], .ag [boolA ub, .d xb, boolA vb, .d yb], .tu [intA .u64 0, J 30], .ag [boolA ua, .d xa, boolA va, .d ya], intA .u64 (p : Int), .tu [intA .u64 0, J 30], intA .u64 0, J 30] ++ us 97, ⟨[.row [intA .i8 na, intA .i8 da, intA .u8 (ka : Int)] 0 .ow none, .row [intA .i8 nb, intA .i8 db, intA .u8 (kb : Int)] 1 .ow none, .row [boolA ua, .d xa, boolA va, .d ya] 2 .ow none, .row [boolA ub, .d xb, boolA vb, .d yb] 3 .ow none], 4⟩⟩) (fun cf => by kernel_rfl) ?_
  refine ev_seq ?_
  refine ev_reg (by kernel_rfl) ?_
  refine rs_up 2 [(42, .ag [boolA ub, .d xb, boolA vb, .d yb]), (43, intA .u64 (p : Int))] (fun cf => by kernel_rfl) ?_
  refine rs_cp 18 [.ag [boolA ub, .d xb, boolA vb, .d yb], intA .u64 (p : Int)] false (some 44) (.tu [intA .u64 (zb : Int), J 0]) (by kernel_rfl) (gzb) (by kernel_rfl) ?_
  refine rs_alu [(14, intA .u64 (zb : Int)), (15, J 0), (41, .tu [intA .u64 (zb : Int), J 0]), (45, intA .u64 (zb : Int)), (46, J 0)] (fun cf => by kernel_rfl) ?_
  refine ev_seq ?_
  refine ev_seq ?_
  refine ev_reg (by kernel_rfl) ?_
  refine rs_up 5 [(47, J 30), (48, Yes), (49, .ptr 2 2 2), (50, .ag [boolA va, .d ya]), (51, intA .u64 (p : Int))] (fun cf => by kernel_rfl) ?_
  refine rs_cp 22 [.ag [boolA va, .d ya], intA .u64 (p : Int)] false (some 52) (intA .u64 (((Qa % (p : Int)).toNat : Nat) : Int)) (by kernel_rfl) (g_residue Ga (by omega) hp hpb) (by kernel_rfl) ?_
  refine rs_up 1 [(53, boolA ((((Qa % (p : Int)).toNat : Nat) : Int) == 0))] (fun cf => by kernel_rfl) ?_
  rw [(show ((((Qa % (p : Int)).toNat : Nat) : Int) == 0) = true from by have := res_zero hp ha; simp; omega)]
  refine rs_alu [(54, No), (55, No), (56, J 30), (57, Yes), (58, Yes), (59, J 30), (60, No), (61, No), (62, intA .u64 0), (63, No), (64, No), (65, No), (66, No)] (fun cf => by kernel_rfl) ?_
  refine ev_false (by kernel_rfl) ?_
  refine ev_skip ?_
  refine ev_seq ?_
  refine ev_seq ?_
  refine ev_reg (by kernel_rfl) ?_
  refine rs_alu [(67, J 30), (68, Yes), (69, Yes), (72, Yes)] (fun cf => by kernel_rfl) ?_
  refine ev_true (by kernel_rfl) ?_
  refine ev_seq ?_
  refine ev_reg (by kernel_rfl) ?_
  refine rs_all (s1 := ⟨[intA .u32 (n : Int), .ag [intA .i8 na, intA .i8 da, intA .u8 (ka : Int)], .ag [intA .i8 nb, intA .i8 db, intA .u8 (kb : Int)], U, .ptr 0 0 0, .ptr 1 1 0, Yes, Yes, intA .u64 (p : Int), J 0, .ptr 2 2 0, .ptr 3 3 0, intA .u64 0, J 30, intA .u64 (zb : Int), J 0] ++ us 5 ++ [Yes, Yes, No, .tu [intA .u64 (p : Int), J 0], intA .u32 (n : Int), intA .u32 ((n % 2147483647 : Nat) : Int), intA .u64 ((n % 2147483647 : Nat) : Int), .tu [intA .u64 (p : Int), J 0], intA .u64 (p : Int), J 0, .ag [intA .i8 na, intA .i8 da, intA .u8 (ka : Int)], .ag [boolA ua, .d xa, boolA va, .d ya], .ag [intA .i8 nb, intA .i8 db, intA .u8 (kb : Int)], .ag [boolA ub, .d xb, boolA vb, .d yb], .tu [intA .u64 0, J 30], .ag [boolA ua, .d xa, boolA va, .d ya], intA .u64 (p : Int), .tu [intA .u64 0, J 30], intA .u64 0, J 30, .tu [intA .u64 (zb : Int), J 0], .ag [boolA ub, .d xb, boolA vb, .d yb], intA .u64 (p : Int), .tu [intA .u64 (zb : Int), J 0], intA .u64 (zb : Int), J 0, J 30, Yes, .ptr 2 2 2, .ag [boolA va, .d ya], intA .u64 (p : Int), intA .u64 (((Qa % (p : Int)).toNat : Nat) : Int), Yes, No, No, J 30, Yes, Yes, J 30, No, No, intA .u64 0, No, No, No, No, J 30, Yes, Yes, U, U, Yes, Yes] ++ us 64, ⟨[.row [intA .i8 na, intA .i8 da, intA .u8 (ka : Int)] 0 .ow none, .row [intA .i8 nb, intA .i8 db, intA .u8 (kb : Int)] 1 .ow none, .row [boolA ua, .d xa, boolA va, .d ya] 2 .ow none, .row [boolA ub, .d xb, boolA vb, .d yb] 3 .ow none], 4⟩⟩) (fun cf => by kernel_rfl) ?_
  refine ev_ret ?_
  refine leaf (r0 := Yes) (r1 := Yes) (.inr rfl) (by kernel_rfl) (by kernel_rfl) ?_
  rfl

theorem l_case_nz {n p : Nat} (hn : n < 4294967296) (hpr : Pr p) (gn : Gets Try.cx 12 [intA .u64 ((n % 2147483647 : Nat) : Int)] (.tu [intA .u64 (p : Int), intA .i64 0])) {na da : Int} {ka : Nat} {Pa Qa : Int} {ua va : Bool} {xa ya : D} {la qa : List Nat} (Ia : Iv Pa ua xa la) (La : la.length ≤ 10) (Ga : Iv Qa va ya qa) (Ma : qa.length ≤ 10) (ga : Gets Try.cx 15 [.ag [intA .i8 na, intA .i8 da, intA .u8 (ka : Int)]] (.ag [boolA ua, .d xa, boolA va, .d ya])) {nb db : Int} {kb : Nat} {Pb Qb : Int} {ub vb : Bool} {xb yb : D} {lb qb : List Nat} (Ib : Iv Pb ub xb lb) (Lb : lb.length ≤ 10) (Gb : Iv Qb vb yb qb) (Mb : qb.length ≤ 10) (gb : Gets Try.cx 15 [.ag [intA .i8 nb, intA .i8 db, intA .u8 (kb : Int)]] (.ag [boolA ub, .d xb, boolA vb, .d yb])) (ha : ¬ (p : Int) ∣ Qa) (hb : (p : Int) ∣ Qb) : Gets Try.cx 6 [intA .u32 (n : Int), .ag [intA .i8 na, intA .i8 da, intA .u8 (ka : Int)], .ag [intA .i8 nb, intA .i8 db, intA .u8 (kb : Int)]] (Yes) := by
  have hp : 0 < p := by have := hpr.1; omega
  have hpb : p ≤ 2147483648 := by have := hpr.2.1; omega
  obtain ⟨za, hA, gza⟩ := red_some Ia (by omega) Ga (by omega) hpr ha
  have hza := hA.1
  refine gets_of (fn := Try.f6) (by kernel_rfl) rfl ?_
  show EvK _ _ _ ⟨[intA .u32 (n : Int), .ag [intA .i8 na, intA .i8 da, intA .u8 (ka : Int)], .ag [intA .i8 nb, intA .i8 db, intA .u8 (kb : Int)]] ++ us 135, ⟨[], 0⟩⟩ _
  refine ev_seq ?_
  refine ev_reg (by kernel_rfl) ?_
  refine rs_alm [(4, .ptr 0 0 0), (5, .ptr 1 1 0), (6, No)] ⟨[.row [intA .i8 na, intA .i8 da, intA .u8 (ka : Int)] 0 .ow none, .row [intA .i8 nb, intA .i8 db, intA .u8 (kb : Int)] 1 .ow none], 2⟩ (fun cf => by kernel_rfl) ?_
  refine ev_seq ?_
  refine ev_reg (by kernel_rfl) ?_
  refine rs_cp 10 [] false (some 21) (Yes) (by kernel_rfl) (g_sanity) (by kernel_rfl) ?_
  refine rs_alu [(7, Yes)] (fun cf => by kernel_rfl) ?_
  refine ev_seq ?_
  refine ev_seq ?_
  refine ev_reg (by kernel_rfl) ?_
  refine rs_alu [(22, Yes), (23, No)] (fun cf => by kernel_rfl) ?_
  refine ev_false (by kernel_rfl) ?_
  refine ev_skip ?_
  refine ev_seq ?_
  refine ev_reg (by kernel_rfl) ?_
  refine rs_up 2 [(25, intA .u32 (n : Int)), (26, intA .u32 (Int.tmod (n : Int) 2147483647))] (fun cf => by kernel_rfl) ?_
  rw [remN (a := (n : Int)) (b := 2147483647) (A := n) (B := 2147483647) (by rfl) (by rfl)]
  refine rs_up 1 [(27, intA .u64 (IntKind.wrap .u64 ((n % 2147483647 : Nat) : Int)))] (fun cf => by kernel_rfl) ?_
  rw [wrapU (n := n % 2147483647) (by omega)]
  refine rs_cp 12 [intA .u64 ((n % 2147483647 : Nat) : Int)] false (some 28) (.tu [intA .u64 (p : Int), J 0]) (by kernel_rfl) (gn) (by kernel_rfl) ?_
  refine rs_alu [(8, intA .u64 (p : Int)), (9, J 0), (24, .tu [intA .u64 (p : Int), J 0]), (29, intA .u64 (p : Int)), (30, J 0)] (fun cf => by kernel_rfl) ?_
  refine ev_seq ?_
  refine ev_reg (by kernel_rfl) ?_
  refine rs_up 1 [(31, .ag [intA .i8 na, intA .i8 da, intA .u8 (ka : Int)])] (fun cf => by kernel_rfl) ?_
  refine rs_cp 15 [.ag [intA .i8 na, intA .i8 da, intA .u8 (ka : Int)]] false (some 32) (.ag [boolA ua, .d xa, boolA va, .d ya]) (by kernel_rfl) (ga) (by kernel_rfl) ?_
  refine rs_up 1 [(33, .ag [intA .i8 nb, intA .i8 db, intA .u8 (kb : Int)])] (fun cf => by kernel_rfl) ?_
  refine rs_cp 15 [.ag [intA .i8 nb, intA .i8 db, intA .u8 (kb : Int)]] false (some 34) (.ag [boolA ub, .d xb, boolA vb, .d yb]) (by kernel_rfl) (gb) (by kernel_rfl) ?_
  refine rs_upm 2 [(10, .ptr 2 2 0), (11, .ptr 3 3 0)] ⟨[.row [intA .i8 na, intA .i8 da, intA .u8 (ka : Int)] 0 .ow none, .row [intA .i8 nb, intA .i8 db, intA .u8 (kb : Int)] 1 .ow none, .row [No, .d (.v (.slice none 0 0)), No, .d (.v (.slice none 0 0))] 2 .ow none, .row [No, .d (.v (.slice none 0 0)), No, .d (.v (.slice none 0 0))] 3 .ow none], 4⟩ (fun cf => by kernel_rfl) ?_
  refine rs_cu (fun m9 => storeA Try.cx 36 m9 (.ptr 2 2 0) (.ag [boolA ua, .d xa, boolA va, .d ya])) none ⟨[.row [intA .i8 na, intA .i8 da, intA .u8 (ka : Int)] 0 .ow none, .row [intA .i8 nb, intA .i8 db, intA .u8 (kb : Int)] 1 .ow none, .row [boolA ua, .d xa, boolA va, .d ya] 2 .ow none, .row [No, .d (.v (.slice none 0 0)), No, .d (.v (.slice none 0 0))] 3 .ow none], 4⟩ (fun cf => by kernel_rfl) (store_rat Ia.1 Ga.1 rfl) ?_
  refine rs_cu (fun m9 => storeA Try.cx 36 m9 (.ptr 3 3 0) (.ag [boolA ub, .d xb, boolA vb, .d yb])) none ⟨[.row [intA .i8 na, intA .i8 da, intA .u8 (ka : Int)] 0 .ow none, .row [intA .i8 nb, intA .i8 db, intA .u8 (kb : Int)] 1 .ow none, .row [boolA ua, .d xa, boolA va, .d ya] 2 .ow none, .row [boolA ub, .d xb, boolA vb, .d yb] 3 .ow none], 4⟩ (fun cf => by kernel_rfl) (store_rat Ib.1 Gb.1 rfl) ?_
  refine rs_alu [] (fun cf => by kernel_rfl) ?_
  refine ev_seq ?_
  refine ev_reg (by kernel_rfl) ?_
  refine rs_up 2 [(36, .ag [boolA ua, .d xa, boolA va, .d ya]), (37, intA .u64 (p : Int))] (fun cf => by kernel_rfl) ?_
  refine rs_cp 18 [.ag [boolA ua, .d xa, boolA va, .d ya], intA .u64 (p : Int)] false (some 38) (.tu [intA .u64 (za : Int), J 0]) (by kernel_rfl) (gza) (by kernel_rfl) ?_
  refine rs_all (s1 := ⟨[intA .u32 (n : Int), .ag [intA .i8 na, intA .i8 da, intA .u8 (ka : Int)], .ag [intA .i8 nb, intA .i8 db, intA .u8 (kb : Int)], U, .ptr 0 0 0, .ptr 1 1 0, No, Yes, intA .u64 (p : Int), J 0, .ptr 2 2 0, .ptr 3 3 0, intA .u64 (za : Int), J 0] ++ us 7 ++ [Yes, Yes, No, .tu [intA .u64 (p : Int), J 0], intA .u32 (n : Int), intA .u32 ((n % 2147483647 : Nat) : Int), intA .u64 ((n % 2147483647 : Nat) : Int), .tu [intA .u64 (p : Int), J 0], intA .u64 (p : Int), J 0, .ag [intA .i8 na, intA .i8 da, intA .u8 (ka : Int)], .ag [boolA ua, .d xa, boolA va, .d ya], .ag [intA .i8 nb, intA .i8 db, intA .u8 (kb : Int)], .ag [boolA ub, .d xb, boolA vb, .d yb], .tu [intA .u64 (za : Int), J 0], .ag [boolA ua, .d xa, boolA va, .d ya], intA .u64 (p : Int), .tu [intA .u64 (za : Int), J 0], intA .u64 (za : Int), J 0] ++ us 97, ⟨[.row [intA .i8 na, intA .i8 da, intA .u8 (ka : Int)] 0 .ow none, .row [intA .i8 nb, intA .i8 db, intA .u8 (kb : Int)] 1 .ow none, .row [boolA ua, .d xa, boolA va, .d ya] 2 .ow none, .row [boolA ub, .d xb, boolA vb, .d yb] 3 .ow none], 4⟩⟩) (fun cf => by kernel_rfl) ?_
  refine ev_seq ?_
  refine ev_reg (by kernel_rfl) ?_
  refine rs_up 2 [(42, .ag [boolA ub, .d xb, boolA vb, .d yb]), (43, intA .u64 (p : Int))] (fun cf => by kernel_rfl) ?_
  refine rs_cp 18 [.ag [boolA ub, .d xb, boolA vb, .d yb], intA .u64 (p : Int)] false (some 44) (.tu [intA .u64 0, J 30]) (by kernel_rfl) (p_reduce0 Ib (by omega) Gb (by omega) hp hpb (by rw [res_zero hp hb]; exact Nat.zero_mod p)) (by kernel_rfl) ?_
  refine rs_alu [(14, intA .u64 0), (15, J 30), (41, .tu [intA .u64 0, J 30]), (45, intA .u64 0), (46, J 30)] (fun cf => by kernel_rfl) ?_
  refine ev_seq ?_
  refine ev_seq ?_
  refine ev_reg (by kernel_rfl) ?_
  refine rs_up 5 [(47, J 0), (48, No), (49, .ptr 2 2 2), (50, .ag [boolA va, .d ya]), (51, intA .u64 (p : Int))] (fun cf => by kernel_rfl) ?_
  refine rs_cp 22 [.ag [boolA va, .d ya], intA .u64 (p : Int)] false (some 52) (intA .u64 (((Qa % (p : Int)).toNat : Nat) : Int)) (by kernel_rfl) (g_residue Ga (by omega) hp hpb) (by kernel_rfl) ?_
  refine rs_up 1 [(53, boolA ((((Qa % (p : Int)).toNat : Nat) : Int) == 0))] (fun cf => by kernel_rfl) ?_
  rw [(show ((((Qa % (p : Int)).toNat : Nat) : Int) == 0) = false from by have := res_pos hp ha; simp; omega)]
  refine rs_alu [(54, No), (55, No), (56, J 0), (57, No), (58, No), (65, No), (66, No)] (fun cf => by kernel_rfl) ?_
  refine ev_false (by kernel_rfl) ?_
  refine ev_skip ?_
  refine ev_seq ?_
  refine ev_seq ?_
  refine ev_reg (by kernel_rfl) ?_
  refine rs_alu [(67, J 0), (68, No), (69, No), (70, J 30), (71, Yes), (72, Yes)] (fun cf => by kernel_rfl) ?_
  refine ev_true (by kernel_rfl) ?_
  refine ev_seq ?_
  refine ev_reg (by kernel_rfl) ?_
  refine rs_all (s1 := ⟨[intA .u32 (n : Int), .ag [intA .i8 na, intA .i8 da, intA .u8 (ka : Int)], .ag [intA .i8 nb, intA .i8 db, intA .u8 (kb : Int)], U, .ptr 0 0 0, .ptr 1 1 0, Yes, Yes, intA .u64 (p : Int), J 0, .ptr 2 2 0, .ptr 3 3 0, intA .u64 (za : Int), J 0, intA .u64 0, J 30] ++ us 5 ++ [Yes, Yes, No, .tu [intA .u64 (p : Int), J 0], intA .u32 (n : Int), intA .u32 ((n % 2147483647 : Nat) : Int), intA .u64 ((n % 2147483647 : Nat) : Int), .tu [intA .u64 (p : Int), J 0], intA .u64 (p : Int), J 0, .ag [intA .i8 na, intA .i8 da, intA .u8 (ka : Int)], .ag [boolA ua, .d xa, boolA va, .d ya], .ag [intA .i8 nb, intA .i8 db, intA .u8 (kb : Int)], .ag [boolA ub, .d xb, boolA vb, .d yb], .tu [intA .u64 (za : Int), J 0], .ag [boolA ua, .d xa, boolA va, .d ya], intA .u64 (p : Int), .tu [intA .u64 (za : Int), J 0], intA .u64 (za : Int), J 0, .tu [intA .u64 0, J 30], .ag [boolA ub, .d xb, boolA vb, .d yb], intA .u64 (p : Int), .tu [intA .u64 0, J 30], intA .u64 0, J 30, J 0, No, .ptr 2 2 2, .ag [boolA va, .d ya], intA .u64 (p : Int), intA .u64 (((Qa % (p : Int)).toNat : Nat) : Int), No, No, No, J 0, No, No] ++ us 6 ++ [No, No, J 0, No, No, J 30, Yes, Yes, Yes] ++ us 64, ⟨[.row [intA .i8 na, intA .i8 da, intA .u8 (ka : Int)] 0 .ow none, .row [intA .i8 nb, intA .i8 db, intA .u8 (kb : Int)] 1 .ow none, .row [boolA ua, .d xa, boolA va, .d ya] 2 .ow none, .row [boolA ub, .d xb, boolA vb, .d yb] 3 .ow none], 4⟩⟩) (fun cf => by kernel_rfl) ?_
  refine ev_ret ?_
  refine leaf (r0 := Yes) (r1 := Yes) (.inr rfl) (by kernel_rfl) (by kernel_rfl) ?_
  rfl

theorem l_case_nn {n p : Nat} (hn : n < 4294967296) (hpr : Pr p) (gn : Gets Try.cx 12 [intA .u64 ((n % 2147483647 : Nat) : Int)] (.tu [intA .u64 (p : Int), intA .i64 0])) {na da : Int} {ka : Nat} {Pa Qa : Int} {ua va : Bool} {xa ya : D} {la qa : List Nat} (Ia : Iv Pa ua xa la) (La : la.length ≤ 10) (Ga : Iv Qa va ya qa) (Ma : qa.length ≤ 10) (ga : Gets Try.cx 15 [.ag [intA .i8 na, intA .i8 da, intA .u8 (ka : Int)]] (.ag [boolA ua, .d xa, boolA va, .d ya])) {nb db : Int} {kb : Nat} {Pb Qb : Int} {ub vb : Bool} {xb yb : D} {lb qb : List Nat} (Ib : Iv Pb ub xb lb) (Lb : lb.length ≤ 10) (Gb : Iv Qb vb yb qb) (Mb : qb.length ≤ 10) (gb : Gets Try.cx 15 [.ag [intA .i8 nb, intA .i8 db, intA .u8 (kb : Int)]] (.ag [boolA ub, .d xb, boolA vb, .d yb])) (ha : ¬ (p : Int) ∣ Qa) (hb : ¬ (p : Int) ∣ Qb) : Gets Try.cx 6 [intA .u32 (n : Int), .ag [intA .i8 na, intA .i8 da, intA .u8 (ka : Int)], .ag [intA .i8 nb, intA .i8 db, intA .u8 (kb : Int)]] (Yes) := by
  have hp : 0 < p := by have := hpr.1; omega
  have hpb : p ≤ 2147483648 := by have := hpr.2.1; omega
  obtain ⟨za, hA, gza⟩ := red_some Ia (by omega) Ga (by omega) hpr ha
  have hza := hA.1
  obtain ⟨zb, hB, gzb⟩ := red_some Ib (by omega) Gb (by omega) hpr hb
  have hzb := hB.1
  have hne : Qa * Qb ≠ 0 := Int.mul_ne_zero (ne_of_ndvd ha) (ne_of_ndvd hb)
  obtain ⟨⟨⟨uo, xo⟩, ⟨vo, yo⟩⟩, ⟨⟨lo, Io⟩, ⟨qo, Go⟩⟩, go⟩ := g_radd Ia (by omega) Ga (by omega) Ib (by omega) Gb (by omega) hne
  obtain ⟨⟨⟨um, xm⟩, ⟨vm, ym⟩⟩, ⟨⟨lm, Im⟩, ⟨qm, Gm⟩⟩, gm⟩ := g_rmul Ia (by omega) Ga (by omega) Ib (by omega) Gb (by omega) hne
  have b1 := iv_len Io (Nat.lt_of_le_of_lt (div_natAbs_le _ _) (add_lt (mul_lt (iv_lt Ia) (iv_lt Gb)) (mul_lt (iv_lt Ib) (iv_lt Ga))))
  have b2 := iv_len Go (Nat.lt_of_le_of_lt (div_natAbs_le _ _) (mul_lt (iv_lt Ga) (iv_lt Gb)))
  have b3 := iv_len Im (Nat.lt_of_le_of_lt (div_natAbs_le _ _) (mul_lt (iv_lt Ia) (iv_lt Ib)))
  have b4 := iv_len Gm (Nat.lt_of_le_of_lt (div_natAbs_le _ _) (mul_lt (iv_lt Ga) (iv_lt Gb)))
  obtain ⟨hS1, hS2⟩ := rd_add hpr ha hb hA hB
  obtain ⟨hM1, hM2⟩ := rd_mul hpr ha hb hA hB
  obtain ⟨zs, hS, gS⟩ := red_some Io (by omega) Go (by omega) hpr hS1
  obtain ⟨zm, hM, gM⟩ := red_some Im (by omega) Gm (by omega) hpr hM1
  rw [rd_eq hpr hS1 hS hS2] at gS
  rw [rd_eq hpr hM1 hM hM2] at gM
  have hback := rd_back hp hA
  refine gets_of (fn := Try.f6) (by kernel_rfl) rfl ?_
  show EvK _ _ _ ⟨[intA .u32 (n : Int), .ag [intA .i8 na, intA .i8 da, intA .u8 (ka : Int)], .ag [intA .i8 nb, intA .i8 db, intA .u8 (kb : Int)]] ++ us 135, ⟨[], 0⟩⟩ _
  refine ev_seq ?_
  refine ev_reg (by kernel_rfl) ?_
  refine rs_alm [(4, .ptr 0 0 0), (5, .ptr 1 1 0), (6, No)] ⟨[.row [intA .i8 na, intA .i8 da, intA .u8 (ka : Int)] 0 .ow none, .row [intA .i8 nb, intA .i8 db, intA .u8 (kb : Int)] 1 .ow none], 2⟩ (fun cf => by kernel_rfl) ?_
  refine ev_seq ?_
  refine ev_reg (by kernel_rfl) ?_
  refine rs_cp 10 [] false (some 21) (Yes) (by kernel_rfl) (g_sanity) (by kernel_rfl) ?_
  refine rs_alu [(7, Yes)] (fun cf => by kernel_rfl) ?_
  refine ev_seq ?_
  refine ev_seq ?_
  refine ev_reg (by kernel_rfl) ?_
  refine rs_alu [(22, Yes), (23, No)] (fun cf => by kernel_rfl) ?_
  refine ev_false (by kernel_rfl) ?_
  refine ev_skip ?_
  refine ev_seq ?_
  refine ev_reg (by kernel_rfl) ?_
  refine rs_up 2 [(25, intA .u32 (n : Int)), (26, intA .u32 (Int.tmod (n : Int) 2147483647))] (fun cf => by kernel_rfl) ?_
  rw [remN (a := (n : Int)) (b := 2147483647) (A := n) (B := 2147483647) (by rfl) (by rfl)]
  refine rs_up 1 [(27, intA .u64 (IntKind.wrap .u64 ((n % 2147483647 : Nat) : Int)))] (fun cf => by kernel_rfl) ?_
  rw [wrapU (n := n % 2147483647) (by omega)]
  refine rs_cp 12 [intA .u64 ((n % 2147483647 : Nat) : Int)] false (some 28) (.tu [intA .u64 (p : Int), J 0]) (by kernel_rfl) (gn) (by kernel_rfl) ?_
  refine rs_alu [(8, intA .u64 (p : Int)), (9, J 0), (24, .tu [intA .u64 (p : Int), J 0]), (29, intA .u64 (p : Int)), (30, J 0)] (fun cf => by kernel_rfl) ?_
  refine ev_seq ?_
  refine ev_reg (by kernel_rfl) ?_
  refine rs_up 1 [(31, .ag [intA .i8 na, intA .i8 da, intA .u8 (ka : Int)])] (fun cf => by kernel_rfl) ?_
  refine rs_cp 15 [.ag [intA .i8 na, intA .i8 da, intA .u8 (ka : Int)]] false (some 32) (.ag [boolA ua, .d xa, boolA va, .d ya]) (by kernel_rfl) (ga) (by kernel_rfl) ?_
  refine rs_up 1 [(33, .ag [intA .i8 nb, intA .i8 db, intA .u8 (kb : Int)])] (fun cf => by kernel_rfl) ?_
  refine rs_cp 15 [.ag [intA .i8 nb, intA .i8 db, intA .u8 (kb : Int)]] false (some 34) (.ag [boolA ub, .d xb, boolA vb, .d yb]) (by kernel_rfl) (gb) (by kernel_rfl) ?_
  refine rs_upm 2 [(10, .ptr 2 2 0), (11, .ptr 3 3 0)] ⟨[.row [intA .i8 na, intA .i8 da, intA .u8 (ka : Int)] 0 .ow none, .row [intA .i8 nb, intA .i8 db, intA .u8 (kb : Int)] 1 .ow none, .row [No, .d (.v (.slice none 0 0)), No, .d (.v (.slice none 0 0))] 2 .ow none, .row [No, .d (.v (.slice none 0 0)), No, .d (.v (.slice none 0 0))] 3 .ow none], 4⟩ (fun cf => by kernel_rfl) ?_
  refine rs_cu (fun m9 => storeA Try.cx 36 m9 (.ptr 2 2 0) (.ag [boolA ua, .d xa, boolA va, .d ya])) none ⟨[.row [intA .i8 na, intA .i8 da, intA .u8 (ka : Int)] 0 .ow none, .row [intA .i8 nb, intA .i8 db, intA .u8 (kb : Int)] 1 .ow none, .row [boolA ua, .d xa, boolA va, .d ya] 2 .ow none, .row [No, .d (.v (.slice none 0 0)), No, .d (.v (.slice none 0 0))] 3 .ow none], 4⟩ (fun cf => by kernel_rfl) (store_rat Ia.1 Ga.1 rfl) ?_
  refine rs_cu (fun m9 => storeA Try.cx 36 m9 (.ptr 3 3 0) (.ag [boolA ub, .d xb, boolA vb, .d yb])) none ⟨[.row [intA .i8 na, intA .i8 da, intA .u8 (ka : Int)] 0 .ow none, .row [intA .i8 nb, intA .i8 db, intA .u8 (kb : Int)] 1 .ow none, .row [boolA ua, .d xa, boolA va, .d ya] 2 .ow none, .row [boolA ub, .d xb, boolA vb, .d yb] 3 .ow none], 4⟩ (fun cf => by kernel_rfl) (store_rat Ib.1 Gb.1 rfl) ?_
  refine rs_alu [] (fun cf => by kernel_rfl) ?_
  refine ev_seq ?_
  refine ev_reg (by kernel_rfl) ?_
  refine rs_up 2 [(36, .ag [boolA ua, .d xa, boolA va, .d ya]), (37, intA .u64 (p : Int))] (fun cf => by kernel_rfl) ?_
  refine rs_cp 18 [.ag [boolA ua, .d xa, boolA va, .d ya], intA .u64 (p : Int)] false (some 38) (.tu [intA .u64 (za : Int), J 0]) (by kernel_rfl) (gza) (by kernel_rfl) ?_
  refine rs_all (s1 := ⟨[intA .u32 (n : Int), .ag [intA .i8 na, intA .i8 da, intA .u8 (ka : Int)], .ag [intA .i8 nb, intA .i8 db, intA .u8 (kb : Int)], U, .ptr 0 0 0, .ptr 1 1 0, No, Yes, intA .u64 (p : Int), J 0, .ptr 2 2 0, .ptr 3 3 0, intA .u64 (za : Int), J 0] ++ us 7 ++ [Yes, Yes, No, .tu [intA .u64 (p : Int), J 0], intA .u32 (n : Int), intA .u32 ((n % 2147483647 : Nat) : Int), intA .u64 ((n % 2147483647 : Nat) : Int), .tu [intA .u64 (p : Int), J 0], intA .u64 (p : Int), J 0, .ag [intA .i8 na, intA .i8 da, intA .u8 (ka : Int)], .ag [boolA ua, .d xa, boolA va, .d ya], .ag [intA .i8 nb, intA .i8 db, intA .u8 (kb : Int)], .ag [boolA ub, .d xb, boolA vb, .d yb], .tu [intA .u64 (za : Int), J 0], .ag [boolA ua, .d xa, boolA va, .d ya], intA .u64 (p : Int), .tu [intA .u64 (za : Int), J 0], intA .u64 (za : Int), J 0] ++ us 97, ⟨[.row [intA .i8 na, intA .i8 da, intA .u8 (ka : Int)] 0 .ow none, .row [intA .i8 nb, intA .i8 db, intA .u8 (kb : Int)] 1 .ow none, .row [boolA ua, .d xa, boolA va, .d ya] 2 .ow none, .row [boolA ub, .d xb, boolA vb, .d yb] 3 .ow none], 4⟩⟩) (fun cf => by kernel_rfl) ?_
  refine ev_seq ?_
  refine ev_reg (by kernel_rfl) ?_
  refine rs_up 2 [(42, .ag [boolA ub, .d xb, boolA vb, .d yb]), (43, intA .u64 (p : Int))] (fun cf => by kernel_rfl) ?_
  refine rs_cp 18 [.ag [boolA ub, .d xb, boolA vb, .d yb], intA .u64 (p : Int)] false (some 44) (.tu [intA .u64 (zb : Int), J 0]) (by kernel_rfl) (gzb) (by kernel_rfl) ?_
  refine rs_alu [(14, intA .u64 (zb : Int)), (15, J 0), (41, .tu [intA .u64 (zb : Int), J 0]), (45, intA .u64 (zb : Int)), (46, J 0)] (fun cf => by kernel_rfl) ?_
  refine ev_seq ?_
  refine ev_seq ?_
  refine ev_reg (by kernel_rfl) ?_
  refine rs_up 5 [(47, J 0), (48, No), (49, .ptr 2 2 2), (50, .ag [boolA va, .d ya]), (51, intA .u64 (p : Int))] (fun cf => by kernel_rfl) ?_
  refine rs_cp 22 [.ag [boolA va, .d ya], intA .u64 (p : Int)] false (some 52) (intA .u64 (((Qa % (p : Int)).toNat : Nat) : Int)) (by kernel_rfl) (g_residue Ga (by omega) hp hpb) (by kernel_rfl) ?_
  refine rs_up 1 [(53, boolA ((((Qa % (p : Int)).toNat : Nat) : Int) == 0))] (fun cf => by kernel_rfl) ?_
  rw [(show ((((Qa % (p : Int)).toNat : Nat) : Int) == 0) = false from by have := res_pos hp ha; simp; omega)]
  refine rs_alu [(54, No), (55, No), (56, J 0), (57, No), (58, No), (65, No), (66, No)] (fun cf => by kernel_rfl) ?_
  refine ev_false (by kernel_rfl) ?_
  refine ev_skip ?_
  refine ev_seq ?_
  refine ev_seq ?_
  refine ev_reg (by kernel_rfl) ?_
  refine rs_alu [(67, J 0), (68, No), (69, No), (70, J 0), (71, No), (72, No)] (fun cf => by kernel_rfl) ?_
  refine ev_false (by kernel_rfl) ?_
  refine ev_skip ?_
  refine ev_seq ?_
  refine ev_reg (by kernel_rfl) ?_
  refine rs_up 2 [(75, .ag [boolA ua, .d xa, boolA va, .d ya]), (76, .ag [boolA ub, .d xb, boolA vb, .d yb])] (fun cf => by kernel_rfl) ?_
  refine rs_cp 23 [.ag [boolA ua, .d xa, boolA va, .d ya], .ag [boolA ub, .d xb, boolA vb, .d yb]] false (some 77) (.ag [boolA uo, .d xo, boolA vo, .d yo]) (by kernel_rfl) (go) (by kernel_rfl) ?_
  refine rs_up 1 [(78, intA .u64 (p : Int))] (fun cf => by kernel_rfl) ?_
  refine rs_cp 18 [.ag [boolA uo, .d xo, boolA vo, .d yo], intA .u64 (p : Int)] false (some 79) (.tu [intA .u64 (((za + zb) % p : Nat) : Int), J 0]) (by kernel_rfl) (gS) (by kernel_rfl) ?_
  refine rs_alu [(16, intA .u64 (((za + zb) % p : Nat) : Int)), (17, J 0), (74, .tu [intA .u64 (((za + zb) % p : Nat) : Int), J 0]), (80, intA .u64 (((za + zb) % p : Nat) : Int)), (81, J 0)] (fun cf => by kernel_rfl) ?_
  refine ev_seq ?_
  refine ev_reg (by kernel_rfl) ?_
  refine rs_up 2 [(83, .ag [boolA ua, .d xa, boolA va, .d ya]), (84, .ag [boolA ub, .d xb, boolA vb, .d yb])] (fun cf => by kernel_rfl) ?_
  refine rs_cp 24 [.ag [boolA ua, .d xa, boolA va, .d ya], .ag [boolA ub, .d xb, boolA vb, .d yb]] false (some 85) (.ag [boolA um, .d xm, boolA vm, .d ym]) (by kernel_rfl) (gm) (by kernel_rfl) ?_
  refine rs_up 1 [(86, intA .u64 (p : Int))] (fun cf => by kernel_rfl) ?_
  refine rs_cp 18 [.ag [boolA um, .d xm, boolA vm, .d ym], intA .u64 (p : Int)] false (some 87) (.tu [intA .u64 (((za * zb) % p : Nat) : Int), J 0]) (by kernel_rfl) (gM) (by kernel_rfl) ?_
  refine rs_alu [(18, intA .u64 (((za * zb) % p : Nat) : Int)), (19, J 0), (82, .tu [intA .u64 (((za * zb) % p : Nat) : Int), J 0]), (88, intA .u64 (((za * zb) % p : Nat) : Int)), (89, J 0)] (fun cf => by kernel_rfl) ?_
  refine ev_seq ?_
  refine ev_reg (by kernel_rfl) ?_
  refine rs_up 3 [(90, .ptr 2 2 2), (91, .ag [boolA va, .d ya]), (92, intA .u64 (p : Int))] (fun cf => by kernel_rfl) ?_
  refine rs_cp 22 [.ag [boolA va, .d ya], intA .u64 (p : Int)] false (some 93) (intA .u64 (((Qa % (p : Int)).toNat : Nat) : Int)) (by kernel_rfl) (g_residue Ga (by omega) hp hpb) (by kernel_rfl) ?_
  refine rs_up 2 [(94, intA .u64 (za : Int)), (95, intA .u64 (IntKind.wrap .u64 ((((Qa % (p : Int)).toNat : Nat) : Int) * (za : Int))))] (fun cf => by kernel_rfl) ?_
  rw [mulU (a := (((Qa % (p : Int)).toNat : Nat) : Int)) (b := (za : Int)) (A := (Qa % (p : Int)).toNat) (B := za) (by rfl) (by rfl) (mulp (by have := Int.emod_nonneg Qa (show (p : Int) ≠ 0 by omega); have := Int.emod_lt_of_pos Qa (show (0 : Int) < (p : Int) by omega); omega) hza hpb)]
  refine rs_up 1 [(96, intA .u64 (p : Int))] (fun cf => by kernel_rfl) ?_
  refine rs_cv (fun m9 => binA Try.cx m9 .rem 23 (intA .u64 ((((Qa % (p : Int)).toNat) * za : Nat) : Int)) (intA .u64 (p : Int))) (some 97) (intA .u64 (((((Qa % (p : Int)).toNat) * za) % p : Nat) : Int)) (fun cf => by kernel_rfl) (remU_at (A := ((Qa % (p : Int)).toNat) * za) (P := p) (by rfl) (by rfl) (by omega)) ?_
  refine rs_all (s1 := ⟨[intA .u32 (n : Int), .ag [intA .i8 na, intA .i8 da, intA .u8 (ka : Int)], .ag [intA .i8 nb, intA .i8 db, intA .u8 (kb : Int)], U, .ptr 0 0 0, .ptr 1 1 0, No, Yes, intA .u64 (p : Int), J 0, .ptr 2 2 0, .ptr 3 3 0, intA .u64 (za : Int), J 0, intA .u64 (zb : Int), J 0, intA .u64 (((za + zb) % p : Nat) : Int), J 0, intA .u64 (((za * zb) % p : Nat) : Int), J 0, intA .u64 (((((Qa % (p : Int)).toNat) * za) % p : Nat) : Int), Yes, Yes, No, .tu [intA .u64 (p : Int), J 0], intA .u32 (n : Int), intA .u32 ((n % 2147483647 : Nat) : Int), intA .u64 ((n % 2147483647 : Nat) : Int), .tu [intA .u64 (p : Int), J 0], intA .u64 (p : Int), J 0, .ag [intA .i8 na, intA .i8 da, intA .u8 (ka : Int)], .ag [boolA ua, .d xa, boolA va, .d ya], .ag [intA .i8 nb, intA .i8 db, intA .u8 (kb : Int)], .ag [boolA ub, .d xb, boolA vb, .d yb], .tu [intA .u64 (za : Int), J 0], .ag [boolA ua, .d xa, boolA va, .d ya], intA .u64 (p : Int), .tu [intA .u64 (za : Int), J 0], intA .u64 (za : Int), J 0, .tu [intA .u64 (zb : Int), J 0], .ag [boolA ub, .d xb, boolA vb, .d yb], intA .u64 (p : Int), .tu [intA .u64 (zb : Int), J 0], intA .u64 (zb : Int), J 0, J 0, No, .ptr 2 2 2, .ag [boolA va, .d ya], intA .u64 (p : Int), intA .u64 (((Qa % (p : Int)).toNat : Nat) : Int), No, No, No, J 0, No, No] ++ us 6 ++ [No, No, J 0, No, No, J 0, No, No, U, .tu [intA .u64 (((za + zb) % p : Nat) : Int), J 0], .ag [boolA ua, .d xa, boolA va, .d ya], .ag [boolA ub, .d xb, boolA vb, .d yb], .ag [boolA uo, .d xo, boolA vo, .d yo], intA .u64 (p : Int), .tu [intA .u64 (((za + zb) % p : Nat) : Int), J 0], intA .u64 (((za + zb) % p : Nat) : Int), J 0, .tu [intA .u64 (((za * zb) % p : Nat) : Int), J 0], .ag [boolA ua, .d xa, boolA va, .d ya], .ag [boolA ub, .d xb, boolA vb, .d yb], .ag [boolA um, .d xm, boolA vm, .d ym], intA .u64 (p : Int), .tu [intA .u64 (((za * zb) % p : Nat) : Int), J 0], intA .u64 (((za * zb) % p : Nat) : Int), J 0, .ptr 2 2 2, .ag [boolA va, .d ya], intA .u64 (p : Int), intA .u64 (((Qa % (p : Int)).toNat : Nat) : Int), intA .u64 (za : Int), intA .u64 ((((Qa % (p : Int)).toNat) * za : Nat) : Int), intA .u64 (p : Int), intA .u64 (((((Qa % (p : Int)).toNat) * za) % p : Nat) : Int)] ++ us 40, ⟨[.row [intA .i8 na, intA .i8 da, intA .u8 (ka : Int)] 0 .ow none, .row [intA .i8 nb, intA .i8 db, intA .u8 (kb : Int)] 1 .ow none, .row [boolA ua, .d xa, boolA va, .d ya] 2 .ow none, .row [boolA ub, .d xb, boolA vb, .d yb] 3 .ow none], 4⟩⟩) (fun cf => by kernel_rfl) ?_
  refine ev_seq ?_
  refine ev_reg (by kernel_rfl) ?_
  refine rs_up 3 [(98, intA .u64 (za : Int)), (99, intA .u64 (p : Int)), (100, boolA (decide ((za : Int) < (p : Int))))] (fun cf => by kernel_rfl) ?_
  rw [(show decide ((za : Int) < (p : Int)) = true from decide_eq_true (by omega))]
  refine rs_up 13 [(101, Yes), (102, J 0), (103, Yes), (104, Yes), (105, Yes), (106, J 0), (107, Yes), (108, Yes), (109, Yes), (110, intA .u64 (((za + zb) % p : Nat) : Int)), (111, intA .u64 (za : Int)), (112, intA .u64 (zb : Int)), (113, intA .u64 (IntKind.wrap .u64 ((za : Int) + (zb : Int))))] (fun cf => by kernel_rfl) ?_
  rw [addU (a := (za : Int)) (b := (zb : Int)) (A := za) (B := zb) (by rfl) (by rfl) (by omega)]
  refine rs_up 1 [(114, intA .u64 (p : Int))] (fun cf => by kernel_rfl) ?_
  refine rs_cv (fun m9 => binA Try.cx m9 .rem 23 (intA .u64 ((za + zb : Nat) : Int)) (intA .u64 (p : Int))) (some 115) (intA .u64 (((za + zb) % p : Nat) : Int)) (fun cf => by kernel_rfl) (remU_at (A := za + zb) (P := p) (by rfl) (by rfl) (by omega)) ?_
  refine rs_up 1 [(116, boolA ((((za + zb) % p : Nat) : Int) == (((za + zb) % p : Nat) : Int)))] (fun cf => by kernel_rfl) ?_
  rw [(show ((((za + zb) % p : Nat) : Int) == (((za + zb) % p : Nat) : Int)) = true from beq_self_eq_true _)]
  refine rs_up 6 [(117, Yes), (118, Yes), (119, intA .u64 (((za * zb) % p : Nat) : Int)), (120, intA .u64 (za : Int)), (121, intA .u64 (zb : Int)), (122, intA .u64 (IntKind.wrap .u64 ((za : Int) * (zb : Int))))] (fun cf => by kernel_rfl) ?_
  rw [mulU (a := (za : Int)) (b := (zb : Int)) (A := za) (B := zb) (by rfl) (by rfl) (mulp hza hzb hpb)]
  refine rs_up 1 [(123, intA .u64 (p : Int))] (fun cf => by kernel_rfl) ?_
  refine rs_cv (fun m9 => binA Try.cx m9 .rem 23 (intA .u64 ((za * zb : Nat) : Int)) (intA .u64 (p : Int))) (some 124) (intA .u64 (((za * zb) % p : Nat) : Int)) (fun cf => by kernel_rfl) (remU_at (A := za * zb) (P := p) (by rfl) (by rfl) (by omega)) ?_
  refine rs_up 1 [(125, boolA ((((za * zb) % p : Nat) : Int) == (((za * zb) % p : Nat) : Int)))] (fun cf => by kernel_rfl) ?_
  rw [(show ((((za * zb) % p : Nat) : Int) == (((za * zb) % p : Nat) : Int)) = true from beq_self_eq_true _)]
  refine rs_up 6 [(126, Yes), (127, Yes), (128, intA .u64 (((((Qa % (p : Int)).toNat) * za) % p : Nat) : Int)), (129, .ptr 2 2 0), (130, .ag [boolA ua, .d xa]), (131, intA .u64 (p : Int))] (fun cf => by kernel_rfl) ?_
  refine rs_cp 22 [.ag [boolA ua, .d xa], intA .u64 (p : Int)] false (some 132) (intA .u64 (((Pa % (p : Int)).toNat : Nat) : Int)) (by kernel_rfl) (g_residue Ia (by omega) hp hpb) (by kernel_rfl) ?_
  refine rs_up 1 [(133, boolA ((((((Qa % (p : Int)).toNat) * za) % p : Nat) : Int) == (((Pa % (p : Int)).toNat : Nat) : Int)))] (fun cf => by kernel_rfl) ?_
  rw [(show ((((((Qa % (p : Int)).toNat) * za) % p : Nat) : Int) == (((Pa % (p : Int)).toNat : Nat) : Int)) = true from by rw [hback]; exact beq_self_eq_true _)]
  refine rs_all (s1 := ⟨[intA .u32 (n : Int), .ag [intA .i8 na, intA .i8 da, intA .u8 (ka : Int)], .ag [intA .i8 nb, intA .i8 db, intA .u8 (kb : Int)], U, .ptr 0 0 0, .ptr 1 1 0, Yes, Yes, intA .u64 (p : Int), J 0, .ptr 2 2 0, .ptr 3 3 0, intA .u64 (za : Int), J 0, intA .u64 (zb : Int), J 0, intA .u64 (((za + zb) % p : Nat) : Int), J 0, intA .u64 (((za * zb) % p : Nat) : Int), J 0, intA .u64 (((((Qa % (p : Int)).toNat) * za) % p : Nat) : Int), Yes, Yes, No, .tu [intA .u64 (p : Int), J 0], intA .u32 (n : Int), intA .u32 ((n % 2147483647 : Nat) : Int), intA .u64 ((n % 2147483647 : Nat) : Int), .tu [intA .u64 (p : Int), J 0], intA .u64 (p : Int), J 0, .ag [intA .i8 na, intA .i8 da, intA .u8 (ka : Int)], .ag [boolA ua, .d xa, boolA va, .d ya], .ag [intA .i8 nb, intA .i8 db, intA .u8 (kb : Int)], .ag [boolA ub, .d xb, boolA vb, .d yb], .tu [intA .u64 (za : Int), J 0], .ag [boolA ua, .d xa, boolA va, .d ya], intA .u64 (p : Int), .tu [intA .u64 (za : Int), J 0], intA .u64 (za : Int), J 0, .tu [intA .u64 (zb : Int), J 0], .ag [boolA ub, .d xb, boolA vb, .d yb], intA .u64 (p : Int), .tu [intA .u64 (zb : Int), J 0], intA .u64 (zb : Int), J 0, J 0, No, .ptr 2 2 2, .ag [boolA va, .d ya], intA .u64 (p : Int), intA .u64 (((Qa % (p : Int)).toNat : Nat) : Int), No, No, No, J 0, No, No] ++ us 6 ++ [No, No, J 0, No, No, J 0, No, No, U, .tu [intA .u64 (((za + zb) % p : Nat) : Int), J 0], .ag [boolA ua, .d xa, boolA va, .d ya], .ag [boolA ub, .d xb, boolA vb, .d yb], .ag [boolA uo, .d xo, boolA vo, .d yo], intA .u64 (p : Int), .tu [intA .u64 (((za + zb) % p : Nat) : Int), J 0], intA .u64 (((za + zb) % p : Nat) : Int), J 0, .tu [intA .u64 (((za * zb) % p : Nat) : Int), J 0], .ag [boolA ua, .d xa, boolA va, .d ya], .ag [boolA ub, .d xb, boolA vb, .d yb], .ag [boolA um, .d xm, boolA vm, .d ym], intA .u64 (p : Int), .tu [intA .u64 (((za * zb) % p : Nat) : Int), J 0], intA .u64 (((za * zb) % p : Nat) : Int), J 0, .ptr 2 2 2, .ag [boolA va, .d ya], intA .u64 (p : Int), intA .u64 (((Qa % (p : Int)).toNat : Nat) : Int), intA .u64 (za : Int), intA .u64 ((((Qa % (p : Int)).toNat) * za : Nat) : Int), intA .u64 (p : Int), intA .u64 (((((Qa % (p : Int)).toNat) * za) % p : Nat) : Int), intA .u64 (za : Int), intA .u64 (p : Int), Yes, Yes, J 0, Yes, Yes, Yes, J 0, Yes, Yes, Yes, intA .u64 (((za + zb) % p : Nat) : Int), intA .u64 (za : Int), intA .u64 (zb : Int), intA .u64 ((za + zb : Nat) : Int), intA .u64 (p : Int), intA .u64 (((za + zb) % p : Nat) : Int), Yes, Yes, Yes, intA .u64 (((za * zb) % p : Nat) : Int), intA .u64 (za : Int), intA .u64 (zb : Int), intA .u64 ((za * zb : Nat) : Int), intA .u64 (p : Int), intA .u64 (((za * zb) % p : Nat) : Int), Yes, Yes, Yes, intA .u64 (((((Qa % (p : Int)).toNat) * za) % p : Nat) : Int), .ptr 2 2 0, .ag [boolA ua, .d xa], intA .u64 (p : Int), intA .u64 (((Pa % (p : Int)).toNat : Nat) : Int), Yes, Yes, Yes, Yes, Yes], ⟨[.row [intA .i8 na, intA .i8 da, intA .u8 (ka : Int)] 0 .ow none, .row [intA .i8 nb, intA .i8 db, intA .u8 (kb : Int)] 1 .ow none, .row [boolA ua, .d xa, boolA va, .d ya] 2 .ow none, .row [boolA ub, .d xb, boolA vb, .d yb] 3 .ow none], 4⟩⟩) (fun cf => by kernel_rfl) ?_
  refine ev_ret ?_
  refine leaf (r0 := Yes) (r1 := Yes) (.inr rfl) (by kernel_rfl) (by kernel_rfl) ?_
  rfl

theorem l_reduces {n : Nat} (hn : n < 4294967296) {na da nb db : Int} {ka kb : Nat} (a1 : -128 ≤ na) (a2 : na ≤ 127) (a3 : -128 ≤ da) (a4 : da ≤ 127) (a5 : ka ≤ 255) (b1 : -128 ≤ nb) (b2 : nb ≤ 127) (b3 : -128 ≤ db) (b4 : db ≤ 127) (b5 : kb ≤ 255) : Gets Try.cx 6 [intA .u32 (n : Int), .ag [intA .i8 na, intA .i8 da, intA .u8 (ka : Int)], .ag [intA .i8 nb, intA .i8 db, intA .u8 (kb : Int)]] Yes := by
  obtain ⟨p, _, hpr, gn⟩ := g_next (n := n % 2147483647) (Nat.mod_lt _ (by decide))
  obtain ⟨⟨⟨ua, xa⟩, ⟨va, ya⟩⟩, ⟨Na, Ea, la, qa, _, Ia, La, Ga, Ma⟩, ga⟩ := g_rmade a1 a2 a3 a4 a5
  obtain ⟨⟨⟨ub, xb⟩, ⟨vb, yb⟩⟩, ⟨Nb, Eb, lb, qb, _, Ib, Lb, Gb, Mb⟩, gb⟩ := g_rmade b1 b2 b3 b4 b5
  by_cases ha : (p : Int) ∣ ratD Na Ea <;> by_cases hb : (p : Int) ∣ ratD Nb Eb
  · exact l_case_zz hn hpr gn Ia La Ga Ma ga Ib Lb Gb Mb gb ha hb
  · exact l_case_zn hn hpr gn Ia La Ga Ma ga Ib Lb Gb Mb gb ha hb
  · exact l_case_nz hn hpr gn Ia La Ga Ma ga Ib Lb Gb Mb gb ha hb
  · exact l_case_nn hn hpr gn Ia La Ga Ma ga Ib Lb Gb Mb gb ha hb

end Go.Proofs.Ytgkjdfojogemhaa.W
