/-
  The program: the second root of a small number. Made by program. Conditions: none.
-/
import Derived.Test.YtgkjdfojogemhaaWsc
set_option maxRecDepth 100000
set_option maxHeartbeats 20000000
set_option linter.unusedSimpArgs false
set_option linter.unusedVariables false
namespace Go.Proofs.Ytgkjdfojogemhaa.W
open Go.Am
def lenN (n : Nat) : Nat := if n = 0 then 0 else Nat.log2 n + 1
theorem p_nat2 : Gets Try.cx 68 [intA .u64 2] (.d (.sl true 1 [.v (.int .u32 2)])) := gets_run 60 (by kernel_rfl)
theorem p_len32a : (List.range 128).map (fun n : Nat => match run Try.cx 30 98 [intA .u32 (n : Int)] ⟨[], 0⟩ with | some (r0, m') => snapR m' r0 | none => none) = (List.range 128).map (fun n : Nat => some (J (lenN n : Int))) := by kernel_rfl
theorem p_len32 {n : Nat} (h : n < 128) : Gets Try.cx 98 [intA .u32 (n : Int)] (J (lenN n : Int)) :=
  gets_run 30 (List.map_inj_left.mp p_len32a n (List.mem_range.mpr h))
theorem p_pow2 {e : Nat} (h1 : 1 ≤ e) (h2 : e ≤ 4) : ∃ y, Ws [2 ^ e] y ∧ Gets Try.cx 77 [.d (.sl true 1 [.v (.int .u32 2)]), J (e : Int)] (.d y) := by
  have h : e = 1 ∨ e = 2 ∨ e = 3 ∨ e = 4 := by omega
  rcases h with rfl | rfl | rfl | rfl
  · exact ⟨_, ws_sl true [2], gets_run 60 (by kernel_rfl)⟩
  · exact ⟨_, ws_sl true [4], gets_run 60 (by kernel_rfl)⟩
  · exact ⟨_, ws_sl true [8], gets_run 60 (by kernel_rfl)⟩
  · exact ⟨_, ws_sl true [16], gets_run 60 (by kernel_rfl)⟩
theorem len_factsA : (List.range 128).all (fun n => decide ((lenN n ≤ 2 → n < 4) ∧ lenN n ≤ 7 ∧ (3 ≤ lenN n → 4 ≤ n ∧ 1 ≤ (lenN n + 2 - 1) / 2 ∧ (lenN n + 2 - 1) / 2 ≤ 4 ∧ n < (2 ^ ((lenN n + 2 - 1) / 2) + 1) * (2 ^ ((lenN n + 2 - 1) / 2) + 1) ∧ 2 ^ ((lenN n + 2 - 1) / 2) ≤ 16 ∧ 1 ≤ 2 ^ ((lenN n + 2 - 1) / 2)))) = true := by kernel_rfl
theorem len_facts {n : Nat} (h : n < 128) : (lenN n ≤ 2 → n < 4) ∧ lenN n ≤ 7 ∧ (3 ≤ lenN n → 4 ≤ n ∧ 1 ≤ (lenN n + 2 - 1) / 2 ∧ (lenN n + 2 - 1) / 2 ≤ 4 ∧ n < (2 ^ ((lenN n + 2 - 1) / 2) + 1) * (2 ^ ((lenN n + 2 - 1) / 2) + 1) ∧ 2 ^ ((lenN n + 2 - 1) / 2) ≤ 16 ∧ 1 ≤ 2 ^ ((lenN n + 2 - 1) / 2)) :=
  of_decide_eq_true (List.all_eq_true.mp len_factsA n (List.mem_range.mpr h))
theorem one_word {l : List Nat} (h : Nrm l) (h0 : 0 < val l) (h1 : val l < 4294967296) : l.length = 1 := by
  have h2 : l.length ≤ 1 := nrm_len h (by simpa using h1)
  have h3 := len_pos_iff h
  omega
theorem newton1 {n R : Nat} (hR : 0 < R) (h : R ≤ (R + n / R) / 2) : R * R ≤ n := (Nat.le_div_iff_mul_le hR).mp (by omega)
theorem amgm (a b : Nat) : 4 * (a * b) ≤ (a + b) * (a + b) := by
  rcases Nat.le_total a b with h | h
  · obtain ⟨d, rfl⟩ := Nat.exists_eq_add_of_le h
    simp only [Nat.mul_add, Nat.add_mul, Nat.mul_comm d a]
    omega
  · obtain ⟨d, rfl⟩ := Nat.exists_eq_add_of_le h
    simp only [Nat.mul_add, Nat.add_mul, Nat.mul_comm d b]
    omega
theorem newton2 {n R : Nat} (hR : 0 < R) : n < ((R + n / R) / 2 + 1) * ((R + n / R) / 2 + 1) := by
  have h1 : n < R * (n / R + 1) := Nat.lt_mul_div_succ n hR
  have h2 := amgm R (n / R + 1)
  have h3 : R + (n / R + 1) ≤ 2 * ((R + n / R) / 2 + 1) := by omega
  have h4 := Nat.mul_le_mul h3 h3
  have h5 : 2 * ((R + n / R) / 2 + 1) * (2 * ((R + n / R) / 2 + 1)) = 4 * (((R + n / R) / 2 + 1) * ((R + n / R) / 2 + 1)) := by
    rw [Nat.mul_assoc, Nat.mul_left_comm _ 2, ← Nat.mul_assoc]
  omega
theorem p_bits {n : Nat} {x : D} {l : List Nat} (h : Iv (n : Int) false x l) (hn : n < 128) : Gets Try.cx 76 [.ag [No, .d x]] (J (lenN n : Int)) := by
  have hv : n = val l := by have := h.2.2.2.1; simp only [cond_false] at this; omega
  have hl1 : l.length ≤ 1 := nrm_len h.2.2.1 (by omega)
  have hlast : l.getD (l.length - 1) 0 < 128 := by
    by_cases h1 : l.length = 1
    · rw [h1, ← val_one h1]; omega
    · rw [getD_out (by omega)]; omega
  refine gets_of (fn := Try.f76) (by kernel_rfl) rfl ?_
  show EvK _ _ _ ⟨[.ag [No, .d x]] ++ us 19, ⟨[], 0⟩⟩ _
  refine ev_seq ?_
  refine ev_reg (by kernel_rfl) ?_
  refine rs_all (s1 := ⟨[.ag [No, .d x], .ptr 0 0 0, J 0] ++ us 17, ⟨[.row [No, .d x] 0 .ow none], 1⟩⟩) (fun cf => by kernel_rfl) ?_
  refine ev_seq ?_
  refine ev_reg (by kernel_rfl) ?_
  refine rs_up 2 [(4, .ptr 0 0 1), (5, .d x)] (fun cf => by kernel_rfl) ?_
  refine rs_cl (fun m9 => lenA Try.cx 32 m9 (.d x)) (some 6) (l.length) (fun cf => by kernel_rfl) (len_ws h.1) ?_
  refine rs_alu [(3, J (l.length : Int))] (fun cf => by kernel_rfl) ?_
  refine ev_seq ?_
  refine ev_seq ?_
  refine ev_reg (by kernel_rfl) ?_
  refine rs_alu [(7, J (l.length : Int)), (8, boolA ((l.length : Int) == 0))] (fun cf => by kernel_rfl) ?_
  rcases hb1 : (((l.length : Int) == 0) : Bool) with _ | _
  ·
    have hb1' := beq_no hb1
    refine ev_false (by kernel_rfl) ?_
    refine ev_skip ?_
    refine ev_seq ?_
    refine ev_reg (by kernel_rfl) ?_
    refine rs_up 2 [(9, J (l.length : Int)), (10, J (IntKind.wrap .i64 ((l.length : Int) - 1)))] (fun cf => by kernel_rfl) ?_
    rw [subI (a := (l.length : Int)) (b := 1) (A := l.length) (B := 1) (by rfl) (by rfl) (by omega)]
    refine rs_up 1 [(11, J (IntKind.wrap .i64 (32 * ((l.length - 1 : Nat) : Int))))] (fun cf => by kernel_rfl) ?_
    rw [mulI (a := 32) (b := ((l.length - 1 : Nat) : Int)) (A := 32) (B := l.length - 1) (by rfl) (by rfl) (by omega)]
    refine rs_up 4 [(12, .ptr 0 0 1), (13, .d x), (14, J (l.length : Int)), (15, J (IntKind.wrap .i64 ((l.length : Int) - 1)))] (fun cf => by kernel_rfl) ?_
    rw [subI (a := (l.length : Int)) (b := 1) (A := l.length) (B := 1) (by rfl) (by rfl) (by omega)]
    refine rs_cv (fun m9 => indexAddrA Try.cx 32 m9 (.d x) (J ((l.length - 1 : Nat) : Int))) (some 16) (.rp [.v (.int .u32 ((l.getD (l.length - 1) 0 : Nat) : Int))]) (fun cf => by kernel_rfl) (idx_ws (k := l.length - 1) h.1 (by rfl) (by omega)) ?_
    refine rs_up 1 [(17, intA .u32 ((l.getD (l.length - 1) 0 : Nat) : Int))] (fun cf => by kernel_rfl) ?_
    refine rs_cp 98 [intA .u32 ((l.getD (l.length - 1) 0 : Nat) : Int)] false (some 18) (J ((lenN (l.getD (l.length - 1) 0) : Nat) : Int)) (by kernel_rfl) (p_len32 hlast) (by kernel_rfl) ?_
    refine rs_up 1 [(19, J (IntKind.wrap .i64 (((32 * (l.length - 1) : Nat) : Int) + ((lenN (l.getD (l.length - 1) 0) : Nat) : Int))))] (fun cf => by kernel_rfl) ?_
    rw [addI (a := ((32 * (l.length - 1) : Nat) : Int)) (b := ((lenN (l.getD (l.length - 1) 0) : Nat) : Int)) (A := 32 * (l.length - 1)) (B := lenN (l.getD (l.length - 1) 0)) (by rfl) (by rfl) (by have := (len_facts hlast).2.1; omega)]
    refine rs_all (s1 := ⟨[.ag [No, .d x], .ptr 0 0 0, J (((32 * (l.length - 1)) + (lenN (l.getD (l.length - 1) 0)) : Nat) : Int), J (l.length : Int), .ptr 0 0 1, .d x, J (l.length : Int), J (l.length : Int), No, J (l.length : Int), J ((l.length - 1 : Nat) : Int), J ((32 * (l.length - 1) : Nat) : Int), .ptr 0 0 1, .d x, J (l.length : Int), J ((l.length - 1 : Nat) : Int), .rp [.v (.int .u32 ((l.getD (l.length - 1) 0 : Nat) : Int))], intA .u32 ((l.getD (l.length - 1) 0 : Nat) : Int), J ((lenN (l.getD (l.length - 1) 0) : Nat) : Int), J (((32 * (l.length - 1)) + (lenN (l.getD (l.length - 1) 0)) : Nat) : Int)], ⟨[.row [No, .d x] 0 .ow none], 1⟩⟩) (fun cf => by kernel_rfl) ?_
    refine ev_ret ?_
    refine leaf (r0 := J (((32 * (l.length - 1)) + (lenN (l.getD (l.length - 1) 0)) : Nat) : Int)) (r1 := J (((32 * (l.length - 1)) + (lenN (l.getD (l.length - 1) 0)) : Nat) : Int)) (.inr rfl) (by kernel_rfl) (by kernel_rfl) ?_
    have e : (32 * (l.length - 1)) + (lenN (l.getD (l.length - 1) 0)) = lenN n := by
      have h1 : l.length = 1 := by omega
      rw [h1, hv, val_one h1]
      simp
    exact congrArg (fun q : Nat => J (q : Int)) e
  ·
    have hb1' := beq_yes hb1
    refine ev_true (by kernel_rfl) ?_
    refine ev_seq ?_
    refine ev_reg (by kernel_rfl) ?_
    refine rs_all (s1 := ⟨[.ag [No, .d x], .ptr 0 0 0, J 0, J (l.length : Int), .ptr 0 0 1, .d x, J (l.length : Int), J (l.length : Int), Yes] ++ us 11, ⟨[.row [No, .d x] 0 .ow none], 1⟩⟩) (fun cf => by kernel_rfl) ?_
    refine ev_ret ?_
    refine leaf (r0 := J 0) (r1 := J 0) (.inr rfl) (by kernel_rfl) (by kernel_rfl) ?_
    have h0 : n = 0 := by rw [hv, (len_pos_iff h.2.2.1).mp (by omega)]
    subst h0
    rfl
theorem p_pow1 {l : List Nat} {x : D} (hx : Ws l x) (ha : Ok l) (hl : l.length < 50000000) : ∃ res : D, (fun y => Ws (timesL (wordsL 1) l) y) res ∧ Gets Try.cx 77 [.d x, J 1] ((fun y => .d y) res) := by
  have hw1 := words_len (n := 1) (by omega)
  refine gets_some (fn := Try.f77) (fun y => Ws (timesL (wordsL 1) l) y) (fun y => .d y) (by kernel_rfl) rfl ?_
  show EvK _ _ _ ⟨[.d x, J 1] ++ us 29, ⟨[], 0⟩⟩ _
  refine ev_seq ?_
  refine ev_reg (by kernel_rfl) ?_
  refine rs_all (s1 := ⟨[.d x, J 1, U, U, .d (.v (.slice none 0 0))] ++ us 26, ⟨[], 0⟩⟩) (fun cf => by kernel_rfl) ?_
  refine ev_seq ?_
  refine ev_reg (by kernel_rfl) ?_
  obtain ⟨y1, hy1, gy1⟩ := g_natural (n := 1) (by omega)
  refine rs_cp 68 [intA .u64 1] false (some 7) (.d y1) (by kernel_rfl) (gy1) (by kernel_rfl) ?_
  refine rs_alu [(5, .d y1)] (fun cf => by kernel_rfl) ?_
  refine ev_seq ?_
  refine ev_seq ?_
  refine ev_reg (by kernel_rfl) ?_
  refine rs_up 2 [(8, J 1), (9, intA .u64 1)] (fun cf => by kernel_rfl) ?_
  refine rs_cp 99 [intA .u64 1] false (some 10) (J 1) (by kernel_rfl) (gets_run 40 (by kernel_rfl)) (by kernel_rfl) ?_
  refine rs_alu [(11, J 0)] (fun cf => by kernel_rfl) ?_
  refine ev_block ?_
  refine ev_loop ?_
  refine ev_seq ?_
  refine ev_reg (by kernel_rfl) ?_
  refine rs_alu [(12, Yes)] (fun cf => by kernel_rfl) ?_
  refine ev_seq ?_
  refine ev_true (by kernel_rfl) ?_
  refine ev_skip ?_
  refine ev_seq ?_
  refine ev_block ?_
  refine ev_seq ?_
  refine ev_reg (by kernel_rfl) ?_
  refine rs_alu [(6, J 0), (13, J 0)] (fun cf => by kernel_rfl) ?_
  refine ev_seq ?_
  refine ev_seq ?_
  refine ev_reg (by kernel_rfl) ?_
  refine rs_alu [(14, J 1), (15, J 0), (16, J 1), (17, J 1), (18, Yes)] (fun cf => by kernel_rfl) ?_
  refine ev_true (by kernel_rfl) ?_
  refine ev_reg (by kernel_rfl) ?_
  refine rs_up 2 [(19, .d y1), (20, .d x)] (fun cf => by kernel_rfl) ?_
  obtain ⟨y2, hy2, gy2⟩ := p_mul hy1 hx (ok_words (by omega)) ha (by omega) (by omega)
  refine rs_cp 73 [.d y1, .d x] false (some 21) (.d y2) (by kernel_rfl) (gy2) (by kernel_rfl) ?_
  refine rs_all (s1 := ⟨[.d x, J 1, U, U, .d (.v (.slice none 0 0)), .d y2, J 0, .d y1, J 1, intA .u64 1, J 1, J 0, Yes, J 0, J 1, J 0, J 1, J 1, Yes, .d y1, .d x, .d y2] ++ us 9, ⟨[], 0⟩⟩) (fun cf => by kernel_rfl) ?_
  refine ev_seq ?_
  refine ev_reg (by kernel_rfl) ?_
  refine rs_alu [(22, J 1), (23, J 0), (24, J 1), (25, No)] (fun cf => by kernel_rfl) ?_
  refine ev_false (by kernel_rfl) ?_
  refine ev_skip ?_
  refine ev_reg (by kernel_rfl) ?_
  refine rs_alu [(11, J 1), (29, J 1)] (fun cf => by kernel_rfl) ?_
  refine ev_loop ?_
  refine ev_seq ?_
  refine ev_reg (by kernel_rfl) ?_
  refine rs_alu [(12, No)] (fun cf => by kernel_rfl) ?_
  refine ev_seq ?_
  refine ev_false (by kernel_rfl) ?_
  refine ev_exit ?_
  refine ev_seq ?_
  refine ev_reg (by kernel_rfl) ?_
  refine rs_all (s1 := ⟨[.d x, J 1, U, U, .d y2, .d y2, J 0, .d y1, J 1, intA .u64 1, J 1, J 1, No, J 0, J 1, J 0, J 1, J 1, Yes, .d y1, .d x, .d y2, J 1, J 0, J 1, No] ++ us 3 ++ [J 1, .d y2], ⟨[], 0⟩⟩) (fun cf => by kernel_rfl) ?_
  refine ev_ret ?_
  exact ⟨y2, hy2, .inr rfl, .d y2, by kernel_rfl, by kernel_rfl⟩
noncomputable def prootC : Code := (lft (lft (rgt (rgt (rgt (rgt (rgt (Try.f54.body.getD .skip))))))))
theorem proot_round {K : Out → St → Prop} {l q : List Nat} {x y : D} {n : Nat} (x12 x13 x14 x15 x16 x17 x19 x20 x21 x22 x23 x24 x30 x31 x32 x33 x34 x35 x36 x37 x38 : AV) (hx : Ws l x) (ha : Ok l) (na : Nrm l) (hv : n = val l) (hn : n < 128) (hll : l.length ≤ 1) (hy : Ws q y) (hb : Ok q) (nb : Nrm q) (hR : 1 ≤ val q) (hR2 : val q ≤ 16) (z8 z9 z10 z11 z39 z40 z41 z42 z43 z44 z45 z46 z47 z48 z49 z50 z51 z52 z53 z54 z55 z56 z57 z58 z59 z60 z61 z62 z63 z64 z65 z66 z67 z68 z69 : AV) (h0 : val q ≤ (val q + n / val q) / 2 → ∀ (g : D), Ws (trimL q) g → ∀ z8 z9 z10 z11 z39 z40 z41 z42 z43 z44 z45 z46 z47 z48 z49 z50 z51 z52 z53 z54 z55 z56 z57 z58 z59 z60 z61 z62 z63 z64 z65 z66 z67 z68 z69, K .ret ⟨[.ag [No, .d x], J 2, .ptr 0 0 0, U, .ptr 1 1 0, J 0, .d x, .d y, z8, z9, z10, z11, x12, x13, x14, x15, x16, x17, U, x19, x20, x21, x22, x23, x24] ++ us 5 ++ [x30, x31, x32, x33, x34, x35, x36, x37, x38, z39, z40, z41, z42, z43, z44, z45, z46, z47, z48, z49, z50, z51, z52, z53, z54, z55, z56, z57, z58, z59, z60, z61, z62, z63, z64, z65, z66, z67, z68, z69], ⟨[.row [No, .d x] 0 .ow none, .row [boolA (false && decide ((((trimL q).length : Nat) : Int) > 0)), .d g] 1 .ow none], 2⟩⟩) (h1 : ∀ (le : List Nat) (z : D), (val q + n / val q) / 2 < val q → Ws le z → Ok le → Nrm le → val le = (val q + n / val q) / 2 → ∀ z8 z9 z10 z11 z39 z40 z41 z42 z43 z44 z45 z46 z47 z48 z49 z50 z51 z52 z53 z54 z55 z56 z57 z58 z59 z60 z61 z62 z63 z64 z65 z66 z67 z68 z69, EvK Try.cx 54 (.loop prootC) ⟨[.ag [No, .d x], J 2, .ptr 0 0 0, U, .ptr 1 1 0, J 0, .d x, .d z, z8, z9, z10, z11, x12, x13, x14, x15, x16, x17, U, x19, x20, x21, x22, x23, x24] ++ us 5 ++ [x30, x31, x32, x33, x34, x35, x36, x37, x38, z39, z40, z41, z42, z43, z44, z45, z46, z47, z48, z49, z50, z51, z52, z53, z54, z55, z56, z57, z58, z59, z60, z61, z62, z63, z64, z65, z66, z67, z68, z69], ⟨[.row [No, .d x] 0 .ow none, .row [No, .d (.v (.slice none 0 0))] 1 .ow none], 2⟩⟩ K) : EvK Try.cx 54 (.loop prootC) ⟨[.ag [No, .d x], J 2, .ptr 0 0 0, U, .ptr 1 1 0, J 0, .d x, .d y, z8, z9, z10, z11, x12, x13, x14, x15, x16, x17, U, x19, x20, x21, x22, x23, x24] ++ us 5 ++ [x30, x31, x32, x33, x34, x35, x36, x37, x38, z39, z40, z41, z42, z43, z44, z45, z46, z47, z48, z49, z50, z51, z52, z53, z54, z55, z56, z57, z58, z59, z60, z61, z62, z63, z64, z65, z66, z67, z68, z69], ⟨[.row [No, .d x] 0 .ow none, .row [No, .d (.v (.slice none 0 0))] 1 .ow none], 2⟩⟩ K := by
  have hw1 := words_len (n := 1) (by omega)
  have hq1 := one_word nb (by omega) (by omega)
  have hp1 : Ok (timesL (wordsL 1) q) := timesL_ok (ok_words (by omega)) hb
  have hp2 : Nrm (timesL (wordsL 1) q) := timesL_nrm _ _
  have hpv : val (timesL (wordsL 1) q) = val q := by rw [timesL_val, val_words, Nat.one_mul]
  have hp3 : (timesL (wordsL 1) q).length = 1 := one_word hp2 (by omega) (by omega)
  refine ev_loop ?_
  refine ev_block ?_
  refine ev_seq ?_
  refine ev_reg (by kernel_rfl) ?_
  refine rs_up 4 [(40, .d x), (41, .d y), (42, J 2), (43, J 1)] (fun cf => by kernel_rfl) ?_
  obtain ⟨y1, hy1, gy1⟩ := p_pow1 hy hb (by omega)
  refine rs_cp 77 [.d y, J 1] false (some 44) (.d y1) (by kernel_rfl) (gy1) (by kernel_rfl) ?_
  obtain ⟨⟨qd, rd⟩, ⟨lq, lr, w1, w2, o1, o2, n1, n2, v1, v2⟩, gdv⟩ := p_div1 hx hy1 ha hp1 na hp2 hp3 (by omega)
  rw [← val_one hp3, hpv, ← hv] at v1
  have hlq : lq.length ≤ 1 := nrm_len n1 (by rw [v1]; exact Nat.lt_of_le_of_lt (Nat.div_le_self _ _) (by omega))
  have hT := timesL_len q (wordsL 1)
  have hA := addL_len (timesL q (wordsL 1)) lq
  refine rs_cp 75 [.d x, .d y1] false (some 45) (.tu [.d qd, .d rd]) (by kernel_rfl) (gdv) (by kernel_rfl) ?_
  refine rs_alu [(8, .d qd), (9, .d rd), (39, .tu [.d qd, .d rd]), (46, .d qd), (47, .d rd)] (fun cf => by kernel_rfl) ?_
  refine ev_seq ?_
  refine ev_reg (by kernel_rfl) ?_
  refine rs_up 4 [(49, .d y), (50, J 2), (51, J 1), (52, intA .u64 1)] (fun cf => by kernel_rfl) ?_
  obtain ⟨y2, hy2, gy2⟩ := g_natural (n := 1) (by omega)
  refine rs_cp 68 [intA .u64 1] false (some 53) (.d y2) (by kernel_rfl) (gy2) (by kernel_rfl) ?_
  obtain ⟨y3, hy3, gy3⟩ := p_mul hy hy2 hb (ok_words (by omega)) (by omega) (by omega)
  refine rs_cp 73 [.d y, .d y2] false (some 54) (.d y3) (by kernel_rfl) (gy3) (by kernel_rfl) ?_
  refine rs_up 1 [(55, .d qd)] (fun cf => by kernel_rfl) ?_
  obtain ⟨y4, hy4, gy4⟩ := p_add hy3 w1 (timesL_ok hb (ok_words (by omega))) o1 (by omega) (by omega)
  refine rs_cp 70 [.d y3, .d qd] false (some 56) (.d y4) (by kernel_rfl) (gy4) (by kernel_rfl) ?_
  refine rs_up 2 [(57, J 2), (58, intA .u64 2)] (fun cf => by kernel_rfl) ?_
  refine rs_cp 68 [intA .u64 2] false (some 59) (.d (.sl true 1 [.v (.int .u32 2)])) (by kernel_rfl) (p_nat2) (by kernel_rfl) ?_
  obtain ⟨⟨qe, re⟩, ⟨le, lf, u1, u2, i1, i2, j1, j2, e1, e2⟩, gdw⟩ := p_div1 (b := [2]) hy4 (ws_sl true [2]) (addL_ok _ _) (ok_cons (by decide) ok_nil) (addL_nrm _ _) (.inr (by decide)) rfl (by omega)
  rw [addL_val (timesL_ok hb (ok_words (by omega))) o1, timesL_val, val_words, v1, Nat.mul_one] at e1
  have e1 : val le = (val q + n / val q) / 2 := e1
  have hc := cmpL_val i1 hb j1 nb
  have hle : le.length ≤ 1 := nrm_len j1 (by rw [e1]; have := Nat.div_le_self n (val q); omega)
  refine rs_cp 75 [.d y4, .d (.sl true 1 [.v (.int .u32 2)])] false (some 60) (.tu [.d qe, .d re]) (by kernel_rfl) (gdw) (by kernel_rfl) ?_
  refine rs_alu [(10, .d qe), (11, .d re), (48, .tu [.d qe, .d re]), (61, .d qe), (62, .d re)] (fun cf => by kernel_rfl) ?_
  refine ev_seq ?_
  refine ev_seq ?_
  refine ev_reg (by kernel_rfl) ?_
  refine rs_up 2 [(63, .d qe), (64, .d y)] (fun cf => by kernel_rfl) ?_
  refine rs_cp 71 [.d qe, .d y] false (some 65) (J (cmpL le q)) (by kernel_rfl) (p_cmp u1 hy (by omega)) (by kernel_rfl) ?_
  refine rs_alu [(66, boolA (decide ((cmpL le q) ≥ 0)))] (fun cf => by kernel_rfl) ?_
  rcases hb5 : ((decide ((cmpL le q) ≥ 0)) : Bool) with _ | _
  ·
    have hb5' := of_decide_eq_false hb5
    refine ev_false (by kernel_rfl) ?_
    refine ev_skip ?_
    refine ev_reg (by kernel_rfl) ?_
    refine rs_all (s1 := ⟨[.ag [No, .d x], J 2, .ptr 0 0 0, U, .ptr 1 1 0, J 0, .d x, .d qe, .d qd, .d rd, .d qe, .d re, x12, x13, x14, x15, x16, x17, U, x19, x20, x21, x22, x23, x24] ++ us 5 ++ [x30, x31, x32, x33, x34, x35, x36, x37, x38, .tu [.d qd, .d rd], .d x, .d y, J 2, J 1, .d y1, .tu [.d qd, .d rd], .d qd, .d rd, .tu [.d qe, .d re], .d y, J 2, J 1, intA .u64 1, .d y2, .d y3, .d qd, .d y4, J 2, intA .u64 2, .d (.sl true 1 [.v (.int .u32 2)]), .tu [.d qe, .d re], .d qe, .d re, .d qe, .d y, J (cmpL le q), No, z67, z68, .d qe], ⟨[.row [No, .d x] 0 .ow none, .row [No, .d (.v (.slice none 0 0))] 1 .ow none], 2⟩⟩) (fun cf => by kernel_rfl) ?_
    exact h1 le qe (by rcases hc with h | h | h <;> simp only [h.1] at * <;> omega) u1 i1 j1 e1 _ _ _ _ _ _ _ _ _ _ _ _ _ _ _ _ _ _ _ _ _ _ _ _ _ _ _ _ _ _ _ _ _ _ _
  ·
    have hb5' := of_decide_eq_true hb5
    refine ev_true (by kernel_rfl) ?_
    refine ev_seq ?_
    refine ev_reg (by kernel_rfl) ?_
    refine rs_up 1 [(67, .d y)] (fun cf => by kernel_rfl) ?_
    obtain ⟨y6, hy6, gy6⟩ := g_signed (s := false) hy (by omega)
    refine rs_cp 69 [.d y, No] false (some 68) (.ag [boolA (false && decide ((((trimL q).length : Nat) : Int) > 0)), .d y6]) (by kernel_rfl) (gy6) (by kernel_rfl) ?_
    refine rs_cu (fun m9 => storeA Try.cx 34 m9 (.ptr 1 1 0) (.ag [boolA (false && decide ((((trimL q).length : Nat) : Int) > 0)), .d y6])) none ⟨[.row [No, .d x] 0 .ow none, .row [boolA (false && decide ((((trimL q).length : Nat) : Int) > 0)), .d y6] 1 .ow none], 2⟩ (fun cf => by kernel_rfl) (store_int hy6 rfl) ?_
    refine rs_all (s1 := ⟨[.ag [No, .d x], J 2, .ptr 0 0 0, U, .ptr 1 1 0, J 0, .d x, .d y, .d qd, .d rd, .d qe, .d re, x12, x13, x14, x15, x16, x17, U, x19, x20, x21, x22, x23, x24] ++ us 5 ++ [x30, x31, x32, x33, x34, x35, x36, x37, x38, .tu [.d qd, .d rd], .d x, .d y, J 2, J 1, .d y1, .tu [.d qd, .d rd], .d qd, .d rd, .tu [.d qe, .d re], .d y, J 2, J 1, intA .u64 1, .d y2, .d y3, .d qd, .d y4, J 2, intA .u64 2, .d (.sl true 1 [.v (.int .u32 2)]), .tu [.d qe, .d re], .d qe, .d re, .d qe, .d y, J (cmpL le q), Yes, .d y, .ag [boolA (false && decide ((((trimL q).length : Nat) : Int) > 0)), .d y6], z69], ⟨[.row [No, .d x] 0 .ow none, .row [boolA (false && decide ((((trimL q).length : Nat) : Int) > 0)), .d y6] 1 .ow none], 2⟩⟩) (fun cf => by kernel_rfl) ?_
    refine ev_ret ?_
    exact h0 (by rcases hc with h | h | h <;> simp only [h.1] at * <;> omega) _ hy6 _ _ _ _ _ _ _ _ _ _ _ _ _ _ _ _ _ _ _ _ _ _ _ _ _ _ _ _ _ _ _ _ _ _ _
theorem proot_loop {K : Out → St → Prop} {l : List Nat} {x : D} {n : Nat} (x12 x13 x14 x15 x16 x17 x19 x20 x21 x22 x23 x24 x30 x31 x32 x33 x34 x35 x36 x37 x38 : AV) (hx : Ws l x) (ha : Ok l) (na : Nrm l) (hv : n = val l) (hn : n < 128) (hll : l.length ≤ 1) (hn4 : 4 ≤ n) : ∀ (k : Nat) (q : List Nat) (y : D) (z8 z9 z10 z11 z39 z40 z41 z42 z43 z44 z45 z46 z47 z48 z49 z50 z51 z52 z53 z54 z55 z56 z57 z58 z59 z60 z61 z62 z63 z64 z65 z66 z67 z68 z69 : AV) (hk : val q < k) (hy : Ws q y) (hb : Ok q) (nb : Nrm q) (hR : 1 ≤ val q) (hR2 : val q ≤ 16) (hlt : n < (val q + 1) * (val q + 1))
    (h : ∀ (lz : List Nat) (z g : D) (z8 z9 z10 z11 z39 z40 z41 z42 z43 z44 z45 z46 z47 z48 z49 z50 z51 z52 z53 z54 z55 z56 z57 z58 z59 z60 z61 z62 z63 z64 z65 z66 z67 z68 z69 : AV), Ok lz → lz.length ≤ 1 → val lz * val lz ≤ n → n < (val lz + 1) * (val lz + 1) → Ws (trimL lz) g → K .ret ⟨[.ag [No, .d x], J 2, .ptr 0 0 0, U, .ptr 1 1 0, J 0, .d x, .d z, z8, z9, z10, z11, x12, x13, x14, x15, x16, x17, U, x19, x20, x21, x22, x23, x24] ++ us 5 ++ [x30, x31, x32, x33, x34, x35, x36, x37, x38, z39, z40, z41, z42, z43, z44, z45, z46, z47, z48, z49, z50, z51, z52, z53, z54, z55, z56, z57, z58, z59, z60, z61, z62, z63, z64, z65, z66, z67, z68, z69], ⟨[.row [No, .d x] 0 .ow none, .row [boolA (false && decide ((((trimL lz).length : Nat) : Int) > 0)), .d g] 1 .ow none], 2⟩⟩), EvK Try.cx 54 (.loop prootC) ⟨[.ag [No, .d x], J 2, .ptr 0 0 0, U, .ptr 1 1 0, J 0, .d x, .d y, z8, z9, z10, z11, x12, x13, x14, x15, x16, x17, U, x19, x20, x21, x22, x23, x24] ++ us 5 ++ [x30, x31, x32, x33, x34, x35, x36, x37, x38, z39, z40, z41, z42, z43, z44, z45, z46, z47, z48, z49, z50, z51, z52, z53, z54, z55, z56, z57, z58, z59, z60, z61, z62, z63, z64, z65, z66, z67, z68, z69], ⟨[.row [No, .d x] 0 .ow none, .row [No, .d (.v (.slice none 0 0))] 1 .ow none], 2⟩⟩ K
  | 0, q, y, z8, z9, z10, z11, z39, z40, z41, z42, z43, z44, z45, z46, z47, z48, z49, z50, z51, z52, z53, z54, z55, z56, z57, z58, z59, z60, z61, z62, z63, z64, z65, z66, z67, z68, z69, hk, _, _, _, _, _, _, _ => absurd hk (Nat.not_lt_zero _)
  | k + 1, q, y, z8, z9, z10, z11, z39, z40, z41, z42, z43, z44, z45, z46, z47, z48, z49, z50, z51, z52, z53, z54, z55, z56, z57, z58, z59, z60, z61, z62, z63, z64, z65, z66, z67, z68, z69, hk, hy, hb, nb, hR, hR2, hlt, h => by
    refine proot_round x12 x13 x14 x15 x16 x17 x19 x20 x21 x22 x23 x24 x30 x31 x32 x33 x34 x35 x36 x37 x38 hx ha na hv hn hll hy hb nb hR hR2 z8 z9 z10 z11 z39 z40 z41 z42 z43 z44 z45 z46 z47 z48 z49 z50 z51 z52 z53 z54 z55 z56 z57 z58 z59 z60 z61 z62 z63 z64 z65 z66 z67 z68 z69 (fun h0 g hg z8 z9 z10 z11 z39 z40 z41 z42 z43 z44 z45 z46 z47 z48 z49 z50 z51 z52 z53 z54 z55 z56 z57 z58 z59 z60 z61 z62 z63 z64 z65 z66 z67 z68 z69 => ?_) fun le z h1 hz oz nz vz z8 z9 z10 z11 z39 z40 z41 z42 z43 z44 z45 z46 z47 z48 z49 z50 z51 z52 z53 z54 z55 z56 z57 z58 z59 z60 z61 z62 z63 z64 z65 z66 z67 z68 z69 => ?_
    · exact h q y g z8 z9 z10 z11 z39 z40 z41 z42 z43 z44 z45 z46 z47 z48 z49 z50 z51 z52 z53 z54 z55 z56 z57 z58 z59 z60 z61 z62 z63 z64 z65 z66 z67 z68 z69 hb (Nat.le_of_eq (one_word nb (by omega) (by omega))) (newton1 (by omega) h0) hlt hg
    · have h2 : 1 ≤ (val q + n / val q) / 2 := by
        rcases Nat.lt_or_ge (val q) 2 with h3 | h3
        · have h4 : val q = 1 := by omega
          rw [h4, Nat.div_one]; omega
        · generalize n / val q = w; omega
      refine proot_loop x12 x13 x14 x15 x16 x17 x19 x20 x21 x22 x23 x24 x30 x31 x32 x33 x34 x35 x36 x37 x38 hx ha na hv hn hll hn4 k le z z8 z9 z10 z11 z39 z40 z41 z42 z43 z44 z45 z46 z47 z48 z49 z50 z51 z52 z53 z54 z55 z56 z57 z58 z59 z60 z61 z62 z63 z64 z65 z66 z67 z68 z69 (by omega) hz oz nz (by omega) (by omega) ?_ h
      rw [vz]
      exact newton2 (by omega)
theorem min_root {n : Nat} (h : n < 4) : min n 1 * min n 1 ≤ n ∧ n < (min n 1 + 1) * (min n 1 + 1) := by
  have : n = 0 ∨ n = 1 ∨ n = 2 ∨ n = 3 := by omega
  rcases this with rfl | rfl | rfl | rfl <;> decide
theorem sign_min {n : Nat} : Int.sign (n : Int) = ((min n 1 : Nat) : Int) := by
  rcases n with _ | n
  · rfl
  · rw [Int.sign_eq_one_of_pos (by omega)]; omega
theorem p_root {n : Nat} {x : D} {l : List Nat} (h : Iv (n : Int) false x l) (hn : n < 128) : ∃ res : Bool × D, (fun (r : Bool × D) => ∃ R : Nat, R * R ≤ n ∧ n < (R + 1) * (R + 1) ∧ ∃ l, Iv (R : Int) r.1 r.2 l) res ∧ Gets Try.cx 54 [.ag [No, .d x], J 2] ((fun (r : Bool × D) => .tu [.ag [boolA r.1, .d r.2], J 0]) res) := by
  have hv : n = val l := by have := h.2.2.2.1; simp only [cond_false] at this; omega
  have hll : l.length ≤ 1 := nrm_len h.2.2.1 (by omega)
  have hlf := (len_facts hn).2.1
  have hx := h.1
  have ha := h.2.1
  have na := h.2.2.1
  refine gets_some (fn := Try.f54) (fun (r : Bool × D) => ∃ R : Nat, R * R ≤ n ∧ n < (R + 1) * (R + 1) ∧ ∃ l, Iv (R : Int) r.1 r.2 l) (fun (r : Bool × D) => .tu [.ag [boolA r.1, .d r.2], J 0]) (by kernel_rfl) rfl ?_
  show EvK _ _ _ ⟨[.ag [No, .d x], J 2] ++ us 68, ⟨[], 0⟩⟩ _
  refine ev_seq ?_
  refine ev_reg (by kernel_rfl) ?_
  refine rs_all (s1 := ⟨[.ag [No, .d x], J 2, .ptr 0 0 0, U, .ptr 1 1 0, J 0] ++ us 64, ⟨[.row [No, .d x] 0 .ow none, .row [No, .d (.v (.slice none 0 0))] 1 .ow none], 2⟩⟩) (fun cf => by kernel_rfl) ?_
  refine ev_seq ?_
  refine ev_seq ?_
  refine ev_reg (by kernel_rfl) ?_
  refine rs_alu [(12, .ptr 0 0 0), (13, No), (14, No), (15, J 2), (16, No), (17, No)] (fun cf => by kernel_rfl) ?_
  refine ev_false (by kernel_rfl) ?_
  refine ev_skip ?_
  refine ev_seq ?_
  refine ev_reg (by kernel_rfl) ?_
  refine rs_alu [(6, .d x), (19, .ptr 0 0 1), (20, .d x)] (fun cf => by kernel_rfl) ?_
  refine ev_seq ?_
  refine ev_seq ?_
  refine ev_reg (by kernel_rfl) ?_
  refine rs_up 2 [(21, J 2), (22, .ag [No, .d x])] (fun cf => by kernel_rfl) ?_
  refine rs_cp 76 [.ag [No, .d x]] false (some 23) (J ((lenN n : Nat) : Int)) (by kernel_rfl) (p_bits h hn) (by kernel_rfl) ?_
  refine rs_alu [(24, boolA (decide (2 ≥ ((lenN n : Nat) : Int))))] (fun cf => by kernel_rfl) ?_
  rcases hb1 : ((decide (2 ≥ ((lenN n : Nat) : Int))) : Bool) with _ | _
  ·
    have hb1' := of_decide_eq_false hb1
    have hf := (len_facts hn).2.2 (by omega)
    refine ev_false (by kernel_rfl) ?_
    refine ev_skip ?_
    refine ev_seq ?_
    refine ev_reg (by kernel_rfl) ?_
    refine rs_cp 68 [intA .u64 2] false (some 30) (.d (.sl true 1 [.v (.int .u32 2)])) (by kernel_rfl) (p_nat2) (by kernel_rfl) ?_
    refine rs_up 3 [(31, .ag [No, .d x]), (33, J 2), (36, J 2)] (fun cf => by kernel_rfl) ?_
    refine rs_cp 76 [.ag [No, .d x]] false (some 32) (J ((lenN n : Nat) : Int)) (by kernel_rfl) (p_bits h hn) (by kernel_rfl) ?_
    refine rs_up 1 [(34, J (IntKind.wrap .i64 (((lenN n : Nat) : Int) + 2)))] (fun cf => by kernel_rfl) ?_
    rw [addI (a := ((lenN n : Nat) : Int)) (b := 2) (A := lenN n) (B := 2) (by rfl) (by rfl) (by omega)]
    refine rs_up 1 [(35, J (IntKind.wrap .i64 ((((lenN n) + 2 : Nat) : Int) - 1)))] (fun cf => by kernel_rfl) ?_
    rw [subI (a := (((lenN n) + 2 : Nat) : Int)) (b := 1) (A := (lenN n) + 2) (B := 1) (by rfl) (by rfl) (by omega)]
    refine rs_up 1 [(37, J (IntKind.wrap .i64 (Int.tdiv ((((lenN n) + 2) - 1 : Nat) : Int) 2)))] (fun cf => by kernel_rfl) ?_
    rw [quoI (a := ((((lenN n) + 2) - 1 : Nat) : Int)) (b := 2) (A := ((lenN n) + 2) - 1) (B := 2) (by rfl) (by rfl) (by omega)]
    obtain ⟨y2, hy2, gy2⟩ := p_pow2 (e := (((lenN n) + 2) - 1) / 2) hf.2.1 hf.2.2.1
    refine rs_cp 77 [.d (.sl true 1 [.v (.int .u32 2)]), J (((((lenN n) + 2) - 1) / 2 : Nat) : Int)] false (some 38) (.d y2) (by kernel_rfl) (gy2) (by kernel_rfl) ?_
    refine rs_all (s1 := ⟨[.ag [No, .d x], J 2, .ptr 0 0 0, U, .ptr 1 1 0, J 0, .d x, .d y2] ++ us 4 ++ [.ptr 0 0 0, No, No, J 2, No, No, U, .ptr 0 0 1, .d x, J 2, .ag [No, .d x], J ((lenN n : Nat) : Int), No] ++ us 5 ++ [.d (.sl true 1 [.v (.int .u32 2)]), .ag [No, .d x], J ((lenN n : Nat) : Int), J 2, J (((lenN n) + 2 : Nat) : Int), J ((((lenN n) + 2) - 1 : Nat) : Int), J 2, J (((((lenN n) + 2) - 1) / 2 : Nat) : Int), .d y2] ++ us 31, ⟨[.row [No, .d x] 0 .ow none, .row [No, .d (.v (.slice none 0 0))] 1 .ow none], 2⟩⟩) (fun cf => by kernel_rfl) ?_
    refine ev_block ?_
    refine proot_loop _ _ _ _ _ _ _ _ _ _ _ _ _ _ _ _ _ _ _ _ _ hx ha na hv hn hll hf.1 17 _ y2 _ _ _ _ _ _ _ _ _ _ _ _ _ _ _ _ _ _ _ _ _ _ _ _ _ _ _ _ _ _ _ _ _ _ _ (by simp only [val]; omega) hy2 (ok_cons (by omega) ok_nil) (.inr (by simp <;> omega)) (by simp only [val]; omega) (by simp only [val]; omega) (by simp only [val, Nat.mul_zero, Nat.add_zero]; exact hf.2.2.2.1) fun lz z g v8 v9 v10 v11 v39 v40 v41 v42 v43 v44 v45 v46 v47 v48 v49 v50 v51 v52 v53 v54 v55 v56 v57 v58 v59 v60 v61 v62 v63 v64 v65 v66 v67 v68 v69 oz hlz z1 z2 wg => ?_
    exact ⟨((false && decide ((((trimL lz).length : Nat) : Int) > 0)), g), ⟨val lz, z1, z2, _, made_iv (s := false) wg oz rfl⟩, .inr rfl, .tu [.ag [boolA (false && decide ((((trimL lz).length : Nat) : Int) > 0)), .d g], J 0], by kernel_rfl, by kernel_rfl⟩
  ·
    have hb1' := of_decide_eq_true hb1
    have hfa : n < 4 := (len_facts hn).1 (by omega)
    refine ev_true (by kernel_rfl) ?_
    refine ev_seq ?_
    refine ev_reg (by kernel_rfl) ?_
    refine rs_up 1 [(25, .ag [No, .d x])] (fun cf => by kernel_rfl) ?_
    refine rs_cp 51 [.ag [No, .d x]] false (some 26) (J (Int.sign (n : Int))) (by kernel_rfl) (p_sign h (by omega)) (by kernel_rfl) ?_
    refine rs_up 1 [(27, intA .u64 (IntKind.wrap .u64 (Int.sign (n : Int))))] (fun cf => by kernel_rfl) ?_
    rw [(show (IntKind.wrap .u64 (Int.sign (n : Int))) = ((min n 1 : Nat) : Int) by rw [sign_min]; exact wrapU (by omega))]
    obtain ⟨y3, hy3, gy3⟩ := g_natural (n := min n 1) (by omega)
    refine rs_cp 68 [intA .u64 ((min n 1 : Nat) : Int)] false (some 28) (.d y3) (by kernel_rfl) (gy3) (by kernel_rfl) ?_
    obtain ⟨y4, hy4, gy4⟩ := g_signed (s := false) hy3 (by have := words_len (n := min n 1) (by omega); omega)
    refine rs_cp 69 [.d y3, No] false (some 29) (.ag [boolA (false && decide ((((trimL (wordsL (min n 1))).length : Nat) : Int) > 0)), .d y4]) (by kernel_rfl) (gy4) (by kernel_rfl) ?_
    refine rs_cu (fun m9 => storeA Try.cx 34 m9 (.ptr 1 1 0) (.ag [boolA (false && decide ((((trimL (wordsL (min n 1))).length : Nat) : Int) > 0)), .d y4])) none ⟨[.row [No, .d x] 0 .ow none, .row [boolA (false && decide ((((trimL (wordsL (min n 1))).length : Nat) : Int) > 0)), .d y4] 1 .ow none], 2⟩ (fun cf => by kernel_rfl) (store_int hy4 rfl) ?_
    refine rs_all (s1 := ⟨[.ag [No, .d x], J 2, .ptr 0 0 0, U, .ptr 1 1 0, J 0, .d x] ++ us 5 ++ [.ptr 0 0 0, No, No, J 2, No, No, U, .ptr 0 0 1, .d x, J 2, .ag [No, .d x], J ((lenN n : Nat) : Int), Yes, .ag [No, .d x], J (Int.sign (n : Int)), intA .u64 ((min n 1 : Nat) : Int), .d y3, .ag [boolA (false && decide ((((trimL (wordsL (min n 1))).length : Nat) : Int) > 0)), .d y4]] ++ us 40, ⟨[.row [No, .d x] 0 .ow none, .row [boolA (false && decide ((((trimL (wordsL (min n 1))).length : Nat) : Int) > 0)), .d y4] 1 .ow none], 2⟩⟩) (fun cf => by kernel_rfl) ?_
    refine ev_ret ?_
    exact ⟨((false && decide ((((trimL (wordsL (min n 1))).length : Nat) : Int) > 0)), y4), ⟨min n 1, (min_root hfa).1, (min_root hfa).2, _, made_iv (s := false) hy4 (ok_words (by omega)) (by rw [val_words]; rfl)⟩, .inr rfl, .tu [.ag [boolA (false && decide ((((trimL (wordsL (min n 1))).length : Nat) : Int) > 0)), .d y4], J 0], by kernel_rfl, by kernel_rfl⟩
end Go.Proofs.Ytgkjdfojogemhaa.W
