/-
  The program: Rebuild. Made by program. Conditions: none.
-/
import Derived.Test.YtgkjdfojogemhaaWsf
set_option maxRecDepth 100000
set_option maxHeartbeats 20000000
set_option linter.unusedSimpArgs false
set_option linter.unusedVariables false
namespace Go.Proofs.Ytgkjdfojogemhaa.W
open Go.Am
theorem sgn_neg {n : Int} : Int.sign n < 0 ↔ n < 0 := by
  rcases Int.lt_trichotomy n 0 with h | h | h
  · rw [Int.sign_eq_neg_one_of_neg h]; omega
  · subst h; decide
  · rw [Int.sign_eq_one_of_pos h]; omega
theorem p_root' {n : Nat} {s : Bool} {x : D} {l : List Nat} (h : Iv (n : Int) s x l) (hn : n < 128) : ∃ res : Bool × D, (∃ R : Nat, R * R ≤ n ∧ n < (R + 1) * (R + 1) ∧ R ≤ 127 ∧ ∃ l, l.length ≤ 1 ∧ Iv (R : Int) res.1 res.2 l) ∧ Gets Try.cx 54 [.ag [boolA s, .d x], J 2] (.tu [.ag [boolA res.1, .d res.2], J 0]) := by
  have e := iv_sign h (by omega)
  subst e
  obtain ⟨r, ⟨R, h1, h2, l, h3⟩, h4⟩ := p_root h hn
  have h5 : R ≤ R * R := Nat.le_mul_self R
  exact ⟨r, ⟨R, h1, h2, by omega, l, iv_len h3 (by omega), h3⟩, h4⟩
theorem len_gcd {n m : Int} {t u : Bool} {y z : D} {p q : List Nat} (k : Iv m t y p) (hm : m ≠ 0) (j : Iv ((Nat.gcd n.natAbs m.natAbs : Nat) : Int) u z q) : q.length ≤ p.length := iv_len j (by
  have h1 := iv_lt k
  have h2 := Nat.gcd_le_right n.natAbs (show 0 < m.natAbs by omega)
  omega)
def nilD : D := .v (.slice none 0 0)
def RebP (k : Nat) (V : Int) (res : (Bool × D) × (Bool × D) × Bool) : Prop := ∃ R : Nat, R * R ≤ (k - 1) / 2 ∧ (k - 1) / 2 < (R + 1) * (R + 1) ∧ ∃ E : Int × Int, euc (R : Int) (k + 8) (k : Int) (V % (k : Int)) 0 1 = E ∧ ∃ B T : Int, ((E.2 < 0 ∧ B = -E.1 ∧ T = -E.2) ∨ (¬ E.2 < 0 ∧ B = E.1 ∧ T = E.2)) ∧
  (((¬ T < 1 ∧ ¬ (R : Int) < T ∧ Nat.gcd T.natAbs k = 1) ∧ res.2.2 = true ∧ (∃ l, Iv B res.1.1 res.1.2 l) ∧ (∃ l, Iv T res.2.1.1 res.2.1.2 l)) ∨ ((T < 1 ∨ (R : Int) < T ∨ Nat.gcd T.natAbs k ≠ 1) ∧ res = ((false, nilD), (false, nilD), false)))
theorem p_rebuild {V : Int} {k : Nat} {su sm : Bool} {xu xm : D} {lu lm : List Nat} (IU : Iv V su xu lu) (IM : Iv (k : Int) sm xm lm) (hlu : lu.length ≤ 1000) (hk1 : 1 ≤ k) (hk : k ≤ 255) : ∃ res : (Bool × D) × (Bool × D) × Bool, (RebP k V) res ∧ Gets Try.cx 33 [.ag [boolA su, .d xu], .ag [boolA sm, .d xm]] ((fun (r : (Bool × D) × (Bool × D) × Bool) => .tu [.ag [boolA r.1.1, .d r.1.2, boolA r.2.1.1, .d r.2.1.2], boolA r.2.2]) res) := by
  have hlm : lm.length = 1 := by have h1 : lm.length ≤ 1 := iv_len IM (by omega); have h2 := iv_pos_len IM (by omega); omega
  have hsg : decide (Int.sign (k : Int) ≤ 0) = false := decide_eq_false (by rw [Int.sign_eq_one_of_pos (by omega)]; omega)
  refine gets_some (fn := Try.f33) (RebP k V) (fun (r : (Bool × D) × (Bool × D) × Bool) => .tu [.ag [boolA r.1.1, .d r.1.2, boolA r.2.1.1, .d r.2.1.2], boolA r.2.2]) (by kernel_rfl) rfl ?_
  show EvK _ _ _ ⟨[.ag [boolA su, .d xu], .ag [boolA sm, .d xm]] ++ us 94, ⟨[], 0⟩⟩ _
  refine ev_seq ?_
  refine ev_reg (by kernel_rfl) ?_
  refine rs_alm [(2, .ptr 0 0 0), (3, .ptr 1 1 0), (4, .ptr 2 2 0), (5, No)] ⟨[.row [boolA su, .d xu] 0 .ow none, .row [boolA sm, .d xm] 1 .ow none, .row [No, .d (.v (.slice none 0 0)), No, .d (.v (.slice none 0 0))] 2 .ow none], 3⟩ (fun cf => by kernel_rfl) ?_
  refine ev_seq ?_
  refine ev_seq ?_
  refine ev_reg (by kernel_rfl) ?_
  refine rs_up 1 [(18, .ag [boolA sm, .d xm])] (fun cf => by kernel_rfl) ?_
  refine rs_cp 51 [.ag [boolA sm, .d xm]] false (some 19) (J (Int.sign (k : Int))) (by kernel_rfl) (p_sign IM (by omega)) (by kernel_rfl) ?_
  refine rs_up 1 [(20, boolA (decide ((Int.sign (k : Int)) ≤ 0)))] (fun cf => by kernel_rfl) ?_
  rw [hsg]
  refine rs_alu [] (fun cf => by kernel_rfl) ?_
  refine ev_false (by kernel_rfl) ?_
  refine ev_skip ?_
  refine ev_seq ?_
  refine ev_reg (by kernel_rfl) ?_
  refine rs_up 1 [(23, .ag [boolA sm, .d xm])] (fun cf => by kernel_rfl) ?_
  obtain ⟨⟨s1, x1⟩, ⟨l1, I1⟩, g1⟩ := p_of (n := 1) (by omega)
  have hl1 : l1.length ≤ 1 := iv_len I1 (by omega)
  have hpl1 := iv_pos_len I1 (by omega)
  refine rs_cp 44 [J 1] false (some 24) (.ag [boolA s1, .d x1]) (by kernel_rfl) (g1) (by kernel_rfl) ?_
  obtain ⟨⟨s2, x2⟩, ⟨l2, I2⟩, g2⟩ := p_isub IM (by omega) I1 (by omega)
  have hl2 := len_sub IM I1 I2
  refine rs_cp 53 [.ag [boolA sm, .d xm], .ag [boolA s1, .d x1]] false (some 25) (.ag [boolA s2, .d x2]) (by kernel_rfl) (g2) (by kernel_rfl) ?_
  obtain ⟨⟨s3, x3⟩, ⟨l3, I3⟩, g3⟩ := p_of (n := 2) (by omega)
  have hl3 : l3.length ≤ 1 := iv_len I3 (by omega)
  have hpl3 := iv_pos_len I3 (by omega)
  refine rs_cp 44 [J 2] false (some 26) (.ag [boolA s3, .d x3]) (by kernel_rfl) (g3) (by kernel_rfl) ?_
  obtain ⟨⟨⟨sq4, xq4⟩, ⟨sr4, xr4⟩⟩, ⟨⟨lq4, Iq4⟩, ⟨lr4, Ir4⟩⟩, gd4⟩ := p_divmod1 I2 (by omega) I3 (by omega) (by omega) (by omega)
  have hlq4 := len_div I2 Iq4
  have hlr4 := len_mod I3 (by omega) Ir4
  refine rs_cp 52 [.ag [boolA s2, .d x2], .ag [boolA s3, .d x3]] false (some 27) (.tu [.ag [boolA sq4, .d xq4], .ag [boolA sr4, .d xr4], J 0]) (by kernel_rfl) (gd4) (by kernel_rfl) ?_
  refine rs_upm 6 [(6, .ptr 3 3 0), (7, .ptr 4 4 0), (22, .tu [.ag [boolA sq4, .d xq4], .ag [boolA sr4, .d xr4], J 0]), (28, .ag [boolA sq4, .d xq4]), (29, .ag [boolA sr4, .d xr4]), (30, J 0)] ⟨[.row [boolA su, .d xu] 0 .ow none, .row [boolA sm, .d xm] 1 .ow none, .row [No, .d (.v (.slice none 0 0)), No, .d (.v (.slice none 0 0))] 2 .ow none, .row [No, .d (.v (.slice none 0 0))] 3 .ow none, .row [No, .d (.v (.slice none 0 0))] 4 .ow none], 5⟩ (fun cf => by kernel_rfl) ?_
  refine rs_cu (fun m9 => storeA Try.cx 34 m9 (.ptr 3 3 0) (.ag [boolA sq4, .d xq4])) none ⟨[.row [boolA su, .d xu] 0 .ow none, .row [boolA sm, .d xm] 1 .ow none, .row [No, .d (.v (.slice none 0 0)), No, .d (.v (.slice none 0 0))] 2 .ow none, .row [boolA sq4, .d xq4] 3 .ow none, .row [No, .d (.v (.slice none 0 0))] 4 .ow none], 5⟩ (fun cf => by kernel_rfl) (store_int Iq4.1 rfl) ?_
  refine rs_cu (fun m9 => storeA Try.cx 34 m9 (.ptr 4 4 0) (.ag [boolA sr4, .d xr4])) none ⟨[.row [boolA su, .d xu] 0 .ow none, .row [boolA sm, .d xm] 1 .ow none, .row [No, .d (.v (.slice none 0 0)), No, .d (.v (.slice none 0 0))] 2 .ow none, .row [boolA sq4, .d xq4] 3 .ow none, .row [boolA sr4, .d xr4] 4 .ow none], 5⟩ (fun cf => by kernel_rfl) (store_int Ir4.1 rfl) ?_
  refine rs_alu [(8, J 0)] (fun cf => by kernel_rfl) ?_
  refine ev_seq ?_
  refine ev_reg (by kernel_rfl) ?_
  refine rs_up 1 [(32, .ag [boolA sq4, .d xq4])] (fun cf => by kernel_rfl) ?_
  have IH : Iv (((k - 1) / 2 : Nat) : Int) sq4 xq4 lq4 := (show ((k : Int) - ((1 : Nat) : Int)) / ((2 : Nat) : Int) = (((k - 1) / 2 : Nat) : Int) by omega) ▸ Iq4
  obtain ⟨⟨sR, xR⟩, ⟨R, hR1, hR2, hR3, lR, hlR, IR⟩, gR⟩ := p_root' IH (by omega)
  refine rs_cp 54 [.ag [boolA sq4, .d xq4], J 2] false (some 33) (.tu [.ag [boolA sR, .d xR], J 0]) (by kernel_rfl) (gR) (by kernel_rfl) ?_
  refine rs_upm 4 [(9, .ptr 5 5 0), (31, .tu [.ag [boolA sR, .d xR], J 0]), (34, .ag [boolA sR, .d xR]), (35, J 0)] ⟨[.row [boolA su, .d xu] 0 .ow none, .row [boolA sm, .d xm] 1 .ow none, .row [No, .d (.v (.slice none 0 0)), No, .d (.v (.slice none 0 0))] 2 .ow none, .row [boolA sq4, .d xq4] 3 .ow none, .row [boolA sr4, .d xr4] 4 .ow none, .row [No, .d (.v (.slice none 0 0))] 5 .ow none], 6⟩ (fun cf => by kernel_rfl) ?_
  refine rs_cu (fun m9 => storeA Try.cx 34 m9 (.ptr 5 5 0) (.ag [boolA sR, .d xR])) none ⟨[.row [boolA su, .d xu] 0 .ow none, .row [boolA sm, .d xm] 1 .ow none, .row [No, .d (.v (.slice none 0 0)), No, .d (.v (.slice none 0 0))] 2 .ow none, .row [boolA sq4, .d xq4] 3 .ow none, .row [boolA sr4, .d xr4] 4 .ow none, .row [boolA sR, .d xR] 5 .ow none], 6⟩ (fun cf => by kernel_rfl) (store_int IR.1 rfl) ?_
  refine rs_alu [(10, J 0)] (fun cf => by kernel_rfl) ?_
  refine ev_seq ?_
  refine ev_reg (by kernel_rfl) ?_
  refine rs_up 2 [(37, .ag [boolA su, .d xu]), (38, .ag [boolA sm, .d xm])] (fun cf => by kernel_rfl) ?_
  obtain ⟨⟨⟨sq5, xq5⟩, ⟨sr5, xr5⟩⟩, ⟨⟨lq5, Iq5⟩, ⟨lr5, Ir5⟩⟩, gd5⟩ := p_divmod1 IU (by omega) IM (by omega) (by omega) (by omega)
  have hlq5 := len_div IU Iq5
  have hlr5 := len_mod IM (by omega) Ir5
  refine rs_cp 52 [.ag [boolA su, .d xu], .ag [boolA sm, .d xm]] false (some 39) (.tu [.ag [boolA sq5, .d xq5], .ag [boolA sr5, .d xr5], J 0]) (by kernel_rfl) (gd5) (by kernel_rfl) ?_
  refine rs_upm 6 [(11, .ptr 6 6 0), (12, .ptr 7 7 0), (36, .tu [.ag [boolA sq5, .d xq5], .ag [boolA sr5, .d xr5], J 0]), (40, .ag [boolA sq5, .d xq5]), (41, .ag [boolA sr5, .d xr5]), (42, J 0)] ⟨[.row [boolA su, .d xu] 0 .ow none, .row [boolA sm, .d xm] 1 .ow none, .row [No, .d (.v (.slice none 0 0)), No, .d (.v (.slice none 0 0))] 2 .ow none, .row [boolA sq4, .d xq4] 3 .ow none, .row [boolA sr4, .d xr4] 4 .ow none, .row [boolA sR, .d xR] 5 .ow none, .row [No, .d (.v (.slice none 0 0))] 6 .ow none, .row [No, .d (.v (.slice none 0 0))] 7 .ow none], 8⟩ (fun cf => by kernel_rfl) ?_
  refine rs_cu (fun m9 => storeA Try.cx 34 m9 (.ptr 6 6 0) (.ag [boolA sq5, .d xq5])) none ⟨[.row [boolA su, .d xu] 0 .ow none, .row [boolA sm, .d xm] 1 .ow none, .row [No, .d (.v (.slice none 0 0)), No, .d (.v (.slice none 0 0))] 2 .ow none, .row [boolA sq4, .d xq4] 3 .ow none, .row [boolA sr4, .d xr4] 4 .ow none, .row [boolA sR, .d xR] 5 .ow none, .row [boolA sq5, .d xq5] 6 .ow none, .row [No, .d (.v (.slice none 0 0))] 7 .ow none], 8⟩ (fun cf => by kernel_rfl) (store_int Iq5.1 rfl) ?_
  refine rs_cu (fun m9 => storeA Try.cx 34 m9 (.ptr 7 7 0) (.ag [boolA sr5, .d xr5])) none ⟨[.row [boolA su, .d xu] 0 .ow none, .row [boolA sm, .d xm] 1 .ow none, .row [No, .d (.v (.slice none 0 0)), No, .d (.v (.slice none 0 0))] 2 .ow none, .row [boolA sq4, .d xq4] 3 .ow none, .row [boolA sr4, .d xr4] 4 .ow none, .row [boolA sR, .d xR] 5 .ow none, .row [boolA sq5, .d xq5] 6 .ow none, .row [boolA sr5, .d xr5] 7 .ow none], 8⟩ (fun cf => by kernel_rfl) (store_int Ir5.1 rfl) ?_
  refine rs_all (s1 := ⟨[.ag [boolA su, .d xu], .ag [boolA sm, .d xm], .ptr 0 0 0, .ptr 1 1 0, .ptr 2 2 0, No, .ptr 3 3 0, .ptr 4 4 0, J 0, .ptr 5 5 0, J 0, .ptr 6 6 0, .ptr 7 7 0, J 0] ++ us 4 ++ [.ag [boolA sm, .d xm], J (Int.sign (k : Int)), No, U, .tu [.ag [boolA sq4, .d xq4], .ag [boolA sr4, .d xr4], J 0], .ag [boolA sm, .d xm], .ag [boolA s1, .d x1], .ag [boolA s2, .d x2], .ag [boolA s3, .d x3], .tu [.ag [boolA sq4, .d xq4], .ag [boolA sr4, .d xr4], J 0], .ag [boolA sq4, .d xq4], .ag [boolA sr4, .d xr4], J 0, .tu [.ag [boolA sR, .d xR], J 0], .ag [boolA sq4, .d xq4], .tu [.ag [boolA sR, .d xR], J 0], .ag [boolA sR, .d xR], J 0, .tu [.ag [boolA sq5, .d xq5], .ag [boolA sr5, .d xr5], J 0], .ag [boolA su, .d xu], .ag [boolA sm, .d xm], .tu [.ag [boolA sq5, .d xq5], .ag [boolA sr5, .d xr5], J 0], .ag [boolA sq5, .d xq5], .ag [boolA sr5, .d xr5], J 0] ++ us 53, ⟨[.row [boolA su, .d xu] 0 .ow none, .row [boolA sm, .d xm] 1 .ow none, .row [No, .d (.v (.slice none 0 0)), No, .d (.v (.slice none 0 0))] 2 .ow none, .row [boolA sq4, .d xq4] 3 .ow none, .row [boolA sr4, .d xr4] 4 .ow none, .row [boolA sR, .d xR] 5 .ow none, .row [boolA sq5, .d xq5] 6 .ow none, .row [boolA sr5, .d xr5] 7 .ow none], 8⟩⟩) (fun cf => by kernel_rfl) ?_
  refine ev_seq ?_
  refine ev_regM (by kernel_rfl) ?_
  refine rsd_cons [] (by kernel_rfl) ?_
  refine rs_alu [(43, .ag [boolA sm, .d xm])] (fun cf => by kernel_rfl) ?_
  refine rsd_cons [] (by kernel_rfl) ?_
  obtain ⟨⟨s6, x6⟩, ⟨l6, I6⟩, g6⟩ := p_of (n := 0) (by omega)
  have hl6 : l6.length ≤ 1 := iv_len I6 (by omega)
  refine rs_cp 44 [J 0] false (some 44) (.ag [boolA s6, .d x6]) (by kernel_rfl) (g6) (by kernel_rfl) ?_
  refine rs_done (by kernel_rfl) ?_
  refine rsd_cons [] (by kernel_rfl) ?_
  refine rs_alu [(45, .ag [boolA sm, .d xm, boolA s6, .d x6])] (fun cf => by kernel_rfl) ?_
  refine rsd_cons [7] (by kernel_rfl) ?_
  refine rs_alu [(46, .ag [boolA sr5, .d xr5])] (fun cf => by kernel_rfl) ?_
  refine rsd_cons [7] (by kernel_rfl) ?_
  obtain ⟨⟨s7, x7⟩, ⟨l7, I7⟩, g7⟩ := p_of (n := 1) (by omega)
  have hl7 : l7.length ≤ 1 := iv_len I7 (by omega)
  have hpl7 := iv_pos_len I7 (by omega)
  refine rs_cp 44 [J 1] false (some 47) (.ag [boolA s7, .d x7]) (by kernel_rfl) (g7) (by kernel_rfl) ?_
  refine rs_done (by kernel_rfl) ?_
  refine rsd_cons [7] (by kernel_rfl) ?_
  refine rs_alu [(48, .ag [boolA sr5, .d xr5, boolA s7, .d x7])] (fun cf => by kernel_rfl) ?_
  refine rsd_cons [7] (by kernel_rfl) ?_
  refine rs_alm [(14, .ptr 8 8 0)] ⟨[.row [boolA su, .d xu] 0 .ow none, .row [boolA sm, .d xm] 1 .ow none, .row [No, .d (.v (.slice none 0 0)), No, .d (.v (.slice none 0 0))] 2 .ow none, .row [boolA sq4, .d xq4] 3 .ow none, .row [boolA sr4, .d xr4] 4 .ow none, .row [boolA sR, .d xR] 5 .ow none, .row [boolA sq5, .d xq5] 6 .ow none, .row [boolA sr5, .d xr5] 7 .ow none, .row [No, .d (.v (.slice none 0 0)), No, .d (.v (.slice none 0 0))] 8 .ow none], 9⟩ (fun cf => by kernel_rfl) ?_
  refine rsd_cons [7] (by kernel_rfl) ?_
  refine rs_alm [(15, .ptr 9 9 0)] ⟨[.row [boolA su, .d xu] 0 .ow none, .row [boolA sm, .d xm] 1 .ow none, .row [No, .d (.v (.slice none 0 0)), No, .d (.v (.slice none 0 0))] 2 .ow none, .row [boolA sq4, .d xq4] 3 .ow none, .row [boolA sr4, .d xr4] 4 .ow none, .row [boolA sR, .d xR] 5 .ow none, .row [boolA sq5, .d xq5] 6 .ow none, .row [boolA sr5, .d xr5] 7 .ow none, .row [No, .d (.v (.slice none 0 0)), No, .d (.v (.slice none 0 0))] 8 .ow none, .row [No, .d (.v (.slice none 0 0)), No, .d (.v (.slice none 0 0))] 9 .ow none], 10⟩ (fun cf => by kernel_rfl) ?_
  refine rsd_cons [7] (by kernel_rfl) ?_
  refine rs_cu (fun m9 => storeA Try.cx 79 m9 (.ptr 8 8 0) (.ag [boolA sm, .d xm, boolA s6, .d x6])) none ⟨[.row [boolA su, .d xu] 0 .ow none, .row [boolA sm, .d xm] 1 .ow none, .row [No, .d (.v (.slice none 0 0)), No, .d (.v (.slice none 0 0))] 2 .ow none, .row [boolA sq4, .d xq4] 3 .ow none, .row [boolA sr4, .d xr4] 4 .ow none, .row [boolA sR, .d xR] 5 .ow none, .row [boolA sq5, .d xq5] 6 .ow none, .row [boolA sr5, .d xr5] 7 .ow none, .row [boolA sm, .d xm, boolA s6, .d x6] 8 .ow none, .row [No, .d (.v (.slice none 0 0)), No, .d (.v (.slice none 0 0))] 9 .ow none], 10⟩ (fun cf => by kernel_rfl) (store_row IM.1 I6.1 rfl) ?_
  refine rs_done (by kernel_rfl) ?_
  refine rsd_cons [7] (by kernel_rfl) ?_
  refine rs_cu (fun m9 => storeA Try.cx 79 m9 (.ptr 9 9 0) (.ag [boolA sr5, .d xr5, boolA s7, .d x7])) none ⟨[.row [boolA su, .d xu] 0 .ow none, .row [boolA sm, .d xm] 1 .ow none, .row [No, .d (.v (.slice none 0 0)), No, .d (.v (.slice none 0 0))] 2 .ow none, .row [boolA sq4, .d xq4] 3 .ow none, .row [boolA sr4, .d xr4] 4 .ow none, .row [boolA sR, .d xR] 5 .ow none, .row [boolA sq5, .d xq5] 6 .ow none, .row [boolA sr5, .d xr5] 7 .ow none, .row [boolA sm, .d xm, boolA s6, .d x6] 8 .ow none, .row [boolA sr5, .d xr5, boolA s7, .d x7] 9 .ow none], 10⟩ (fun cf => by kernel_rfl) (store_row Ir5.1 I7.1 rfl) ?_
  refine rs_all (s1 := ⟨[.ag [boolA su, .d xu], .ag [boolA sm, .d xm], .ptr 0 0 0, .ptr 1 1 0, .ptr 2 2 0, No, .ptr 3 3 0, .ptr 4 4 0, J 0, .ptr 5 5 0, J 0, .ptr 6 6 0, .ptr 7 7 0, J 0, .ptr 8 8 0, .ptr 9 9 0, U, U, .ag [boolA sm, .d xm], J (Int.sign (k : Int)), No, U, .tu [.ag [boolA sq4, .d xq4], .ag [boolA sr4, .d xr4], J 0], .ag [boolA sm, .d xm], .ag [boolA s1, .d x1], .ag [boolA s2, .d x2], .ag [boolA s3, .d x3], .tu [.ag [boolA sq4, .d xq4], .ag [boolA sr4, .d xr4], J 0], .ag [boolA sq4, .d xq4], .ag [boolA sr4, .d xr4], J 0, .tu [.ag [boolA sR, .d xR], J 0], .ag [boolA sq4, .d xq4], .tu [.ag [boolA sR, .d xR], J 0], .ag [boolA sR, .d xR], J 0, .tu [.ag [boolA sq5, .d xq5], .ag [boolA sr5, .d xr5], J 0], .ag [boolA su, .d xu], .ag [boolA sm, .d xm], .tu [.ag [boolA sq5, .d xq5], .ag [boolA sr5, .d xr5], J 0], .ag [boolA sq5, .d xq5], .ag [boolA sr5, .d xr5], J 0, .ag [boolA sm, .d xm], .ag [boolA s6, .d x6], .ag [boolA sm, .d xm, boolA s6, .d x6], .ag [boolA sr5, .d xr5], .ag [boolA s7, .d x7], .ag [boolA sr5, .d xr5, boolA s7, .d x7]] ++ us 47, ⟨[.row [boolA su, .d xu] 0 .ow none, .row [boolA sm, .d xm] 1 .ow none, .row [No, .d (.v (.slice none 0 0)), No, .d (.v (.slice none 0 0))] 2 .ow none, .row [boolA sq4, .d xq4] 3 .ow none, .row [boolA sr4, .d xr4] 4 .ow none, .row [boolA sR, .d xR] 5 .ow none, .row [boolA sq5, .d xq5] 6 .ow none, .row [boolA sr5, .d xr5] 7 .ow none, .row [boolA sm, .d xm, boolA s6, .d x6] 8 .ow none, .row [boolA sr5, .d xr5, boolA s7, .d x7] 9 .ow none], 10⟩⟩) (fun cf => by kernel_rfl) ?_
  refine rsd_done (by kernel_rfl) ?_
  refine ev_seq ?_
  refine ev_reg (by kernel_rfl) ?_
  refine rs_all (s1 := ⟨[.ag [boolA su, .d xu], .ag [boolA sm, .d xm], .ptr 0 0 0, .ptr 1 1 0, .ptr 2 2 0, No, .ptr 3 3 0, .ptr 4 4 0, J 0, .ptr 5 5 0, J 0, .ptr 6 6 0, .ptr 7 7 0, J 0, .ptr 8 8 0, .ptr 9 9 0, .fn 55 [.ptr 8 8 0, .ptr 9 9 0], U, .ag [boolA sm, .d xm], J (Int.sign (k : Int)), No, U, .tu [.ag [boolA sq4, .d xq4], .ag [boolA sr4, .d xr4], J 0], .ag [boolA sm, .d xm], .ag [boolA s1, .d x1], .ag [boolA s2, .d x2], .ag [boolA s3, .d x3], .tu [.ag [boolA sq4, .d xq4], .ag [boolA sr4, .d xr4], J 0], .ag [boolA sq4, .d xq4], .ag [boolA sr4, .d xr4], J 0, .tu [.ag [boolA sR, .d xR], J 0], .ag [boolA sq4, .d xq4], .tu [.ag [boolA sR, .d xR], J 0], .ag [boolA sR, .d xR], J 0, .tu [.ag [boolA sq5, .d xq5], .ag [boolA sr5, .d xr5], J 0], .ag [boolA su, .d xu], .ag [boolA sm, .d xm], .tu [.ag [boolA sq5, .d xq5], .ag [boolA sr5, .d xr5], J 0], .ag [boolA sq5, .d xq5], .ag [boolA sr5, .d xr5], J 0, .ag [boolA sm, .d xm], .ag [boolA s6, .d x6], .ag [boolA sm, .d xm, boolA s6, .d x6], .ag [boolA sr5, .d xr5], .ag [boolA s7, .d x7], .ag [boolA sr5, .d xr5, boolA s7, .d x7], .fn 55 [.ptr 8 8 0, .ptr 9 9 0]] ++ us 46, ⟨[.row [boolA su, .d xu] 0 .ow none, .row [boolA sm, .d xm] 1 .ow none, .row [No, .d (.v (.slice none 0 0)), No, .d (.v (.slice none 0 0))] 2 .ow none, .row [boolA sq4, .d xq4] 3 .ow none, .row [boolA sr4, .d xr4] 4 .ow none, .row [boolA sR, .d xR] 5 .ow none, .row [boolA sq5, .d xq5] 6 .ow none, .row [boolA sr5, .d xr5] 7 .ow none, .row [boolA sm, .d xm, boolA s6, .d x6] 8 .ow none, .row [boolA sr5, .d xr5, boolA s7, .d x7] 9 .ow none], 10⟩⟩) (fun cf => by kernel_rfl) ?_
  refine ev_seq ?_
  refine ev_block ?_
  refine reb_loop _ _ _ _ _ _ _ _ _ _ _ _ _ _ _ _ _ _ _ _ _ _ _ _ _ _ _ _ _ _ _ _ _ _ _ _ _ _ _ _ _ _ _ _ _ _ IR (by omega) hlR (k + 8) _ _ _ _ _ _ _ _ _ _ _ _ _ _ _ _ _ _ _ _ _ _ _ _ IM Ir5 I6 I7 (by omega) (by omega) (Int.emod_nonneg _ (by omega)) (by have := Int.emod_lt_of_pos V (show (0 : Int) < (k : Int) by omega); omega) (by omega) (by omega) fun ra rs rb rt N v50 v51 v52 v53 v54 v55 v56 hb9 ht9 => ?_
  obtain ⟨sB, xB⟩ := rb
  obtain ⟨sT, xT⟩ := rt
  obtain ⟨lB, hlB, IB⟩ := hb9
  obtain ⟨lT, hlT, IT⟩ := ht9
  generalize hE : euc (R : Int) (k + 8) (k : Int) (V % (k : Int)) ((0 : Nat) : Int) ((1 : Nat) : Int) = E at IB IT
  refine ev_seq ?_
  refine ev_seq ?_
  refine ev_reg (by kernel_rfl) ?_
  refine rs_up 2 [(57, .ptr 9 9 2), (58, .ag [boolA sT, .d xT])] (fun cf => by kernel_rfl) ?_
  refine rs_cp 51 [.ag [boolA sT, .d xT]] false (some 59) (J (Int.sign E.2)) (by kernel_rfl) (p_sign IT (by omega)) (by kernel_rfl) ?_
  refine rs_alu [(60, boolA (decide ((Int.sign E.2) < 0)))] (fun cf => by kernel_rfl) ?_
  rcases hb8 : ((decide ((Int.sign E.2) < 0)) : Bool) with _ | _
  ·
    have hb8' := of_decide_eq_false hb8
    have hsT := mt sgn_neg.mpr hb8'
    refine ev_false (by kernel_rfl) ?_
    refine ev_skip ?_
    refine ev_seq ?_
    refine ev_reg (by kernel_rfl) ?_
    obtain ⟨⟨s9, x9⟩, ⟨l9, I9⟩, g9⟩ := p_of (n := 1) (by omega)
    have hl9 : l9.length ≤ 1 := iv_len I9 (by omega)
    have hpl9 := iv_pos_len I9 (by omega)
    refine rs_cp 44 [J 1] false (some 68) (.ag [boolA s9, .d x9]) (by kernel_rfl) (g9) (by kernel_rfl) ?_
    refine rs_upm 1 [(17, .ptr 10 N 0)] ⟨[.row [boolA su, .d xu] 0 .ow none, .row [boolA sm, .d xm] 1 .ow none, .row [No, .d (.v (.slice none 0 0)), No, .d (.v (.slice none 0 0))] 2 .ow none, .row [boolA sq4, .d xq4] 3 .ow none, .row [boolA sr4, .d xr4] 4 .ow none, .row [boolA sR, .d xR] 5 .ow none, .row [boolA sq5, .d xq5] 6 .ow none, .row [boolA sr5, .d xr5] 7 .ow none, .row [boolA ra.1, .d ra.2, boolA rs.1, .d rs.2] 8 .ow none, .row [boolA sB, .d xB, boolA sT, .d xT] 9 .ow none, .row [No, .d (.v (.slice none 0 0))] N .ow none], (N + 1)⟩ (fun cf => by kernel_rfl) ?_
    refine rs_cu (fun m9 => storeA Try.cx 34 m9 (.ptr 10 N 0) (.ag [boolA s9, .d x9])) none ⟨[.row [boolA su, .d xu] 0 .ow none, .row [boolA sm, .d xm] 1 .ow none, .row [No, .d (.v (.slice none 0 0)), No, .d (.v (.slice none 0 0))] 2 .ow none, .row [boolA sq4, .d xq4] 3 .ow none, .row [boolA sr4, .d xr4] 4 .ow none, .row [boolA sR, .d xR] 5 .ow none, .row [boolA sq5, .d xq5] 6 .ow none, .row [boolA sr5, .d xr5] 7 .ow none, .row [boolA ra.1, .d ra.2, boolA rs.1, .d rs.2] 8 .ow none, .row [boolA sB, .d xB, boolA sT, .d xT] 9 .ow none, .row [boolA s9, .d x9] N .ow none], (N + 1)⟩ (fun cf => by kernel_rfl) (store_int I9.1 rfl) ?_
    refine rs_alu [] (fun cf => by kernel_rfl) ?_
    refine ev_seq ?_
    refine ev_seq ?_
    refine ev_reg (by kernel_rfl) ?_
    refine rs_up 2 [(69, .ptr 9 9 2), (70, .ag [boolA sT, .d xT])] (fun cf => by kernel_rfl) ?_
    refine rs_cv (fun m9 => loadA Try.cx 34 m9 (.ptr 10 N 0)) (some 71) (.ag [boolA s9, .d x9]) (fun cf => by kernel_rfl) (load_int rfl) ?_
    refine rs_cp 56 [.ag [boolA sT, .d xT], .ag [boolA s9, .d x9]] false (some 72) (J (cmpZ E.2 ((1 : Nat) : Int))) (by kernel_rfl) (p_icmp IT (by omega) I9 (by omega)) (by kernel_rfl) ?_
    refine rs_up 2 [(73, boolA (decide ((cmpZ E.2 ((1 : Nat) : Int)) < 0))), (74, boolA (decide ((cmpZ E.2 ((1 : Nat) : Int)) < 0)))] (fun cf => by kernel_rfl) ?_
    rcases hb10 : ((decide ((cmpZ E.2 ((1 : Nat) : Int)) < 0)) : Bool) with _ | _
    ·
      have hb10' := of_decide_eq_false hb10
      have hb10c := mt cmpZ_neg.mpr hb10'
      refine rs_up 3 [(75, .ptr 9 9 2), (76, .ag [boolA sT, .d xT]), (77, .ag [boolA sR, .d xR])] (fun cf => by kernel_rfl) ?_
      refine rs_cp 56 [.ag [boolA sT, .d xT], .ag [boolA sR, .d xR]] false (some 78) (J (cmpZ E.2 (R : Int))) (by kernel_rfl) (p_icmp IT (by omega) IR (by omega)) (by kernel_rfl) ?_
      refine rs_up 3 [(79, boolA (decide ((cmpZ E.2 (R : Int)) > 0))), (80, boolA (decide ((cmpZ E.2 (R : Int)) > 0))), (81, boolA (decide ((cmpZ E.2 (R : Int)) > 0)))] (fun cf => by kernel_rfl) ?_
      rcases hb11 : ((decide ((cmpZ E.2 (R : Int)) > 0)) : Bool) with _ | _
      ·
        have hb11' := of_decide_eq_false hb11
        have hb11c := mt cmpZ_pos.mpr hb11'
        refine rs_up 3 [(82, .ptr 9 9 2), (83, .ag [boolA sT, .d xT]), (84, .ag [boolA sm, .d xm])] (fun cf => by kernel_rfl) ?_
        obtain ⟨⟨s12, x12⟩, ⟨l12, I12⟩, g12⟩ := p_igcd IT (by omega) IM (by omega) (by omega)
        have hl12 := len_gcd IM (by omega) I12
        refine rs_cp 58 [.ag [boolA sT, .d xT], .ag [boolA sm, .d xm]] false (some 85) (.ag [boolA s12, .d x12]) (by kernel_rfl) (g12) (by kernel_rfl) ?_
        refine rs_cv (fun m9 => loadA Try.cx 34 m9 (.ptr 10 N 0)) (some 86) (.ag [boolA s9, .d x9]) (fun cf => by kernel_rfl) (load_int rfl) ?_
        refine rs_cp 56 [.ag [boolA s12, .d x12], .ag [boolA s9, .d x9]] false (some 87) (J (cmpZ ((Nat.gcd E.2.natAbs (k : Int).natAbs : Nat) : Int) ((1 : Nat) : Int))) (by kernel_rfl) (p_icmp I12 (by omega) I9 (by omega)) (by kernel_rfl) ?_
        refine rs_alu [(88, boolA ((cmpZ ((Nat.gcd E.2.natAbs (k : Int).natAbs : Nat) : Int) ((1 : Nat) : Int)) != 0)), (89, boolA ((cmpZ ((Nat.gcd E.2.natAbs (k : Int).natAbs : Nat) : Int) ((1 : Nat) : Int)) != 0))] (fun cf => by kernel_rfl) ?_
        rcases hb13 : (((cmpZ ((Nat.gcd E.2.natAbs (k : Int).natAbs : Nat) : Int) ((1 : Nat) : Int)) != 0) : Bool) with _ | _
        ·
          have hb13' := bne_no hb13
          have hb13c := cmpZ_zero.mp hb13'
          simp only [Int.natAbs_natCast] at hb13c
          refine ev_false (by kernel_rfl) ?_
          refine ev_skip ?_
          refine ev_seq ?_
          refine ev_reg (by kernel_rfl) ?_
          refine rs_up 5 [(91, .ptr 9 9 0), (92, .ag [boolA sB, .d xB]), (93, .ptr 9 9 2), (94, .ag [boolA sT, .d xT]), (95, .ag [boolA sB, .d xB, boolA sT, .d xT])] (fun cf => by kernel_rfl) ?_
          refine rs_cu (fun m9 => storeA Try.cx 36 m9 (.ptr 2 2 0) (.ag [boolA sB, .d xB, boolA sT, .d xT])) none ⟨[.row [boolA su, .d xu] 0 .ow none, .row [boolA sm, .d xm] 1 .ow none, .row [boolA sB, .d xB, boolA sT, .d xT] 2 .ow none, .row [boolA sq4, .d xq4] 3 .ow none, .row [boolA sr4, .d xr4] 4 .ow none, .row [boolA sR, .d xR] 5 .ow none, .row [boolA sq5, .d xq5] 6 .ow none, .row [boolA sr5, .d xr5] 7 .ow none, .row [boolA ra.1, .d ra.2, boolA rs.1, .d rs.2] 8 .ow none, .row [boolA sB, .d xB, boolA sT, .d xT] 9 .ow none, .row [boolA s9, .d x9] N .ow none], (N + 1)⟩ (fun cf => by kernel_rfl) (store_rat IB.1 IT.1 rfl) ?_
          refine rs_all (s1 := ⟨[.ag [boolA su, .d xu], .ag [boolA sm, .d xm], .ptr 0 0 0, .ptr 1 1 0, .ptr 2 2 0, Yes, .ptr 3 3 0, .ptr 4 4 0, J 0, .ptr 5 5 0, J 0, .ptr 6 6 0, .ptr 7 7 0, J 0, .ptr 8 8 0, .ptr 9 9 0, .fn 55 [.ptr 8 8 0, .ptr 9 9 0], .ptr 10 N 0, .ag [boolA sm, .d xm], J (Int.sign (k : Int)), No, U, .tu [.ag [boolA sq4, .d xq4], .ag [boolA sr4, .d xr4], J 0], .ag [boolA sm, .d xm], .ag [boolA s1, .d x1], .ag [boolA s2, .d x2], .ag [boolA s3, .d x3], .tu [.ag [boolA sq4, .d xq4], .ag [boolA sr4, .d xr4], J 0], .ag [boolA sq4, .d xq4], .ag [boolA sr4, .d xr4], J 0, .tu [.ag [boolA sR, .d xR], J 0], .ag [boolA sq4, .d xq4], .tu [.ag [boolA sR, .d xR], J 0], .ag [boolA sR, .d xR], J 0, .tu [.ag [boolA sq5, .d xq5], .ag [boolA sr5, .d xr5], J 0], .ag [boolA su, .d xu], .ag [boolA sm, .d xm], .tu [.ag [boolA sq5, .d xq5], .ag [boolA sr5, .d xr5], J 0], .ag [boolA sq5, .d xq5], .ag [boolA sr5, .d xr5], J 0, .ag [boolA sm, .d xm], .ag [boolA s6, .d x6], .ag [boolA sm, .d xm, boolA s6, .d x6], .ag [boolA sr5, .d xr5], .ag [boolA s7, .d x7], .ag [boolA sr5, .d xr5, boolA s7, .d x7], .fn 55 [.ptr 8 8 0, .ptr 9 9 0], v50, v51, v52, v53, v54, v55, v56, .ptr 9 9 2, .ag [boolA sT, .d xT], J (Int.sign E.2), No] ++ us 7 ++ [.ag [boolA s9, .d x9], .ptr 9 9 2, .ag [boolA sT, .d xT], .ag [boolA s9, .d x9], J (cmpZ E.2 ((1 : Nat) : Int)), No, No, .ptr 9 9 2, .ag [boolA sT, .d xT], .ag [boolA sR, .d xR], J (cmpZ E.2 (R : Int)), No, No, No, .ptr 9 9 2, .ag [boolA sT, .d xT], .ag [boolA sm, .d xm], .ag [boolA s12, .d x12], .ag [boolA s9, .d x9], J (cmpZ ((Nat.gcd E.2.natAbs (k : Int).natAbs : Nat) : Int) ((1 : Nat) : Int)), No, No, U, .ptr 9 9 0, .ag [boolA sB, .d xB], .ptr 9 9 2, .ag [boolA sT, .d xT], .ag [boolA sB, .d xB, boolA sT, .d xT]], ⟨[.row [boolA su, .d xu] 0 .ow none, .row [boolA sm, .d xm] 1 .ow none, .row [boolA sB, .d xB, boolA sT, .d xT] 2 .ow none, .row [boolA sq4, .d xq4] 3 .ow none, .row [boolA sr4, .d xr4] 4 .ow none, .row [boolA sR, .d xR] 5 .ow none, .row [boolA sq5, .d xq5] 6 .ow none, .row [boolA sr5, .d xr5] 7 .ow none, .row [boolA ra.1, .d ra.2, boolA rs.1, .d rs.2] 8 .ow none, .row [boolA sB, .d xB, boolA sT, .d xT] 9 .ow none, .row [boolA s9, .d x9] N .ow none], (N + 1)⟩⟩) (fun cf => by kernel_rfl) ?_
          refine ev_ret ?_
          exact ⟨((sB, xB), (sT, xT), true), ⟨R, hR1, hR2, E, hE, E.1, E.2, .inr ⟨hsT, rfl, rfl⟩, .inl ⟨⟨by omega, by omega, by omega⟩, rfl, ⟨_, IB⟩, ⟨_, IT⟩⟩⟩, .inr rfl, .tu [.ag [boolA sB, .d xB, boolA sT, .d xT], Yes], by kernel_rfl, by kernel_rfl⟩
        ·
          have hb13' := bne_yes hb13
          have hb13c := mt cmpZ_zero.mpr hb13'
          simp only [Int.natAbs_natCast] at hb13c
          refine ev_true (by kernel_rfl) ?_
          refine ev_seq ?_
          refine ev_reg (by kernel_rfl) ?_
          refine rs_all (s1 := ⟨[.ag [boolA su, .d xu], .ag [boolA sm, .d xm], .ptr 0 0 0, .ptr 1 1 0, .ptr 2 2 0, No, .ptr 3 3 0, .ptr 4 4 0, J 0, .ptr 5 5 0, J 0, .ptr 6 6 0, .ptr 7 7 0, J 0, .ptr 8 8 0, .ptr 9 9 0, .fn 55 [.ptr 8 8 0, .ptr 9 9 0], .ptr 10 N 0, .ag [boolA sm, .d xm], J (Int.sign (k : Int)), No, U, .tu [.ag [boolA sq4, .d xq4], .ag [boolA sr4, .d xr4], J 0], .ag [boolA sm, .d xm], .ag [boolA s1, .d x1], .ag [boolA s2, .d x2], .ag [boolA s3, .d x3], .tu [.ag [boolA sq4, .d xq4], .ag [boolA sr4, .d xr4], J 0], .ag [boolA sq4, .d xq4], .ag [boolA sr4, .d xr4], J 0, .tu [.ag [boolA sR, .d xR], J 0], .ag [boolA sq4, .d xq4], .tu [.ag [boolA sR, .d xR], J 0], .ag [boolA sR, .d xR], J 0, .tu [.ag [boolA sq5, .d xq5], .ag [boolA sr5, .d xr5], J 0], .ag [boolA su, .d xu], .ag [boolA sm, .d xm], .tu [.ag [boolA sq5, .d xq5], .ag [boolA sr5, .d xr5], J 0], .ag [boolA sq5, .d xq5], .ag [boolA sr5, .d xr5], J 0, .ag [boolA sm, .d xm], .ag [boolA s6, .d x6], .ag [boolA sm, .d xm, boolA s6, .d x6], .ag [boolA sr5, .d xr5], .ag [boolA s7, .d x7], .ag [boolA sr5, .d xr5, boolA s7, .d x7], .fn 55 [.ptr 8 8 0, .ptr 9 9 0], v50, v51, v52, v53, v54, v55, v56, .ptr 9 9 2, .ag [boolA sT, .d xT], J (Int.sign E.2), No] ++ us 7 ++ [.ag [boolA s9, .d x9], .ptr 9 9 2, .ag [boolA sT, .d xT], .ag [boolA s9, .d x9], J (cmpZ E.2 ((1 : Nat) : Int)), No, No, .ptr 9 9 2, .ag [boolA sT, .d xT], .ag [boolA sR, .d xR], J (cmpZ E.2 (R : Int)), No, No, No, .ptr 9 9 2, .ag [boolA sT, .d xT], .ag [boolA sm, .d xm], .ag [boolA s12, .d x12], .ag [boolA s9, .d x9], J (cmpZ ((Nat.gcd E.2.natAbs (k : Int).natAbs : Nat) : Int) ((1 : Nat) : Int)), Yes, Yes, .ag [No, .d (.v (.slice none 0 0)), No, .d (.v (.slice none 0 0))]] ++ us 5, ⟨[.row [boolA su, .d xu] 0 .ow none, .row [boolA sm, .d xm] 1 .ow none, .row [No, .d (.v (.slice none 0 0)), No, .d (.v (.slice none 0 0))] 2 .ow none, .row [boolA sq4, .d xq4] 3 .ow none, .row [boolA sr4, .d xr4] 4 .ow none, .row [boolA sR, .d xR] 5 .ow none, .row [boolA sq5, .d xq5] 6 .ow none, .row [boolA sr5, .d xr5] 7 .ow none, .row [boolA ra.1, .d ra.2, boolA rs.1, .d rs.2] 8 .ow none, .row [boolA sB, .d xB, boolA sT, .d xT] 9 .ow none, .row [boolA s9, .d x9] N .ow none], (N + 1)⟩⟩) (fun cf => by kernel_rfl) ?_
          refine ev_ret ?_
          exact ⟨((false, nilD), (false, nilD), false), ⟨R, hR1, hR2, E, hE, E.1, E.2, .inr ⟨hsT, rfl, rfl⟩, .inr ⟨by omega, rfl⟩⟩, .inr rfl, .tu [.ag [No, .d (.v (.slice none 0 0)), No, .d (.v (.slice none 0 0))], No], by kernel_rfl, by kernel_rfl⟩
      ·
        have hb11' := of_decide_eq_true hb11
        have hb11c := cmpZ_pos.mp hb11'
        refine rs_alu [(89, Yes)] (fun cf => by kernel_rfl) ?_
        refine ev_true (by kernel_rfl) ?_
        refine ev_seq ?_
        refine ev_reg (by kernel_rfl) ?_
        refine rs_all (s1 := ⟨[.ag [boolA su, .d xu], .ag [boolA sm, .d xm], .ptr 0 0 0, .ptr 1 1 0, .ptr 2 2 0, No, .ptr 3 3 0, .ptr 4 4 0, J 0, .ptr 5 5 0, J 0, .ptr 6 6 0, .ptr 7 7 0, J 0, .ptr 8 8 0, .ptr 9 9 0, .fn 55 [.ptr 8 8 0, .ptr 9 9 0], .ptr 10 N 0, .ag [boolA sm, .d xm], J (Int.sign (k : Int)), No, U, .tu [.ag [boolA sq4, .d xq4], .ag [boolA sr4, .d xr4], J 0], .ag [boolA sm, .d xm], .ag [boolA s1, .d x1], .ag [boolA s2, .d x2], .ag [boolA s3, .d x3], .tu [.ag [boolA sq4, .d xq4], .ag [boolA sr4, .d xr4], J 0], .ag [boolA sq4, .d xq4], .ag [boolA sr4, .d xr4], J 0, .tu [.ag [boolA sR, .d xR], J 0], .ag [boolA sq4, .d xq4], .tu [.ag [boolA sR, .d xR], J 0], .ag [boolA sR, .d xR], J 0, .tu [.ag [boolA sq5, .d xq5], .ag [boolA sr5, .d xr5], J 0], .ag [boolA su, .d xu], .ag [boolA sm, .d xm], .tu [.ag [boolA sq5, .d xq5], .ag [boolA sr5, .d xr5], J 0], .ag [boolA sq5, .d xq5], .ag [boolA sr5, .d xr5], J 0, .ag [boolA sm, .d xm], .ag [boolA s6, .d x6], .ag [boolA sm, .d xm, boolA s6, .d x6], .ag [boolA sr5, .d xr5], .ag [boolA s7, .d x7], .ag [boolA sr5, .d xr5, boolA s7, .d x7], .fn 55 [.ptr 8 8 0, .ptr 9 9 0], v50, v51, v52, v53, v54, v55, v56, .ptr 9 9 2, .ag [boolA sT, .d xT], J (Int.sign E.2), No] ++ us 7 ++ [.ag [boolA s9, .d x9], .ptr 9 9 2, .ag [boolA sT, .d xT], .ag [boolA s9, .d x9], J (cmpZ E.2 ((1 : Nat) : Int)), No, No, .ptr 9 9 2, .ag [boolA sT, .d xT], .ag [boolA sR, .d xR], J (cmpZ E.2 (R : Int)), Yes, Yes, Yes] ++ us 7 ++ [Yes, .ag [No, .d (.v (.slice none 0 0)), No, .d (.v (.slice none 0 0))]] ++ us 5, ⟨[.row [boolA su, .d xu] 0 .ow none, .row [boolA sm, .d xm] 1 .ow none, .row [No, .d (.v (.slice none 0 0)), No, .d (.v (.slice none 0 0))] 2 .ow none, .row [boolA sq4, .d xq4] 3 .ow none, .row [boolA sr4, .d xr4] 4 .ow none, .row [boolA sR, .d xR] 5 .ow none, .row [boolA sq5, .d xq5] 6 .ow none, .row [boolA sr5, .d xr5] 7 .ow none, .row [boolA ra.1, .d ra.2, boolA rs.1, .d rs.2] 8 .ow none, .row [boolA sB, .d xB, boolA sT, .d xT] 9 .ow none, .row [boolA s9, .d x9] N .ow none], (N + 1)⟩⟩) (fun cf => by kernel_rfl) ?_
        refine ev_ret ?_
        exact ⟨((false, nilD), (false, nilD), false), ⟨R, hR1, hR2, E, hE, E.1, E.2, .inr ⟨hsT, rfl, rfl⟩, .inr ⟨by omega, rfl⟩⟩, .inr rfl, .tu [.ag [No, .d (.v (.slice none 0 0)), No, .d (.v (.slice none 0 0))], No], by kernel_rfl, by kernel_rfl⟩
    ·
      have hb10' := of_decide_eq_true hb10
      have hb10c := cmpZ_neg.mp hb10'
      refine rs_alu [(80, Yes), (81, Yes), (89, Yes)] (fun cf => by kernel_rfl) ?_
      refine ev_true (by kernel_rfl) ?_
      refine ev_seq ?_
      refine ev_reg (by kernel_rfl) ?_
      refine rs_all (s1 := ⟨[.ag [boolA su, .d xu], .ag [boolA sm, .d xm], .ptr 0 0 0, .ptr 1 1 0, .ptr 2 2 0, No, .ptr 3 3 0, .ptr 4 4 0, J 0, .ptr 5 5 0, J 0, .ptr 6 6 0, .ptr 7 7 0, J 0, .ptr 8 8 0, .ptr 9 9 0, .fn 55 [.ptr 8 8 0, .ptr 9 9 0], .ptr 10 N 0, .ag [boolA sm, .d xm], J (Int.sign (k : Int)), No, U, .tu [.ag [boolA sq4, .d xq4], .ag [boolA sr4, .d xr4], J 0], .ag [boolA sm, .d xm], .ag [boolA s1, .d x1], .ag [boolA s2, .d x2], .ag [boolA s3, .d x3], .tu [.ag [boolA sq4, .d xq4], .ag [boolA sr4, .d xr4], J 0], .ag [boolA sq4, .d xq4], .ag [boolA sr4, .d xr4], J 0, .tu [.ag [boolA sR, .d xR], J 0], .ag [boolA sq4, .d xq4], .tu [.ag [boolA sR, .d xR], J 0], .ag [boolA sR, .d xR], J 0, .tu [.ag [boolA sq5, .d xq5], .ag [boolA sr5, .d xr5], J 0], .ag [boolA su, .d xu], .ag [boolA sm, .d xm], .tu [.ag [boolA sq5, .d xq5], .ag [boolA sr5, .d xr5], J 0], .ag [boolA sq5, .d xq5], .ag [boolA sr5, .d xr5], J 0, .ag [boolA sm, .d xm], .ag [boolA s6, .d x6], .ag [boolA sm, .d xm, boolA s6, .d x6], .ag [boolA sr5, .d xr5], .ag [boolA s7, .d x7], .ag [boolA sr5, .d xr5, boolA s7, .d x7], .fn 55 [.ptr 8 8 0, .ptr 9 9 0], v50, v51, v52, v53, v54, v55, v56, .ptr 9 9 2, .ag [boolA sT, .d xT], J (Int.sign E.2), No] ++ us 7 ++ [.ag [boolA s9, .d x9], .ptr 9 9 2, .ag [boolA sT, .d xT], .ag [boolA s9, .d x9], J (cmpZ E.2 ((1 : Nat) : Int)), Yes, Yes] ++ us 5 ++ [Yes, Yes] ++ us 7 ++ [Yes, .ag [No, .d (.v (.slice none 0 0)), No, .d (.v (.slice none 0 0))]] ++ us 5, ⟨[.row [boolA su, .d xu] 0 .ow none, .row [boolA sm, .d xm] 1 .ow none, .row [No, .d (.v (.slice none 0 0)), No, .d (.v (.slice none 0 0))] 2 .ow none, .row [boolA sq4, .d xq4] 3 .ow none, .row [boolA sr4, .d xr4] 4 .ow none, .row [boolA sR, .d xR] 5 .ow none, .row [boolA sq5, .d xq5] 6 .ow none, .row [boolA sr5, .d xr5] 7 .ow none, .row [boolA ra.1, .d ra.2, boolA rs.1, .d rs.2] 8 .ow none, .row [boolA sB, .d xB, boolA sT, .d xT] 9 .ow none, .row [boolA s9, .d x9] N .ow none], (N + 1)⟩⟩) (fun cf => by kernel_rfl) ?_
      refine ev_ret ?_
      exact ⟨((false, nilD), (false, nilD), false), ⟨R, hR1, hR2, E, hE, E.1, E.2, .inr ⟨hsT, rfl, rfl⟩, .inr ⟨by omega, rfl⟩⟩, .inr rfl, .tu [.ag [No, .d (.v (.slice none 0 0)), No, .d (.v (.slice none 0 0))], No], by kernel_rfl, by kernel_rfl⟩
  ·
    have hb8' := of_decide_eq_true hb8
    have hsT := sgn_neg.mp hb8'
    refine ev_true (by kernel_rfl) ?_
    refine ev_reg (by kernel_rfl) ?_
    refine rs_up 2 [(61, .ptr 9 9 0), (62, .ag [boolA sB, .d xB])] (fun cf => by kernel_rfl) ?_
    obtain ⟨⟨s14, x14⟩, ⟨l14, I14⟩, g14⟩ := p_neg IB (by omega)
    have hl14 := len_neg IB I14
    refine rs_cp 57 [.ag [boolA sB, .d xB]] false (some 63) (.ag [boolA s14, .d x14]) (by kernel_rfl) (g14) (by kernel_rfl) ?_
    refine rs_up 2 [(64, .ptr 9 9 2), (65, .ag [boolA sT, .d xT])] (fun cf => by kernel_rfl) ?_
    obtain ⟨⟨s15, x15⟩, ⟨l15, I15⟩, g15⟩ := p_neg IT (by omega)
    have hl15 := len_neg IT I15
    refine rs_cp 57 [.ag [boolA sT, .d xT]] false (some 66) (.ag [boolA s15, .d x15]) (by kernel_rfl) (g15) (by kernel_rfl) ?_
    refine rs_up 1 [(67, .ag [boolA s14, .d x14, boolA s15, .d x15])] (fun cf => by kernel_rfl) ?_
    refine rs_cu (fun m9 => storeA Try.cx 79 m9 (.ptr 9 9 0) (.ag [boolA s14, .d x14, boolA s15, .d x15])) none ⟨[.row [boolA su, .d xu] 0 .ow none, .row [boolA sm, .d xm] 1 .ow none, .row [No, .d (.v (.slice none 0 0)), No, .d (.v (.slice none 0 0))] 2 .ow none, .row [boolA sq4, .d xq4] 3 .ow none, .row [boolA sr4, .d xr4] 4 .ow none, .row [boolA sR, .d xR] 5 .ow none, .row [boolA sq5, .d xq5] 6 .ow none, .row [boolA sr5, .d xr5] 7 .ow none, .row [boolA ra.1, .d ra.2, boolA rs.1, .d rs.2] 8 .ow none, .row [boolA s14, .d x14, boolA s15, .d x15] 9 .ow none], N⟩ (fun cf => by kernel_rfl) (store_row I14.1 I15.1 rfl) ?_
    refine rs_alu [] (fun cf => by kernel_rfl) ?_
    refine ev_seq ?_
    refine ev_reg (by kernel_rfl) ?_
    obtain ⟨⟨s16, x16⟩, ⟨l16, I16⟩, g16⟩ := p_of (n := 1) (by omega)
    have hl16 : l16.length ≤ 1 := iv_len I16 (by omega)
    have hpl16 := iv_pos_len I16 (by omega)
    refine rs_cp 44 [J 1] false (some 68) (.ag [boolA s16, .d x16]) (by kernel_rfl) (g16) (by kernel_rfl) ?_
    refine rs_upm 1 [(17, .ptr 10 N 0)] ⟨[.row [boolA su, .d xu] 0 .ow none, .row [boolA sm, .d xm] 1 .ow none, .row [No, .d (.v (.slice none 0 0)), No, .d (.v (.slice none 0 0))] 2 .ow none, .row [boolA sq4, .d xq4] 3 .ow none, .row [boolA sr4, .d xr4] 4 .ow none, .row [boolA sR, .d xR] 5 .ow none, .row [boolA sq5, .d xq5] 6 .ow none, .row [boolA sr5, .d xr5] 7 .ow none, .row [boolA ra.1, .d ra.2, boolA rs.1, .d rs.2] 8 .ow none, .row [boolA s14, .d x14, boolA s15, .d x15] 9 .ow none, .row [No, .d (.v (.slice none 0 0))] N .ow none], (N + 1)⟩ (fun cf => by kernel_rfl) ?_
    refine rs_cu (fun m9 => storeA Try.cx 34 m9 (.ptr 10 N 0) (.ag [boolA s16, .d x16])) none ⟨[.row [boolA su, .d xu] 0 .ow none, .row [boolA sm, .d xm] 1 .ow none, .row [No, .d (.v (.slice none 0 0)), No, .d (.v (.slice none 0 0))] 2 .ow none, .row [boolA sq4, .d xq4] 3 .ow none, .row [boolA sr4, .d xr4] 4 .ow none, .row [boolA sR, .d xR] 5 .ow none, .row [boolA sq5, .d xq5] 6 .ow none, .row [boolA sr5, .d xr5] 7 .ow none, .row [boolA ra.1, .d ra.2, boolA rs.1, .d rs.2] 8 .ow none, .row [boolA s14, .d x14, boolA s15, .d x15] 9 .ow none, .row [boolA s16, .d x16] N .ow none], (N + 1)⟩ (fun cf => by kernel_rfl) (store_int I16.1 rfl) ?_
    refine rs_alu [] (fun cf => by kernel_rfl) ?_
    refine ev_seq ?_
    refine ev_seq ?_
    refine ev_reg (by kernel_rfl) ?_
    refine rs_up 2 [(69, .ptr 9 9 2), (70, .ag [boolA s15, .d x15])] (fun cf => by kernel_rfl) ?_
    refine rs_cv (fun m9 => loadA Try.cx 34 m9 (.ptr 10 N 0)) (some 71) (.ag [boolA s16, .d x16]) (fun cf => by kernel_rfl) (load_int rfl) ?_
    refine rs_cp 56 [.ag [boolA s15, .d x15], .ag [boolA s16, .d x16]] false (some 72) (J (cmpZ (-E.2) ((1 : Nat) : Int))) (by kernel_rfl) (p_icmp I15 (by omega) I16 (by omega)) (by kernel_rfl) ?_
    refine rs_up 2 [(73, boolA (decide ((cmpZ (-E.2) ((1 : Nat) : Int)) < 0))), (74, boolA (decide ((cmpZ (-E.2) ((1 : Nat) : Int)) < 0)))] (fun cf => by kernel_rfl) ?_
    rcases hb17 : ((decide ((cmpZ (-E.2) ((1 : Nat) : Int)) < 0)) : Bool) with _ | _
    ·
      have hb17' := of_decide_eq_false hb17
      have hb17c := mt cmpZ_neg.mpr hb17'
      refine rs_up 3 [(75, .ptr 9 9 2), (76, .ag [boolA s15, .d x15]), (77, .ag [boolA sR, .d xR])] (fun cf => by kernel_rfl) ?_
      refine rs_cp 56 [.ag [boolA s15, .d x15], .ag [boolA sR, .d xR]] false (some 78) (J (cmpZ (-E.2) (R : Int))) (by kernel_rfl) (p_icmp I15 (by omega) IR (by omega)) (by kernel_rfl) ?_
      refine rs_up 3 [(79, boolA (decide ((cmpZ (-E.2) (R : Int)) > 0))), (80, boolA (decide ((cmpZ (-E.2) (R : Int)) > 0))), (81, boolA (decide ((cmpZ (-E.2) (R : Int)) > 0)))] (fun cf => by kernel_rfl) ?_
      rcases hb18 : ((decide ((cmpZ (-E.2) (R : Int)) > 0)) : Bool) with _ | _
      ·
        have hb18' := of_decide_eq_false hb18
        have hb18c := mt cmpZ_pos.mpr hb18'
        refine rs_up 3 [(82, .ptr 9 9 2), (83, .ag [boolA s15, .d x15]), (84, .ag [boolA sm, .d xm])] (fun cf => by kernel_rfl) ?_
        obtain ⟨⟨s19, x19⟩, ⟨l19, I19⟩, g19⟩ := p_igcd I15 (by omega) IM (by omega) (by omega)
        have hl19 := len_gcd IM (by omega) I19
        refine rs_cp 58 [.ag [boolA s15, .d x15], .ag [boolA sm, .d xm]] false (some 85) (.ag [boolA s19, .d x19]) (by kernel_rfl) (g19) (by kernel_rfl) ?_
        refine rs_cv (fun m9 => loadA Try.cx 34 m9 (.ptr 10 N 0)) (some 86) (.ag [boolA s16, .d x16]) (fun cf => by kernel_rfl) (load_int rfl) ?_
        refine rs_cp 56 [.ag [boolA s19, .d x19], .ag [boolA s16, .d x16]] false (some 87) (J (cmpZ ((Nat.gcd (-E.2).natAbs (k : Int).natAbs : Nat) : Int) ((1 : Nat) : Int))) (by kernel_rfl) (p_icmp I19 (by omega) I16 (by omega)) (by kernel_rfl) ?_
        refine rs_alu [(88, boolA ((cmpZ ((Nat.gcd (-E.2).natAbs (k : Int).natAbs : Nat) : Int) ((1 : Nat) : Int)) != 0)), (89, boolA ((cmpZ ((Nat.gcd (-E.2).natAbs (k : Int).natAbs : Nat) : Int) ((1 : Nat) : Int)) != 0))] (fun cf => by kernel_rfl) ?_
        rcases hb20 : (((cmpZ ((Nat.gcd (-E.2).natAbs (k : Int).natAbs : Nat) : Int) ((1 : Nat) : Int)) != 0) : Bool) with _ | _
        ·
          have hb20' := bne_no hb20
          have hb20c := cmpZ_zero.mp hb20'
          simp only [Int.natAbs_natCast] at hb20c
          refine ev_false (by kernel_rfl) ?_
          refine ev_skip ?_
          refine ev_seq ?_
          refine ev_reg (by kernel_rfl) ?_
          refine rs_up 5 [(91, .ptr 9 9 0), (92, .ag [boolA s14, .d x14]), (93, .ptr 9 9 2), (94, .ag [boolA s15, .d x15]), (95, .ag [boolA s14, .d x14, boolA s15, .d x15])] (fun cf => by kernel_rfl) ?_
          refine rs_cu (fun m9 => storeA Try.cx 36 m9 (.ptr 2 2 0) (.ag [boolA s14, .d x14, boolA s15, .d x15])) none ⟨[.row [boolA su, .d xu] 0 .ow none, .row [boolA sm, .d xm] 1 .ow none, .row [boolA s14, .d x14, boolA s15, .d x15] 2 .ow none, .row [boolA sq4, .d xq4] 3 .ow none, .row [boolA sr4, .d xr4] 4 .ow none, .row [boolA sR, .d xR] 5 .ow none, .row [boolA sq5, .d xq5] 6 .ow none, .row [boolA sr5, .d xr5] 7 .ow none, .row [boolA ra.1, .d ra.2, boolA rs.1, .d rs.2] 8 .ow none, .row [boolA s14, .d x14, boolA s15, .d x15] 9 .ow none, .row [boolA s16, .d x16] N .ow none], (N + 1)⟩ (fun cf => by kernel_rfl) (store_rat I14.1 I15.1 rfl) ?_
          refine rs_all (s1 := ⟨[.ag [boolA su, .d xu], .ag [boolA sm, .d xm], .ptr 0 0 0, .ptr 1 1 0, .ptr 2 2 0, Yes, .ptr 3 3 0, .ptr 4 4 0, J 0, .ptr 5 5 0, J 0, .ptr 6 6 0, .ptr 7 7 0, J 0, .ptr 8 8 0, .ptr 9 9 0, .fn 55 [.ptr 8 8 0, .ptr 9 9 0], .ptr 10 N 0, .ag [boolA sm, .d xm], J (Int.sign (k : Int)), No, U, .tu [.ag [boolA sq4, .d xq4], .ag [boolA sr4, .d xr4], J 0], .ag [boolA sm, .d xm], .ag [boolA s1, .d x1], .ag [boolA s2, .d x2], .ag [boolA s3, .d x3], .tu [.ag [boolA sq4, .d xq4], .ag [boolA sr4, .d xr4], J 0], .ag [boolA sq4, .d xq4], .ag [boolA sr4, .d xr4], J 0, .tu [.ag [boolA sR, .d xR], J 0], .ag [boolA sq4, .d xq4], .tu [.ag [boolA sR, .d xR], J 0], .ag [boolA sR, .d xR], J 0, .tu [.ag [boolA sq5, .d xq5], .ag [boolA sr5, .d xr5], J 0], .ag [boolA su, .d xu], .ag [boolA sm, .d xm], .tu [.ag [boolA sq5, .d xq5], .ag [boolA sr5, .d xr5], J 0], .ag [boolA sq5, .d xq5], .ag [boolA sr5, .d xr5], J 0, .ag [boolA sm, .d xm], .ag [boolA s6, .d x6], .ag [boolA sm, .d xm, boolA s6, .d x6], .ag [boolA sr5, .d xr5], .ag [boolA s7, .d x7], .ag [boolA sr5, .d xr5, boolA s7, .d x7], .fn 55 [.ptr 8 8 0, .ptr 9 9 0], v50, v51, v52, v53, v54, v55, v56, .ptr 9 9 2, .ag [boolA sT, .d xT], J (Int.sign E.2), Yes, .ptr 9 9 0, .ag [boolA sB, .d xB], .ag [boolA s14, .d x14], .ptr 9 9 2, .ag [boolA sT, .d xT], .ag [boolA s15, .d x15], .ag [boolA s14, .d x14, boolA s15, .d x15], .ag [boolA s16, .d x16], .ptr 9 9 2, .ag [boolA s15, .d x15], .ag [boolA s16, .d x16], J (cmpZ (-E.2) ((1 : Nat) : Int)), No, No, .ptr 9 9 2, .ag [boolA s15, .d x15], .ag [boolA sR, .d xR], J (cmpZ (-E.2) (R : Int)), No, No, No, .ptr 9 9 2, .ag [boolA s15, .d x15], .ag [boolA sm, .d xm], .ag [boolA s19, .d x19], .ag [boolA s16, .d x16], J (cmpZ ((Nat.gcd (-E.2).natAbs (k : Int).natAbs : Nat) : Int) ((1 : Nat) : Int)), No, No, U, .ptr 9 9 0, .ag [boolA s14, .d x14], .ptr 9 9 2, .ag [boolA s15, .d x15], .ag [boolA s14, .d x14, boolA s15, .d x15]], ⟨[.row [boolA su, .d xu] 0 .ow none, .row [boolA sm, .d xm] 1 .ow none, .row [boolA s14, .d x14, boolA s15, .d x15] 2 .ow none, .row [boolA sq4, .d xq4] 3 .ow none, .row [boolA sr4, .d xr4] 4 .ow none, .row [boolA sR, .d xR] 5 .ow none, .row [boolA sq5, .d xq5] 6 .ow none, .row [boolA sr5, .d xr5] 7 .ow none, .row [boolA ra.1, .d ra.2, boolA rs.1, .d rs.2] 8 .ow none, .row [boolA s14, .d x14, boolA s15, .d x15] 9 .ow none, .row [boolA s16, .d x16] N .ow none], (N + 1)⟩⟩) (fun cf => by kernel_rfl) ?_
          refine ev_ret ?_
          exact ⟨((s14, x14), (s15, x15), true), ⟨R, hR1, hR2, E, hE, -E.1, -E.2, .inl ⟨hsT, rfl, rfl⟩, .inl ⟨⟨by omega, by omega, by omega⟩, rfl, ⟨_, I14⟩, ⟨_, I15⟩⟩⟩, .inr rfl, .tu [.ag [boolA s14, .d x14, boolA s15, .d x15], Yes], by kernel_rfl, by kernel_rfl⟩
        ·
          have hb20' := bne_yes hb20
          have hb20c := mt cmpZ_zero.mpr hb20'
          simp only [Int.natAbs_natCast] at hb20c
          refine ev_true (by kernel_rfl) ?_
          refine ev_seq ?_
          refine ev_reg (by kernel_rfl) ?_
          refine rs_all (s1 := ⟨[.ag [boolA su, .d xu], .ag [boolA sm, .d xm], .ptr 0 0 0, .ptr 1 1 0, .ptr 2 2 0, No, .ptr 3 3 0, .ptr 4 4 0, J 0, .ptr 5 5 0, J 0, .ptr 6 6 0, .ptr 7 7 0, J 0, .ptr 8 8 0, .ptr 9 9 0, .fn 55 [.ptr 8 8 0, .ptr 9 9 0], .ptr 10 N 0, .ag [boolA sm, .d xm], J (Int.sign (k : Int)), No, U, .tu [.ag [boolA sq4, .d xq4], .ag [boolA sr4, .d xr4], J 0], .ag [boolA sm, .d xm], .ag [boolA s1, .d x1], .ag [boolA s2, .d x2], .ag [boolA s3, .d x3], .tu [.ag [boolA sq4, .d xq4], .ag [boolA sr4, .d xr4], J 0], .ag [boolA sq4, .d xq4], .ag [boolA sr4, .d xr4], J 0, .tu [.ag [boolA sR, .d xR], J 0], .ag [boolA sq4, .d xq4], .tu [.ag [boolA sR, .d xR], J 0], .ag [boolA sR, .d xR], J 0, .tu [.ag [boolA sq5, .d xq5], .ag [boolA sr5, .d xr5], J 0], .ag [boolA su, .d xu], .ag [boolA sm, .d xm], .tu [.ag [boolA sq5, .d xq5], .ag [boolA sr5, .d xr5], J 0], .ag [boolA sq5, .d xq5], .ag [boolA sr5, .d xr5], J 0, .ag [boolA sm, .d xm], .ag [boolA s6, .d x6], .ag [boolA sm, .d xm, boolA s6, .d x6], .ag [boolA sr5, .d xr5], .ag [boolA s7, .d x7], .ag [boolA sr5, .d xr5, boolA s7, .d x7], .fn 55 [.ptr 8 8 0, .ptr 9 9 0], v50, v51, v52, v53, v54, v55, v56, .ptr 9 9 2, .ag [boolA sT, .d xT], J (Int.sign E.2), Yes, .ptr 9 9 0, .ag [boolA sB, .d xB], .ag [boolA s14, .d x14], .ptr 9 9 2, .ag [boolA sT, .d xT], .ag [boolA s15, .d x15], .ag [boolA s14, .d x14, boolA s15, .d x15], .ag [boolA s16, .d x16], .ptr 9 9 2, .ag [boolA s15, .d x15], .ag [boolA s16, .d x16], J (cmpZ (-E.2) ((1 : Nat) : Int)), No, No, .ptr 9 9 2, .ag [boolA s15, .d x15], .ag [boolA sR, .d xR], J (cmpZ (-E.2) (R : Int)), No, No, No, .ptr 9 9 2, .ag [boolA s15, .d x15], .ag [boolA sm, .d xm], .ag [boolA s19, .d x19], .ag [boolA s16, .d x16], J (cmpZ ((Nat.gcd (-E.2).natAbs (k : Int).natAbs : Nat) : Int) ((1 : Nat) : Int)), Yes, Yes, .ag [No, .d (.v (.slice none 0 0)), No, .d (.v (.slice none 0 0))]] ++ us 5, ⟨[.row [boolA su, .d xu] 0 .ow none, .row [boolA sm, .d xm] 1 .ow none, .row [No, .d (.v (.slice none 0 0)), No, .d (.v (.slice none 0 0))] 2 .ow none, .row [boolA sq4, .d xq4] 3 .ow none, .row [boolA sr4, .d xr4] 4 .ow none, .row [boolA sR, .d xR] 5 .ow none, .row [boolA sq5, .d xq5] 6 .ow none, .row [boolA sr5, .d xr5] 7 .ow none, .row [boolA ra.1, .d ra.2, boolA rs.1, .d rs.2] 8 .ow none, .row [boolA s14, .d x14, boolA s15, .d x15] 9 .ow none, .row [boolA s16, .d x16] N .ow none], (N + 1)⟩⟩) (fun cf => by kernel_rfl) ?_
          refine ev_ret ?_
          exact ⟨((false, nilD), (false, nilD), false), ⟨R, hR1, hR2, E, hE, -E.1, -E.2, .inl ⟨hsT, rfl, rfl⟩, .inr ⟨by omega, rfl⟩⟩, .inr rfl, .tu [.ag [No, .d (.v (.slice none 0 0)), No, .d (.v (.slice none 0 0))], No], by kernel_rfl, by kernel_rfl⟩
      ·
        have hb18' := of_decide_eq_true hb18
        have hb18c := cmpZ_pos.mp hb18'
        refine rs_alu [(89, Yes)] (fun cf => by kernel_rfl) ?_
        refine ev_true (by kernel_rfl) ?_
        refine ev_seq ?_
        refine ev_reg (by kernel_rfl) ?_
        refine rs_all (s1 := ⟨[.ag [boolA su, .d xu], .ag [boolA sm, .d xm], .ptr 0 0 0, .ptr 1 1 0, .ptr 2 2 0, No, .ptr 3 3 0, .ptr 4 4 0, J 0, .ptr 5 5 0, J 0, .ptr 6 6 0, .ptr 7 7 0, J 0, .ptr 8 8 0, .ptr 9 9 0, .fn 55 [.ptr 8 8 0, .ptr 9 9 0], .ptr 10 N 0, .ag [boolA sm, .d xm], J (Int.sign (k : Int)), No, U, .tu [.ag [boolA sq4, .d xq4], .ag [boolA sr4, .d xr4], J 0], .ag [boolA sm, .d xm], .ag [boolA s1, .d x1], .ag [boolA s2, .d x2], .ag [boolA s3, .d x3], .tu [.ag [boolA sq4, .d xq4], .ag [boolA sr4, .d xr4], J 0], .ag [boolA sq4, .d xq4], .ag [boolA sr4, .d xr4], J 0, .tu [.ag [boolA sR, .d xR], J 0], .ag [boolA sq4, .d xq4], .tu [.ag [boolA sR, .d xR], J 0], .ag [boolA sR, .d xR], J 0, .tu [.ag [boolA sq5, .d xq5], .ag [boolA sr5, .d xr5], J 0], .ag [boolA su, .d xu], .ag [boolA sm, .d xm], .tu [.ag [boolA sq5, .d xq5], .ag [boolA sr5, .d xr5], J 0], .ag [boolA sq5, .d xq5], .ag [boolA sr5, .d xr5], J 0, .ag [boolA sm, .d xm], .ag [boolA s6, .d x6], .ag [boolA sm, .d xm, boolA s6, .d x6], .ag [boolA sr5, .d xr5], .ag [boolA s7, .d x7], .ag [boolA sr5, .d xr5, boolA s7, .d x7], .fn 55 [.ptr 8 8 0, .ptr 9 9 0], v50, v51, v52, v53, v54, v55, v56, .ptr 9 9 2, .ag [boolA sT, .d xT], J (Int.sign E.2), Yes, .ptr 9 9 0, .ag [boolA sB, .d xB], .ag [boolA s14, .d x14], .ptr 9 9 2, .ag [boolA sT, .d xT], .ag [boolA s15, .d x15], .ag [boolA s14, .d x14, boolA s15, .d x15], .ag [boolA s16, .d x16], .ptr 9 9 2, .ag [boolA s15, .d x15], .ag [boolA s16, .d x16], J (cmpZ (-E.2) ((1 : Nat) : Int)), No, No, .ptr 9 9 2, .ag [boolA s15, .d x15], .ag [boolA sR, .d xR], J (cmpZ (-E.2) (R : Int)), Yes, Yes, Yes] ++ us 7 ++ [Yes, .ag [No, .d (.v (.slice none 0 0)), No, .d (.v (.slice none 0 0))]] ++ us 5, ⟨[.row [boolA su, .d xu] 0 .ow none, .row [boolA sm, .d xm] 1 .ow none, .row [No, .d (.v (.slice none 0 0)), No, .d (.v (.slice none 0 0))] 2 .ow none, .row [boolA sq4, .d xq4] 3 .ow none, .row [boolA sr4, .d xr4] 4 .ow none, .row [boolA sR, .d xR] 5 .ow none, .row [boolA sq5, .d xq5] 6 .ow none, .row [boolA sr5, .d xr5] 7 .ow none, .row [boolA ra.1, .d ra.2, boolA rs.1, .d rs.2] 8 .ow none, .row [boolA s14, .d x14, boolA s15, .d x15] 9 .ow none, .row [boolA s16, .d x16] N .ow none], (N + 1)⟩⟩) (fun cf => by kernel_rfl) ?_
        refine ev_ret ?_
        exact ⟨((false, nilD), (false, nilD), false), ⟨R, hR1, hR2, E, hE, -E.1, -E.2, .inl ⟨hsT, rfl, rfl⟩, .inr ⟨by omega, rfl⟩⟩, .inr rfl, .tu [.ag [No, .d (.v (.slice none 0 0)), No, .d (.v (.slice none 0 0))], No], by kernel_rfl, by kernel_rfl⟩
    ·
      have hb17' := of_decide_eq_true hb17
      have hb17c := cmpZ_neg.mp hb17'
      refine rs_alu [(80, Yes), (81, Yes), (89, Yes)] (fun cf => by kernel_rfl) ?_
      refine ev_true (by kernel_rfl) ?_
      refine ev_seq ?_
      refine ev_reg (by kernel_rfl) ?_
      refine rs_all (s1 := ⟨[.ag [boolA su, .d xu], .ag [boolA sm, .d xm], .ptr 0 0 0, .ptr 1 1 0, .ptr 2 2 0, No, .ptr 3 3 0, .ptr 4 4 0, J 0, .ptr 5 5 0, J 0, .ptr 6 6 0, .ptr 7 7 0, J 0, .ptr 8 8 0, .ptr 9 9 0, .fn 55 [.ptr 8 8 0, .ptr 9 9 0], .ptr 10 N 0, .ag [boolA sm, .d xm], J (Int.sign (k : Int)), No, U, .tu [.ag [boolA sq4, .d xq4], .ag [boolA sr4, .d xr4], J 0], .ag [boolA sm, .d xm], .ag [boolA s1, .d x1], .ag [boolA s2, .d x2], .ag [boolA s3, .d x3], .tu [.ag [boolA sq4, .d xq4], .ag [boolA sr4, .d xr4], J 0], .ag [boolA sq4, .d xq4], .ag [boolA sr4, .d xr4], J 0, .tu [.ag [boolA sR, .d xR], J 0], .ag [boolA sq4, .d xq4], .tu [.ag [boolA sR, .d xR], J 0], .ag [boolA sR, .d xR], J 0, .tu [.ag [boolA sq5, .d xq5], .ag [boolA sr5, .d xr5], J 0], .ag [boolA su, .d xu], .ag [boolA sm, .d xm], .tu [.ag [boolA sq5, .d xq5], .ag [boolA sr5, .d xr5], J 0], .ag [boolA sq5, .d xq5], .ag [boolA sr5, .d xr5], J 0, .ag [boolA sm, .d xm], .ag [boolA s6, .d x6], .ag [boolA sm, .d xm, boolA s6, .d x6], .ag [boolA sr5, .d xr5], .ag [boolA s7, .d x7], .ag [boolA sr5, .d xr5, boolA s7, .d x7], .fn 55 [.ptr 8 8 0, .ptr 9 9 0], v50, v51, v52, v53, v54, v55, v56, .ptr 9 9 2, .ag [boolA sT, .d xT], J (Int.sign E.2), Yes, .ptr 9 9 0, .ag [boolA sB, .d xB], .ag [boolA s14, .d x14], .ptr 9 9 2, .ag [boolA sT, .d xT], .ag [boolA s15, .d x15], .ag [boolA s14, .d x14, boolA s15, .d x15], .ag [boolA s16, .d x16], .ptr 9 9 2, .ag [boolA s15, .d x15], .ag [boolA s16, .d x16], J (cmpZ (-E.2) ((1 : Nat) : Int)), Yes, Yes] ++ us 5 ++ [Yes, Yes] ++ us 7 ++ [Yes, .ag [No, .d (.v (.slice none 0 0)), No, .d (.v (.slice none 0 0))]] ++ us 5, ⟨[.row [boolA su, .d xu] 0 .ow none, .row [boolA sm, .d xm] 1 .ow none, .row [No, .d (.v (.slice none 0 0)), No, .d (.v (.slice none 0 0))] 2 .ow none, .row [boolA sq4, .d xq4] 3 .ow none, .row [boolA sr4, .d xr4] 4 .ow none, .row [boolA sR, .d xR] 5 .ow none, .row [boolA sq5, .d xq5] 6 .ow none, .row [boolA sr5, .d xr5] 7 .ow none, .row [boolA ra.1, .d ra.2, boolA rs.1, .d rs.2] 8 .ow none, .row [boolA s14, .d x14, boolA s15, .d x15] 9 .ow none, .row [boolA s16, .d x16] N .ow none], (N + 1)⟩⟩) (fun cf => by kernel_rfl) ?_
      refine ev_ret ?_
      exact ⟨((false, nilD), (false, nilD), false), ⟨R, hR1, hR2, E, hE, -E.1, -E.2, .inl ⟨hsT, rfl, rfl⟩, .inr ⟨by omega, rfl⟩⟩, .inr rfl, .tu [.ag [No, .d (.v (.slice none 0 0)), No, .d (.v (.slice none 0 0))], No], by kernel_rfl, by kernel_rfl⟩
theorem p_rebuild0 {V : Int} {k : Nat} {su sm : Bool} {xu xm : D} {lu lm : List Nat} (IU : Iv V su xu lu) (IM : Iv (k : Int) sm xm lm) (hlu : lu.length ≤ 1000) (hk : k = 0) : ∃ res : (Bool × D) × (Bool × D) × Bool, (fun r => r = ((false, nilD), (false, nilD), false)) res ∧ Gets Try.cx 33 [.ag [boolA su, .d xu], .ag [boolA sm, .d xm]] ((fun (r : (Bool × D) × (Bool × D) × Bool) => .tu [.ag [boolA r.1.1, .d r.1.2, boolA r.2.1.1, .d r.2.1.2], boolA r.2.2]) res) := by
  have hlm : lm.length ≤ 1 := iv_len IM (by omega)
  have hsg : decide (Int.sign (k : Int) ≤ 0) = true := by subst hk; rfl
  refine gets_some (fn := Try.f33) (fun r => r = ((false, nilD), (false, nilD), false)) (fun (r : (Bool × D) × (Bool × D) × Bool) => .tu [.ag [boolA r.1.1, .d r.1.2, boolA r.2.1.1, .d r.2.1.2], boolA r.2.2]) (by kernel_rfl) rfl ?_
  show EvK _ _ _ ⟨[.ag [boolA su, .d xu], .ag [boolA sm, .d xm]] ++ us 94, ⟨[], 0⟩⟩ _
  refine ev_seq ?_
  refine ev_reg (by kernel_rfl) ?_
  refine rs_alm [(2, .ptr 0 0 0), (3, .ptr 1 1 0), (4, .ptr 2 2 0), (5, No)] ⟨[.row [boolA su, .d xu] 0 .ow none, .row [boolA sm, .d xm] 1 .ow none, .row [No, .d (.v (.slice none 0 0)), No, .d (.v (.slice none 0 0))] 2 .ow none], 3⟩ (fun cf => by kernel_rfl) ?_
  refine ev_seq ?_
  refine ev_seq ?_
  refine ev_reg (by kernel_rfl) ?_
  refine rs_up 1 [(18, .ag [boolA sm, .d xm])] (fun cf => by kernel_rfl) ?_
  refine rs_cp 51 [.ag [boolA sm, .d xm]] false (some 19) (J (Int.sign (k : Int))) (by kernel_rfl) (p_sign IM (by omega)) (by kernel_rfl) ?_
  refine rs_up 1 [(20, boolA (decide ((Int.sign (k : Int)) ≤ 0)))] (fun cf => by kernel_rfl) ?_
  rw [hsg]
  refine rs_alu [] (fun cf => by kernel_rfl) ?_
  refine ev_true (by kernel_rfl) ?_
  refine ev_seq ?_
  refine ev_reg (by kernel_rfl) ?_
  refine rs_all (s1 := ⟨[.ag [boolA su, .d xu], .ag [boolA sm, .d xm], .ptr 0 0 0, .ptr 1 1 0, .ptr 2 2 0, No] ++ us 12 ++ [.ag [boolA sm, .d xm], J (Int.sign (k : Int)), Yes, .ag [No, .d (.v (.slice none 0 0)), No, .d (.v (.slice none 0 0))]] ++ us 74, ⟨[.row [boolA su, .d xu] 0 .ow none, .row [boolA sm, .d xm] 1 .ow none, .row [No, .d (.v (.slice none 0 0)), No, .d (.v (.slice none 0 0))] 2 .ow none], 3⟩⟩) (fun cf => by kernel_rfl) ?_
  refine ev_ret ?_
  exact ⟨((false, nilD), (false, nilD), false), rfl, .inr rfl, .tu [.ag [No, .d (.v (.slice none 0 0)), No, .d (.v (.slice none 0 0))], No], by kernel_rfl, by kernel_rfl⟩
end Go.Proofs.Ytgkjdfojogemhaa.W
