/-
  The reference: greatest common divisors of words. Made by program. Conditions: none.
-/
import Derived.Test.YtgkjdfojogemhaaWdh
set_option maxRecDepth 100000
set_option maxHeartbeats 20000000
set_option linter.unusedSimpArgs false
set_option linter.unusedVariables false
namespace Go.Proofs.Ytgkjdfojogemhaa.W
open Go.Am


noncomputable def eucC : Code := (lft (lft (lft (rgt (Try.f101.body.getD .skip)))))

theorem euc_round {K : Out → St → Prop} {a b : Nat}   (z5 z6 z7 z8 z9 z10 z11 z12 : AV) (h0 : b = 0 → ∀ z5 z6 z7 z8 z9 z10 z11 z12, K (.exit 0) ⟨[intA .u64 (a : Int), intA .u64 (b : Int), U, U, intA .u64 0, z5, z6, z7, z8, z9, z10, z11, z12, U], ⟨[], 0⟩⟩) (h1 : b ≠ 0 → ∀ z5 z6 z7 z8 z9 z10 z11 z12, EvK Try.cx 101 (.loop eucC) ⟨[intA .u64 (b : Int), intA .u64 ((a % b : Nat) : Int), U, U, intA .u64 0, z5, z6, z7, z8, z9, z10, z11, z12, U], ⟨[], 0⟩⟩ K) : EvK Try.cx 101 (.loop eucC) ⟨[intA .u64 (a : Int), intA .u64 (b : Int), U, U, intA .u64 0, z5, z6, z7, z8, z9, z10, z11, z12, U], ⟨[], 0⟩⟩ K := by
  refine ev_loop ?_
  refine ev_seq ?_
  refine ev_seq ?_
  refine ev_reg (by kernel_rfl) ?_
  refine rs_all (s1 := ⟨[intA .u64 (a : Int), intA .u64 (b : Int), U, U, intA .u64 0, z5, intA .u64 (b : Int), boolA (decide ((b : Int) > 0)), z8, z9, z10, z11, z12, U], ⟨[], 0⟩⟩) (fun cf => by kernel_rfl) ?_
  rcases hb1 : ((decide ((b : Int) > 0)) : Bool) with _ | _
  ·
    have hb1' := of_decide_eq_false hb1
    refine ev_false (by kernel_rfl) ?_
    refine ev_exit ?_
    exact h0 (by omega) _ _ _ _ _ _ _ _
  ·
    have hb1' := of_decide_eq_true hb1
    refine ev_true (by kernel_rfl) ?_
    refine ev_skip ?_
    refine ev_block ?_
    refine ev_seq ?_
    refine ev_reg (by kernel_rfl) ?_
    refine rs_up 2 [(8, intA .u64 (a : Int)), (9, intA .u64 (b : Int))] (fun cf => by kernel_rfl) ?_
    refine rs_cv (fun m9 => binA Try.cx m9 .rem 23 (intA .u64 (a : Int)) (intA .u64 (b : Int))) (some 10) (intA .u64 ((a % b : Nat) : Int)) (fun cf => by kernel_rfl) (remU_at (A := a) (P := b) (by rfl) (by rfl) (by omega)) ?_
    refine rs_alu [(5, intA .u64 ((a % b : Nat) : Int))] (fun cf => by kernel_rfl) ?_
    refine ev_seq ?_
    refine ev_reg (by kernel_rfl) ?_
    refine rs_alu [(0, intA .u64 (b : Int)), (11, intA .u64 (b : Int))] (fun cf => by kernel_rfl) ?_
    refine ev_reg (by kernel_rfl) ?_
    refine rs_all (s1 := ⟨[intA .u64 (b : Int), intA .u64 ((a % b : Nat) : Int), U, U, intA .u64 0, intA .u64 ((a % b : Nat) : Int), intA .u64 (b : Int), Yes, intA .u64 (a : Int), intA .u64 (b : Int), intA .u64 ((a % b : Nat) : Int), intA .u64 (b : Int), intA .u64 ((a % b : Nat) : Int), U], ⟨[], 0⟩⟩) (fun cf => by kernel_rfl) ?_
    exact h1 (by omega) _ _ _ _ _ _ _ _

theorem euc_loop {K : Out → St → Prop} : ∀ (r a b : Nat) (z5 z6 z7 z8 z9 z10 z11 z12 : AV) (hr : b ≤ r) (h : ∀ (z5 z6 z7 z8 z9 z10 z11 z12 : AV), K (.exit 0) ⟨[intA .u64 ((Nat.gcd a b : Nat) : Int), intA .u64 0, U, U, intA .u64 0, z5, z6, z7, z8, z9, z10, z11, z12, U], ⟨[], 0⟩⟩), EvK Try.cx 101 (.loop eucC) ⟨[intA .u64 (a : Int), intA .u64 (b : Int), U, U, intA .u64 0, z5, z6, z7, z8, z9, z10, z11, z12, U], ⟨[], 0⟩⟩ K := by
  intro r
  induction r with
  | zero =>
    intro a b z5 z6 z7 z8 z9 z10 z11 z12 hr h
    have : b = 0 := by omega
    subst this
    rw [Nat.gcd_zero_right] at h
    exact euc_round z5 z6 z7 z8 z9 z10 z11 z12 (fun _ => h) fun h1 => absurd rfl h1
  | succ r ih =>
    intro a b z5 z6 z7 z8 z9 z10 z11 z12 hr h
    by_cases hb : b = 0
    · subst hb
      rw [Nat.gcd_zero_right] at h
      exact euc_round z5 z6 z7 z8 z9 z10 z11 z12 (fun _ => h) fun h1 => absurd rfl h1
    · refine euc_round z5 z6 z7 z8 z9 z10 z11 z12 (fun h0 => absurd h0 hb) fun _ z5 z6 z7 z8 z9 z10 z11 z12 => ih b (a % b) z5 z6 z7 z8 z9 z10 z11 z12 (by have := Nat.mod_lt a (Nat.pos_of_ne_zero hb); omega) ?_
      rw [Nat.gcd_comm a b, Nat.gcd_rec, Nat.gcd_comm] at h
      exact h

theorem g_euclid {a b : Nat} : Gets Try.cx 101 [intA .u64 (a : Int), intA .u64 (b : Int)] (intA .u64 ((Nat.gcd a b : Nat) : Int)) := by
  refine gets_of (fn := Try.f101) (by kernel_rfl) rfl ?_
  show EvK _ _ _ ⟨[intA .u64 (a : Int), intA .u64 (b : Int)] ++ us 12, ⟨[], 0⟩⟩ _
  refine ev_seq ?_
  refine ev_reg (by kernel_rfl) ?_
  refine rs_all (s1 := ⟨[intA .u64 (a : Int), intA .u64 (b : Int), U, U, intA .u64 0] ++ us 9, ⟨[], 0⟩⟩) (fun cf => by kernel_rfl) ?_
  refine ev_seq ?_
  refine ev_block ?_
  refine euc_loop b a b _ _ _ _ _ _ _ _ (Nat.le_refl _) fun v5 v6 v7 v8 v9 v10 v11 v12 => ?_
  refine ev_seq ?_
  refine ev_reg (by kernel_rfl) ?_
  refine rs_all (s1 := ⟨[intA .u64 ((Nat.gcd a b : Nat) : Int), intA .u64 0, U, U, intA .u64 ((Nat.gcd a b : Nat) : Int), v5, v6, v7, v8, v9, v10, v11, v12, intA .u64 ((Nat.gcd a b : Nat) : Int)], ⟨[], 0⟩⟩) (fun cf => by kernel_rfl) ?_
  refine ev_ret ?_
  refine leaf (r0 := intA .u64 ((Nat.gcd a b : Nat) : Int)) (r1 := intA .u64 ((Nat.gcd a b : Nat) : Int)) (.inr rfl) (by kernel_rfl) (by kernel_rfl) ?_
  rfl
noncomputable def comC : Code := (lft (lft (lft (rgt (Try.f81.body.getD .skip)))))

theorem gcd_small {a b : List Nat} (ha : Ok a) (hb : Ok b) : Nat.gcd ((a.getD 1 0 * 4294967296) + (a.getD 0 0)) ((b.getD 1 0 * 4294967296) + (b.getD 0 0)) < 18446744073709551616 := by
  have h1 := ha 0; have h2 := ha 1; have h3 := hb 0; have h4 := hb 1
  by_cases h0 : (a.getD 1 0 * 4294967296) + (a.getD 0 0) = 0
  · rw [h0, Nat.gcd_zero_left]; omega
  · have := Nat.gcd_le_left ((b.getD 1 0 * 4294967296) + (b.getD 0 0)) (Nat.pos_of_ne_zero h0)
    omega
theorem num_val {l : List Nat} (h : l.length ≤ 2) : (l.getD 1 0 * 4294967296) + (l.getD 0 0) = val l := by
  rw [← vF_val (a := l) (r := 2) h]
  show _ = l.getD 0 0 + 4294967296 * (l.getD 1 0 + 4294967296 * 0)
  omega

theorem com_round {K : Out → St → Prop} {a b : List Nat} {x y : D}  (hx : Ws a x) (hy : Ws b y) (ha : Ok a) (hb : Ok b) (na : Nrm a) (nb : Nrm b) (hl : a.length < 50000000) (hm : b.length < 50000000) (z5 z6 z7 z8 z9 z10 z11 z12 z13 z14 z15 z16 z17 z18 z19 z20 z21 z22 z23 z24 z25 z26 z27 z28 z29 z30 z31 : AV) (h0 : b.length = 0 → ∀ z5 z6 z7 z8 z9 z10 z11 z12 z13 z14 z15 z16 z17 z18 z19 z20 z21 z22 z23 z24 z25 z26 z27 z28 z29 z30 z31, K (.exit 0) ⟨[.d x, .d y, U, U, .d (.v (.slice none 0 0)), z5, z6, z7, z8, z9, z10, z11, z12, z13, z14, z15, z16, z17, z18, z19, z20, z21, z22, z23, z24, z25, z26, z27, z28, z29, z30, z31, U], ⟨[], 0⟩⟩) (h1 : a.length ≤ 2 → b.length ≤ 2 → ∀ (yw : D), Ws (wordsL (Nat.gcd ((a.getD 1 0 * 4294967296) + (a.getD 0 0)) ((b.getD 1 0 * 4294967296) + (b.getD 0 0)))) yw → ∀ z5 z6 z7 z8 z9 z10 z11 z12 z13 z14 z15 z16 z17 z18 z19 z20 z21 z22 z23 z24 z25 z26 z27 z28 z29 z30 z31, K .ret ⟨[.d x, .d y, U, U, .d yw, z5, z6, z7, z8, z9, z10, z11, z12, z13, z14, z15, z16, z17, z18, z19, z20, z21, z22, z23, z24, z25, z26, z27, z28, z29, z30, z31, U], ⟨[], 0⟩⟩) (h2 : b.length ≠ 0 → ∀ (qd rd : D), DivOk a b (qd, rd) → ∀ z5 z6 z7 z8 z9 z10 z11 z12 z13 z14 z15 z16 z17 z18 z19 z20 z21 z22 z23 z24 z25 z26 z27 z28 z29 z30 z31, EvK Try.cx 81 (.loop comC) ⟨[.d y, .d rd, U, U, .d (.v (.slice none 0 0)), z5, z6, z7, z8, z9, z10, z11, z12, z13, z14, z15, z16, z17, z18, z19, z20, z21, z22, z23, z24, z25, z26, z27, z28, z29, z30, z31, U], ⟨[], 0⟩⟩ K) : EvK Try.cx 81 (.loop comC) ⟨[.d x, .d y, U, U, .d (.v (.slice none 0 0)), z5, z6, z7, z8, z9, z10, z11, z12, z13, z14, z15, z16, z17, z18, z19, z20, z21, z22, z23, z24, z25, z26, z27, z28, z29, z30, z31, U], ⟨[], 0⟩⟩ K := by
  refine ev_loop ?_
  refine ev_seq ?_
  refine ev_seq ?_
  refine ev_reg (by kernel_rfl) ?_
  refine rs_up 1 [(7, .d y)] (fun cf => by kernel_rfl) ?_
  refine rs_cl (fun m9 => lenA Try.cx 32 m9 (.d y)) (some 8) (b.length) (fun cf => by kernel_rfl) (len_ws hy) ?_
  refine rs_all (s1 := ⟨[.d x, .d y, U, U, .d (.v (.slice none 0 0)), z5, z6, .d y, J (b.length : Int), boolA (decide ((b.length : Int) > 0)), z10, z11, z12, z13, z14, z15, z16, z17, z18, z19, z20, z21, z22, z23, z24, z25, z26, z27, z28, z29, z30, z31, U], ⟨[], 0⟩⟩) (fun cf => by kernel_rfl) ?_
  rcases hb1 : ((decide ((b.length : Int) > 0)) : Bool) with _ | _
  ·
    have hb1' := of_decide_eq_false hb1
    refine ev_false (by kernel_rfl) ?_
    refine ev_exit ?_
    exact h0 (by omega) _ _ _ _ _ _ _ _ _ _ _ _ _ _ _ _ _ _ _ _ _ _ _ _ _ _ _
  ·
    have hb1' := of_decide_eq_true hb1
    have hbl : b.length ≠ 0 := by omega
    refine ev_true (by kernel_rfl) ?_
    refine ev_skip ?_
    refine ev_block ?_
    refine ev_seq ?_
    refine ev_seq ?_
    refine ev_reg (by kernel_rfl) ?_
    refine rs_up 1 [(10, .d x)] (fun cf => by kernel_rfl) ?_
    refine rs_cl (fun m9 => lenA Try.cx 32 m9 (.d x)) (some 11) (a.length) (fun cf => by kernel_rfl) (len_ws hx) ?_
    refine rs_up 2 [(12, boolA (decide ((a.length : Int) ≤ 2))), (13, boolA (decide ((a.length : Int) ≤ 2)))] (fun cf => by kernel_rfl) ?_
    rcases hb2 : ((decide ((a.length : Int) ≤ 2)) : Bool) with _ | _
    ·
      have hb2' := of_decide_eq_false hb2
      refine rs_alu [(14, U), (15, U), (16, U), (17, No)] (fun cf => by kernel_rfl) ?_
      refine ev_false (by kernel_rfl) ?_
      refine ev_skip ?_
      refine ev_seq ?_
      refine ev_reg (by kernel_rfl) ?_
      refine rs_up 2 [(25, .d x), (26, .d y)] (fun cf => by kernel_rfl) ?_
      obtain ⟨⟨qd, rd⟩, hdv, gdv⟩ := g_divided hx hy ha hb na nb (fun e => by rw [e] at hbl; exact hbl rfl) (by omega) (by omega)
      refine rs_cp 66 [.d x, .d y] false (some 27) (.tu [.d qd, .d rd]) (by kernel_rfl) (gdv) (by kernel_rfl) ?_
      refine rs_alu [(5, .d qd), (6, .d rd), (24, .tu [.d qd, .d rd]), (28, .d qd), (29, .d rd)] (fun cf => by kernel_rfl) ?_
      refine ev_seq ?_
      refine ev_reg (by kernel_rfl) ?_
      refine rs_alu [(0, .d y), (30, .d y)] (fun cf => by kernel_rfl) ?_
      refine ev_reg (by kernel_rfl) ?_
      refine rs_all (s1 := ⟨[.d y, .d rd, U, U, .d (.v (.slice none 0 0)), .d qd, .d rd, .d y, J (b.length : Int), Yes, .d x, J (a.length : Int), No, No] ++ us 3 ++ [No, z18, z19, z20, z21, z22, z23, .tu [.d qd, .d rd], .d x, .d y, .tu [.d qd, .d rd], .d qd, .d rd, .d y, .d rd, U], ⟨[], 0⟩⟩) (fun cf => by kernel_rfl) ?_
      exact h2 hbl qd rd hdv _ _ _ _ _ _ _ _ _ _ _ _ _ _ _ _ _ _ _ _ _ _ _ _ _ _ _
    ·
      have hb2' := of_decide_eq_true hb2
      refine rs_up 1 [(14, .d y)] (fun cf => by kernel_rfl) ?_
      refine rs_cl (fun m9 => lenA Try.cx 32 m9 (.d y)) (some 15) (b.length) (fun cf => by kernel_rfl) (len_ws hy) ?_
      refine rs_alu [(16, boolA (decide ((b.length : Int) ≤ 2))), (17, boolA (decide ((b.length : Int) ≤ 2)))] (fun cf => by kernel_rfl) ?_
      rcases hb3 : ((decide ((b.length : Int) ≤ 2)) : Bool) with _ | _
      ·
        have hb3' := of_decide_eq_false hb3
        refine ev_false (by kernel_rfl) ?_
        refine ev_skip ?_
        refine ev_seq ?_
        refine ev_reg (by kernel_rfl) ?_
        refine rs_up 2 [(25, .d x), (26, .d y)] (fun cf => by kernel_rfl) ?_
        obtain ⟨⟨qd, rd⟩, hdv, gdv⟩ := g_divided hx hy ha hb na nb (fun e => by rw [e] at hbl; exact hbl rfl) (by omega) (by omega)
        refine rs_cp 66 [.d x, .d y] false (some 27) (.tu [.d qd, .d rd]) (by kernel_rfl) (gdv) (by kernel_rfl) ?_
        refine rs_alu [(5, .d qd), (6, .d rd), (24, .tu [.d qd, .d rd]), (28, .d qd), (29, .d rd)] (fun cf => by kernel_rfl) ?_
        refine ev_seq ?_
        refine ev_reg (by kernel_rfl) ?_
        refine rs_alu [(0, .d y), (30, .d y)] (fun cf => by kernel_rfl) ?_
        refine ev_reg (by kernel_rfl) ?_
        refine rs_all (s1 := ⟨[.d y, .d rd, U, U, .d (.v (.slice none 0 0)), .d qd, .d rd, .d y, J (b.length : Int), Yes, .d x, J (a.length : Int), Yes, Yes, .d y, J (b.length : Int), No, No, z18, z19, z20, z21, z22, z23, .tu [.d qd, .d rd], .d x, .d y, .tu [.d qd, .d rd], .d qd, .d rd, .d y, .d rd, U], ⟨[], 0⟩⟩) (fun cf => by kernel_rfl) ?_
        exact h2 hbl qd rd hdv _ _ _ _ _ _ _ _ _ _ _ _ _ _ _ _ _ _ _ _ _ _ _ _ _ _ _
      ·
        have hb3' := of_decide_eq_true hb3
        refine ev_true (by kernel_rfl) ?_
        refine ev_seq ?_
        refine ev_reg (by kernel_rfl) ?_
        refine rs_up 1 [(18, .d x)] (fun cf => by kernel_rfl) ?_
        refine rs_cp 67 [.d x] false (some 19) (intA .u64 (((a.getD 1 0 * 4294967296) + (a.getD 0 0) : Nat) : Int)) (by kernel_rfl) (g_number hx ha) (by kernel_rfl) ?_
        refine rs_up 1 [(20, .d y)] (fun cf => by kernel_rfl) ?_
        refine rs_cp 67 [.d y] false (some 21) (intA .u64 (((b.getD 1 0 * 4294967296) + (b.getD 0 0) : Nat) : Int)) (by kernel_rfl) (g_number hy hb) (by kernel_rfl) ?_
        refine rs_cp 101 [intA .u64 (((a.getD 1 0 * 4294967296) + (a.getD 0 0) : Nat) : Int), intA .u64 (((b.getD 1 0 * 4294967296) + (b.getD 0 0) : Nat) : Int)] false (some 22) (intA .u64 ((Nat.gcd ((a.getD 1 0 * 4294967296) + (a.getD 0 0)) ((b.getD 1 0 * 4294967296) + (b.getD 0 0)) : Nat) : Int)) (by kernel_rfl) (g_euclid) (by kernel_rfl) ?_
        obtain ⟨yw, hyw, gyw⟩ := g_words (n := Nat.gcd ((a.getD 1 0 * 4294967296) + (a.getD 0 0)) ((b.getD 1 0 * 4294967296) + (b.getD 0 0))) (gcd_small ha hb)
        refine rs_cp 48 [intA .u64 ((Nat.gcd ((a.getD 1 0 * 4294967296) + (a.getD 0 0)) ((b.getD 1 0 * 4294967296) + (b.getD 0 0)) : Nat) : Int)] false (some 23) (.d yw) (by kernel_rfl) (gyw) (by kernel_rfl) ?_
        refine rs_all (s1 := ⟨[.d x, .d y, U, U, .d yw, z5, z6, .d y, J (b.length : Int), Yes, .d x, J (a.length : Int), Yes, Yes, .d y, J (b.length : Int), Yes, Yes, .d x, intA .u64 (((a.getD 1 0 * 4294967296) + (a.getD 0 0) : Nat) : Int), .d y, intA .u64 (((b.getD 1 0 * 4294967296) + (b.getD 0 0) : Nat) : Int), intA .u64 ((Nat.gcd ((a.getD 1 0 * 4294967296) + (a.getD 0 0)) ((b.getD 1 0 * 4294967296) + (b.getD 0 0)) : Nat) : Int), .d yw, z24, z25, z26, z27, z28, z29, z30, z31, U], ⟨[], 0⟩⟩) (fun cf => by kernel_rfl) ?_
        refine ev_ret ?_
        exact h1 (by omega) (by omega) yw hyw _ _ _ _ _ _ _ _ _ _ _ _ _ _ _ _ _ _ _ _ _ _ _ _ _ _ _

theorem com_loop {K : Out → St → Prop} (n : Nat) (hR : ∀ (x y g : D) (l : List Nat) (z5 z6 z7 z8 z9 z10 z11 z12 z13 z14 z15 z16 z17 z18 z19 z20 z21 z22 z23 z24 z25 z26 z27 z28 z29 z30 z31 : AV), Ws l g → Ok l → Nrm l → val l = n → K .ret ⟨[.d x, .d y, U, U, .d g, z5, z6, z7, z8, z9, z10, z11, z12, z13, z14, z15, z16, z17, z18, z19, z20, z21, z22, z23, z24, z25, z26, z27, z28, z29, z30, z31, U], ⟨[], 0⟩⟩) (hE : ∀ (x y : D) (l : List Nat) (z5 z6 z7 z8 z9 z10 z11 z12 z13 z14 z15 z16 z17 z18 z19 z20 z21 z22 z23 z24 z25 z26 z27 z28 z29 z30 z31 : AV), Ws l x → Ok l → Nrm l → val l = n → K (.exit 0) ⟨[.d x, .d y, U, U, .d (.v (.slice none 0 0)), z5, z6, z7, z8, z9, z10, z11, z12, z13, z14, z15, z16, z17, z18, z19, z20, z21, z22, z23, z24, z25, z26, z27, z28, z29, z30, z31, U], ⟨[], 0⟩⟩) :
    ∀ (r : Nat) (a b : List Nat) (x y : D) (z5 z6 z7 z8 z9 z10 z11 z12 z13 z14 z15 z16 z17 z18 z19 z20 z21 z22 z23 z24 z25 z26 z27 z28 z29 z30 z31 : AV) (hr : val b ≤ r) (hx : Ws a x) (hy : Ws b y) (ha : Ok a) (hb : Ok b) (na : Nrm a) (nb : Nrm b) (hl : a.length < 50000000) (hm : b.length < 50000000) (hn : Nat.gcd (val a) (val b) = n), EvK Try.cx 81 (.loop comC) ⟨[.d x, .d y, U, U, .d (.v (.slice none 0 0)), z5, z6, z7, z8, z9, z10, z11, z12, z13, z14, z15, z16, z17, z18, z19, z20, z21, z22, z23, z24, z25, z26, z27, z28, z29, z30, z31, U], ⟨[], 0⟩⟩ K := by
  intro r
  have base : ∀ (a b : List Nat) (x y : D) (z5 z6 z7 z8 z9 z10 z11 z12 z13 z14 z15 z16 z17 z18 z19 z20 z21 z22 z23 z24 z25 z26 z27 z28 z29 z30 z31 : AV) (hx : Ws a x) (hy : Ws b y) (ha : Ok a) (hb : Ok b) (na : Nrm a) (nb : Nrm b) (hl : a.length < 50000000) (hm : b.length < 50000000) (hn : Nat.gcd (val a) (val b) = n)
      (h2 : b.length ≠ 0 → ∀ (qd rd : D), DivOk a b (qd, rd) → ∀ (z5 z6 z7 z8 z9 z10 z11 z12 z13 z14 z15 z16 z17 z18 z19 z20 z21 z22 z23 z24 z25 z26 z27 z28 z29 z30 z31 : AV), EvK Try.cx 81 (.loop comC) ⟨[.d y, .d rd, U, U, .d (.v (.slice none 0 0)), z5, z6, z7, z8, z9, z10, z11, z12, z13, z14, z15, z16, z17, z18, z19, z20, z21, z22, z23, z24, z25, z26, z27, z28, z29, z30, z31, U], ⟨[], 0⟩⟩ K), EvK Try.cx 81 (.loop comC) ⟨[.d x, .d y, U, U, .d (.v (.slice none 0 0)), z5, z6, z7, z8, z9, z10, z11, z12, z13, z14, z15, z16, z17, z18, z19, z20, z21, z22, z23, z24, z25, z26, z27, z28, z29, z30, z31, U], ⟨[], 0⟩⟩ K := by
    intro a b x y z5 z6 z7 z8 z9 z10 z11 z12 z13 z14 z15 z16 z17 z18 z19 z20 z21 z22 z23 z24 z25 z26 z27 z28 z29 z30 z31 hx hy ha hb na nb hl hm hn h2
    refine com_round hx hy ha hb na nb hl hm z5 z6 z7 z8 z9 z10 z11 z12 z13 z14 z15 z16 z17 z18 z19 z20 z21 z22 z23 z24 z25 z26 z27 z28 z29 z30 z31 (fun h0 z5 z6 z7 z8 z9 z10 z11 z12 z13 z14 z15 z16 z17 z18 z19 z20 z21 z22 z23 z24 z25 z26 z27 z28 z29 z30 z31 => ?_) (fun h0 h1 yw hw z5 z6 z7 z8 z9 z10 z11 z12 z13 z14 z15 z16 z17 z18 z19 z20 z21 z22 z23 z24 z25 z26 z27 z28 z29 z30 z31 => ?_) h2
    · have : b = [] := List.eq_nil_of_length_eq_zero h0
      subst this
      exact hE x y a z5 z6 z7 z8 z9 z10 z11 z12 z13 z14 z15 z16 z17 z18 z19 z20 z21 z22 z23 z24 z25 z26 z27 z28 z29 z30 z31 hx ha na (by rw [← hn]; show val a = Nat.gcd (val a) 0; rw [Nat.gcd_zero_right])
    · refine hR x y yw _ z5 z6 z7 z8 z9 z10 z11 z12 z13 z14 z15 z16 z17 z18 z19 z20 z21 z22 z23 z24 z25 z26 z27 z28 z29 z30 z31 hw (ok_words (gcd_small ha hb)) (nrm_trim _) ?_
      rw [val_words, num_val h0, num_val h1, hn]
  induction r with
  | zero =>
    intro a b x y z5 z6 z7 z8 z9 z10 z11 z12 z13 z14 z15 z16 z17 z18 z19 z20 z21 z22 z23 z24 z25 z26 z27 z28 z29 z30 z31 hr hx hy ha hb na nb hl hm hn
    refine base a b x y z5 z6 z7 z8 z9 z10 z11 z12 z13 z14 z15 z16 z17 z18 z19 z20 z21 z22 z23 z24 z25 z26 z27 z28 z29 z30 z31 hx hy ha hb na nb hl hm hn fun h => ?_
    have := val_pos nb (fun e => h (by rw [e]; rfl))
    omega
  | succ r ih =>
    intro a b x y z5 z6 z7 z8 z9 z10 z11 z12 z13 z14 z15 z16 z17 z18 z19 z20 z21 z22 z23 z24 z25 z26 z27 z28 z29 z30 z31 hr hx hy ha hb na nb hl hm hn
    refine base a b x y z5 z6 z7 z8 z9 z10 z11 z12 z13 z14 z15 z16 z17 z18 z19 z20 z21 z22 z23 z24 z25 z26 z27 z28 z29 z30 z31 hx hy ha hb na nb hl hm hn fun h qd rd hd z5 z6 z7 z8 z9 z10 z11 z12 z13 z14 z15 z16 z17 z18 z19 z20 z21 z22 z23 z24 z25 z26 z27 z28 z29 z30 z31 => ?_
    have hp := val_pos nb (fun e => h (by rw [e]; rfl))
    obtain ⟨lq, lr, w1, w2, o1, o2, n1, n2, v1, v2⟩ := hd
    have hlt := Nat.mod_lt (val a) hp
    refine ih b lr y rd z5 z6 z7 z8 z9 z10 z11 z12 z13 z14 z15 z16 z17 z18 z19 z20 z21 z22 z23 z24 z25 z26 z27 z28 z29 z30 z31 (by rw [v2]; omega) hy w2 hb o2 nb n2 hm ?_ ?_
    · have := nrm_len n2 (k := b.length) (by rw [v2]; exact Nat.lt_trans hlt (val_lt hb))
      omega
    · rw [v2, ← hn, Nat.gcd_comm (val a) (val b), Nat.gcd_rec (val b) (val a)]
      exact Nat.gcd_comm _ _

theorem g_common {a b : List Nat} {x y : D} (hx : Ws a x) (hy : Ws b y) (ha : Ok a) (hb : Ok b) (na : Nrm a) (nb : Nrm b) (hl : a.length < 50000000) (hm : b.length < 50000000) : ∃ res : D, (fun g => ∃ l, Ws l g ∧ Ok l ∧ Nrm l ∧ val l = Nat.gcd (val a) (val b)) res ∧ Gets Try.cx 81 [.d x, .d y] ((fun g => .d g) res) := by
  refine gets_some (fn := Try.f81) (fun g => ∃ l, Ws l g ∧ Ok l ∧ Nrm l ∧ val l = Nat.gcd (val a) (val b)) (fun g => .d g) (by kernel_rfl) rfl ?_
  show EvK _ _ _ ⟨[.d x, .d y] ++ us 31, ⟨[], 0⟩⟩ _
  refine ev_seq ?_
  refine ev_reg (by kernel_rfl) ?_
  refine rs_all (s1 := ⟨[.d x, .d y, U, U, .d (.v (.slice none 0 0))] ++ us 28, ⟨[], 0⟩⟩) (fun cf => by kernel_rfl) ?_
  refine ev_seq ?_
  refine ev_block ?_
  refine com_loop (Nat.gcd (val a) (val b)) (fun x2 y2 g2 l2 v5 v6 v7 v8 v9 v10 v11 v12 v13 v14 v15 v16 v17 v18 v19 v20 v21 v22 v23 v24 v25 v26 v27 v28 v29 v30 v31 w2 o2 n2 v2 => ?_) (fun x2 y2 l2 v5 v6 v7 v8 v9 v10 v11 v12 v13 v14 v15 v16 v17 v18 v19 v20 v21 v22 v23 v24 v25 v26 v27 v28 v29 v30 v31 w2 o2 n2 v2 => ?_) (val b) a b x y _ _ _ _ _ _ _ _ _ _ _ _ _ _ _ _ _ _ _ _ _ _ _ _ _ _ _ (Nat.le_refl _) hx hy ha hb na nb hl hm rfl
  ·
    exact ⟨g2, ⟨l2, w2, o2, n2, v2⟩, .inr rfl, .d g2, by kernel_rfl, by kernel_rfl⟩
  ·
    refine ev_seq ?_
    refine ev_reg (by kernel_rfl) ?_
    refine rs_all (s1 := ⟨[.d x2, .d y2, U, U, .d x2, v5, v6, v7, v8, v9, v10, v11, v12, v13, v14, v15, v16, v17, v18, v19, v20, v21, v22, v23, v24, v25, v26, v27, v28, v29, v30, v31, .d x2], ⟨[], 0⟩⟩) (fun cf => by kernel_rfl) ?_
    refine ev_ret ?_
    exact ⟨x2, ⟨l2, w2, o2, n2, v2⟩, .inr rfl, .d x2, by kernel_rfl, by kernel_rfl⟩

end Go.Proofs.Ytgkjdfojogemhaa.W
