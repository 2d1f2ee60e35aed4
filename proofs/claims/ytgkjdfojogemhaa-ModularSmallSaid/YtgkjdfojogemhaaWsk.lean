/-
  The law ModularSmall: its loops. Made by program. Conditions: none.
-/
import Derived.Test.YtgkjdfojogemhaaWsj
set_option maxRecDepth 100000
set_option maxHeartbeats 20000000
set_option linter.unusedSimpArgs false
set_option linter.unusedVariables false
namespace Go.Proofs.Ytgkjdfojogemhaa.W
open Go.Am
theorem d_le {d k : Nat} (h : ((2 * d * d : Nat) : Int) ≤ (k : Int) - 1) (hk : k ≤ 255) : d ≤ 11 := by
  rcases Nat.lt_or_ge d 12 with h1 | h1
  · omega
  · have h2 := Nat.mul_le_mul h1 h1
    have : 2 * d * d = 2 * (d * d) := Nat.mul_assoc 2 d d
    omega
theorem d_ge {d k : Nat} (h : ((2 * d * d : Nat) : Int) ≤ (k : Int) - 1) (hd : 1 ≤ d) : 3 ≤ k := by
  have h2 := Nat.mul_le_mul hd hd
  have : 2 * d * d = 2 * (d * d) := Nat.mul_assoc 2 d d
  omega
theorem vd_le {V : Int} {d : Nat} (h1 : -32768 ≤ V) (h2 : V ≤ 32767) (h3 : 1 ≤ d) (h4 : d ≤ 11) : -360448 ≤ V * (d : Int) ∧ V * (d : Int) ≤ 360448 := by
  have h : d = 1 ∨ d = 2 ∨ d = 3 ∨ d = 4 ∨ d = 5 ∨ d = 6 ∨ d = 7 ∨ d = 8 ∨ d = 9 ∨ d = 10 ∨ d = 11 := by omega
  rcases h with rfl | rfl | rfl | rfl | rfl | rfl | rfl | rfl | rfl | rfl | rfl <;> omega
open Classical in
noncomputable def cntI (V : Int) (k d : Nat) : Nat → Int → Nat
  | 0, _ => 0
  | r + 1, n => (if Hit V k d n then 1 else 0) + cntI V k d r (n + 1)
noncomputable def cntO (V : Int) (k : Nat) : Nat → Nat → Nat
  | 0, _ => 0
  | f + 1, d => if ((2 * d * d : Nat) : Int) ≤ (k : Int) - 1 then cntI V k d 31 (-15) + cntO V k f (d + 1) else 0
theorem cntI_yes {V : Int} {k d r : Nat} {n : Int} (h : Hit V k d n) : cntI V k d (r + 1) n = 1 + cntI V k d r (n + 1) := by rw [cntI, if_pos h]
theorem cntI_no {V : Int} {k d r : Nat} {n : Int} (h : ¬ Hit V k d n) : cntI V k d (r + 1) n = cntI V k d r (n + 1) := by rw [cntI, if_neg h, Nat.zero_add]
theorem cntI_le {V : Int} {k d : Nat} : ∀ (r : Nat) (n : Int), cntI V k d r n ≤ r
  | 0, _ => Nat.le_refl _
  | r + 1, n => by
    have h := cntI_le (V := V) (k := k) (d := d) r (n + 1)
    by_cases h1 : Hit V k d n
    · rw [cntI_yes h1]; omega
    · rw [cntI_no h1]; omega
theorem cntI_zero {V : Int} {k d : Nat} (h : ∀ n, ¬ Hit V k d n) : ∀ (r : Nat) (n : Int), cntI V k d r n = 0
  | 0, _ => rfl
  | r + 1, n => by rw [cntI_no (h n), cntI_zero h r]
theorem cntI_uniq {V : Int} {k d : Nat} {m : Int} (hm : Hit V k d m) (h : ∀ n, Hit V k d n → n = m) : ∀ (r : Nat) (n : Int), cntI V k d r n = if n ≤ m ∧ m < n + (r : Int) then 1 else 0
  | 0, n => by rw [if_neg (by omega)]; rfl
  | r + 1, n => by
    have ih := cntI_uniq hm h r (n + 1)
    by_cases h1 : Hit V k d n
    · have h2 := h n h1
      rw [cntI_yes h1, ih, if_neg (by omega), if_pos (by omega)]
    · have h2 : n ≠ m := fun e => h1 (e ▸ hm)
      rw [cntI_no h1, ih]
      by_cases h3 : n ≤ m ∧ m < n + ((r + 1 : Nat) : Int)
      · rw [if_pos h3, if_pos (by omega)]
      · rw [if_neg h3, if_neg (by omega)]
theorem cntO_zero {V : Int} {k : Nat} (h : ∀ (d : Nat) (n : Int), 1 ≤ d → ((2 * d * d : Nat) : Int) ≤ (k : Int) - 1 → ¬ Hit V k d n) : ∀ (f d : Nat), 1 ≤ d → cntO V k f d = 0
  | 0, _, _ => rfl
  | f + 1, d, hd => by
    rw [cntO]
    by_cases h1 : ((2 * d * d : Nat) : Int) ≤ (k : Int) - 1
    · rw [if_pos h1, cntI_zero (fun n => h d n hd h1), cntO_zero h f (d + 1) (by omega)]
    · rw [if_neg h1]
theorem cntO_uniq {V : Int} {k t : Nat} {m : Int} (ht : 1 ≤ t) (ht2 : ((2 * t * t : Nat) : Int) ≤ (k : Int) - 1) (h1 : -15 ≤ m) (h2 : m ≤ 15) (hm : Hit V k t m) (h : ∀ (d : Nat) (n : Int), 1 ≤ d → ((2 * d * d : Nat) : Int) ≤ (k : Int) - 1 → Hit V k d n → d = t ∧ n = m) : ∀ (f d : Nat), 1 ≤ d → cntO V k f d = if d ≤ t ∧ t < d + f then 1 else 0
  | 0, d, _ => by rw [if_neg (by omega)]; rfl
  | f + 1, d, hd => by
    have ih := cntO_uniq ht ht2 h1 h2 hm h f (d + 1) (by omega)
    rw [cntO]
    by_cases h3 : ((2 * d * d : Nat) : Int) ≤ (k : Int) - 1
    · rw [if_pos h3, ih]
      by_cases h4 : d = t
      · subst h4
        rw [cntI_uniq hm (fun n hn => (h d n hd h3 hn).2), if_pos (by omega), if_neg (by omega), if_pos (by omega)]
      · rw [cntI_zero (fun n hn => h4 (h d n hd h3 hn).1)]
        by_cases h5 : d ≤ t ∧ t < d + (f + 1)
        · rw [if_pos h5, if_pos (by omega)]
        · rw [if_neg h5, if_neg (by omega)]
    · have h4 : ¬ d ≤ t := fun h5 => h3 (by
        have h6 := Nat.mul_le_mul h5 h5
        have e1 : 2 * d * d = 2 * (d * d) := Nat.mul_assoc 2 d d
        have e2 : 2 * t * t = 2 * (t * t) := Nat.mul_assoc 2 t t
        omega)
      rw [if_neg h3, if_neg (by omega)]
noncomputable def smInC : Code := (lft (lft (rgt (lft (lft (rgt (lft (lft (rgt (lft (rgt (rgt (rgt (rgt (rgt (rgt (Try.f9.body.getD .skip)))))))))))))))))
theorem smin_round {K : Out → St → Prop} {V : Int} {k d : Nat} {i sB sT : Bool} {xB xT : D} {n : Int} {c : Nat} (x1 x12 x13 x14 x15 x16 x17 x18 x19 x20 x21 x22 x23 x24 x25 x26 x27 x28 x29 x30 x31 x32 x33 x34 : AV) (hV1 : -32768 ≤ V) (hV2 : V ≤ 32767) (hk1 : 1 ≤ k) (hk2 : k ≤ 255) (hd1 : 1 ≤ d) (hd2 : d ≤ 11) (hn1 : -15 ≤ n) (hn2 : n ≤ 16) (hc : c < 1000000) (hok : Hit V k d n → i = true ∧ (∃ l, Iv n sB xB l) ∧ (∃ l, Iv (d : Int) sT xT l)) (z35 z36 z37 z38 z39 z40 z41 z42 z43 z44 z45 z46 z47 z48 z49 z50 z51 z52 z53 z54 z55 z56 z57 z58 z59 z60 z61 z62 z63 z64 z65 z66 z67 z68 z69 z70 z71 z72 z73 z74 z75 z76 z77 z78 z79 z80 z81 z82 z83 z84 z85 z86 z87 z88 z89 z90 z91 z92 z93 z94 z95 z96 z97 z98 z99 z100 z101 z102 z103 : AV) (h0 : 15 < n → ∀ z35 z36 z37 z38 z39 z40 z41 z42 z43 z44 z45 z46 z47 z48 z49 z50 z51 z52 z53 z54 z55 z56 z57 z58 z59 z60 z61 z62 z63 z64 z65 z66 z67 z68 z69 z70 z71 z72 z73 z74 z75 z76 z77 z78 z79 z80 z81 z82 z83 z84 z85 z86 z87 z88 z89 z90 z91 z92 z93 z94 z95 z96 z97 z98 z99 z100 z101 z102 z103, K (.exit 2) ⟨[intA .i16 V, x1, U, U, No, Yes, J (k : Int), .ptr 0 0 0, boolA i, J (c : Int), J (d : Int), J n, x12, x13, x14, x15, x16, x17, x18, x19, x20, x21, x22, x23, x24, x25, x26, x27, x28, x29, x30, x31, x32, x33, x34, z35, z36, z37, z38, z39, z40, z41, z42, z43, z44, z45, z46, z47, z48, z49, z50, z51, z52, z53, z54, z55, z56, z57, z58, z59, z60, z61, z62, z63, z64, z65, z66, z67, z68, z69, z70, z71, z72, z73, z74, z75, z76, z77, z78, z79, z80, z81, z82, z83, z84, z85, z86, z87, z88, z89, z90, z91, z92, z93, z94, z95, z96, z97, z98, z99, z100, z101, z102, z103] ++ us 26, ⟨[.row [boolA sB, .d xB, boolA sT, .d xT] 0 .ow none], 1⟩⟩) (h1 : n ≤ 15 → ¬ Hit V k d n → ∀ z35 z36 z37 z38 z39 z40 z41 z42 z43 z44 z45 z46 z47 z48 z49 z50 z51 z52 z53 z54 z55 z56 z57 z58 z59 z60 z61 z62 z63 z64 z65 z66 z67 z68 z69 z70 z71 z72 z73 z74 z75 z76 z77 z78 z79 z80 z81 z82 z83 z84 z85 z86 z87 z88 z89 z90 z91 z92 z93 z94 z95 z96 z97 z98 z99 z100 z101 z102 z103, EvK Try.cx 9 (.loop smInC) ⟨[intA .i16 V, x1, U, U, No, Yes, J (k : Int), .ptr 0 0 0, boolA i, J (c : Int), J (d : Int), J (n + 1), x12, x13, x14, x15, x16, x17, x18, x19, x20, x21, x22, x23, x24, x25, x26, x27, x28, x29, x30, x31, x32, x33, x34, z35, z36, z37, z38, z39, z40, z41, z42, z43, z44, z45, z46, z47, z48, z49, z50, z51, z52, z53, z54, z55, z56, z57, z58, z59, z60, z61, z62, z63, z64, z65, z66, z67, z68, z69, z70, z71, z72, z73, z74, z75, z76, z77, z78, z79, z80, z81, z82, z83, z84, z85, z86, z87, z88, z89, z90, z91, z92, z93, z94, z95, z96, z97, z98, z99, z100, z101, z102, z103] ++ us 26, ⟨[.row [boolA sB, .d xB, boolA sT, .d xT] 0 .ow none], 1⟩⟩ K) (h2 : n ≤ 15 → Hit V k d n → ∀ z35 z36 z37 z38 z39 z40 z41 z42 z43 z44 z45 z46 z47 z48 z49 z50 z51 z52 z53 z54 z55 z56 z57 z58 z59 z60 z61 z62 z63 z64 z65 z66 z67 z68 z69 z70 z71 z72 z73 z74 z75 z76 z77 z78 z79 z80 z81 z82 z83 z84 z85 z86 z87 z88 z89 z90 z91 z92 z93 z94 z95 z96 z97 z98 z99 z100 z101 z102 z103, EvK Try.cx 9 (.loop smInC) ⟨[intA .i16 V, x1, U, U, No, Yes, J (k : Int), .ptr 0 0 0, boolA i, J ((c + 1 : Nat) : Int), J (d : Int), J (n + 1), x12, x13, x14, x15, x16, x17, x18, x19, x20, x21, x22, x23, x24, x25, x26, x27, x28, x29, x30, x31, x32, x33, x34, z35, z36, z37, z38, z39, z40, z41, z42, z43, z44, z45, z46, z47, z48, z49, z50, z51, z52, z53, z54, z55, z56, z57, z58, z59, z60, z61, z62, z63, z64, z65, z66, z67, z68, z69, z70, z71, z72, z73, z74, z75, z76, z77, z78, z79, z80, z81, z82, z83, z84, z85, z86, z87, z88, z89, z90, z91, z92, z93, z94, z95, z96, z97, z98, z99, z100, z101, z102, z103] ++ us 26, ⟨[.row [boolA sB, .d xB, boolA sT, .d xT] 0 .ow none], 1⟩⟩ K) : EvK Try.cx 9 (.loop smInC) ⟨[intA .i16 V, x1, U, U, No, Yes, J (k : Int), .ptr 0 0 0, boolA i, J (c : Int), J (d : Int), J n, x12, x13, x14, x15, x16, x17, x18, x19, x20, x21, x22, x23, x24, x25, x26, x27, x28, x29, x30, x31, x32, x33, x34, z35, z36, z37, z38, z39, z40, z41, z42, z43, z44, z45, z46, z47, z48, z49, z50, z51, z52, z53, z54, z55, z56, z57, z58, z59, z60, z61, z62, z63, z64, z65, z66, z67, z68, z69, z70, z71, z72, z73, z74, z75, z76, z77, z78, z79, z80, z81, z82, z83, z84, z85, z86, z87, z88, z89, z90, z91, z92, z93, z94, z95, z96, z97, z98, z99, z100, z101, z102, z103] ++ us 26, ⟨[.row [boolA sB, .d xB, boolA sT, .d xT] 0 .ow none], 1⟩⟩ K := by
  have hVd := vd_le hV1 hV2 hd1 hd2
  have hnn := sq_bound (n := n) (by omega) (by omega)
  refine ev_loop ?_
  refine ev_seq ?_
  refine ev_seq ?_
  refine ev_reg (by kernel_rfl) ?_
  refine rs_all (s1 := ⟨[intA .i16 V, x1, U, U, No, Yes, J (k : Int), .ptr 0 0 0, boolA i, J (c : Int), J (d : Int), J n, x12, x13, x14, x15, x16, x17, x18, x19, x20, x21, x22, x23, x24, x25, x26, x27, x28, x29, x30, x31, x32, x33, x34, J n, boolA (decide (n ≤ 15)), z37, z38, z39, z40, z41, z42, z43, z44, z45, z46, z47, z48, z49, z50, z51, z52, z53, z54, z55, z56, z57, z58, z59, z60, z61, z62, z63, z64, z65, z66, z67, z68, z69, z70, z71, z72, z73, z74, z75, z76, z77, z78, z79, z80, z81, z82, z83, z84, z85, z86, z87, z88, z89, z90, z91, z92, z93, z94, z95, z96, z97, z98, z99, z100, z101, z102, z103] ++ us 26, ⟨[.row [boolA sB, .d xB, boolA sT, .d xT] 0 .ow none], 1⟩⟩) (fun cf => by kernel_rfl) ?_
  rcases hb301 : ((decide (n ≤ 15)) : Bool) with _ | _
  ·
    have hb301' := of_decide_eq_false hb301
    refine ev_false (by kernel_rfl) ?_
    refine ev_exit ?_
    exact h0 (by omega) _ _ _ _ _ _ _ _ _ _ _ _ _ _ _ _ _ _ _ _ _ _ _ _ _ _ _ _ _ _ _ _ _ _ _ _ _ _ _ _ _ _ _ _ _ _ _ _ _ _ _ _ _ _ _ _ _ _ _ _ _ _ _ _ _ _ _ _ _
  ·
    have hb301' := of_decide_eq_true hb301
    refine ev_true (by kernel_rfl) ?_
    refine ev_skip ?_
    refine ev_seq ?_
    refine ev_block ?_
    refine ev_seq ?_
    refine ev_seq ?_
    refine ev_reg (by kernel_rfl) ?_
    refine rs_up 2 [(39, J n), (40, J (IntKind.wrap .i64 (2 * n)))] (fun cf => by kernel_rfl) ?_
    rw [wrapI (n := 2 * n) (by omega) (by omega)]
    refine rs_up 2 [(41, J n), (42, J (IntKind.wrap .i64 ((2 * n) * n)))] (fun cf => by kernel_rfl) ?_
    rw [wrapI (n := 2 * n * n) (by omega) (by omega)]
    refine rs_up 2 [(43, J (k : Int)), (44, J (IntKind.wrap .i64 ((k : Int) - 1)))] (fun cf => by kernel_rfl) ?_
    rw [wrapI (n := (k : Int) - 1) (by omega) (by omega)]
    refine rs_up 2 [(45, boolA (decide ((2 * n * n) > ((k : Int) - 1)))), (46, boolA (decide ((2 * n * n) > ((k : Int) - 1))))] (fun cf => by kernel_rfl) ?_
    rcases hb302 : ((decide ((2 * n * n) > ((k : Int) - 1))) : Bool) with _ | _
    ·
      have hb302' := of_decide_eq_false hb302
      refine rs_up 2 [(47, J (d : Int)), (48, J (k : Int))] (fun cf => by kernel_rfl) ?_
      refine rs_cp 37 [J (d : Int), J (k : Int)] false (some 49) (J ((Nat.gcd d k : Nat) : Int)) (by kernel_rfl) (l_gcd (a := d) (b := k)) (by kernel_rfl) ?_
      refine rs_up 3 [(50, boolA (((Nat.gcd d k : Nat) : Int) != 1)), (51, boolA (((Nat.gcd d k : Nat) : Int) != 1)), (52, boolA (((Nat.gcd d k : Nat) : Int) != 1))] (fun cf => by kernel_rfl) ?_
      rcases hb303 : ((((Nat.gcd d k : Nat) : Int) != 1) : Bool) with _ | _
      ·
        have hb303' := bne_no hb303
        refine rs_up 3 [(53, J n), (54, boolA (n != 0)), (55, boolA (n != 0))] (fun cf => by kernel_rfl) ?_
        rcases hb304 : ((n != 0) : Bool) with _ | _
        ·
          have hb304' := bne_no hb304
          have hn0 : (n == 0) = true := by simp only [beq_eq_false_iff_ne, beq_iff_eq, ne_eq]; omega
          refine rs_up 12 [(56, U), (57, U), (58, U), (59, U), (60, U), (61, U), (62, U), (63, No), (64, No), (65, No), (66, J n), (67, boolA (n == 0))] (fun cf => by kernel_rfl) ?_
          rw [hn0]
          refine rs_up 6 [(68, Yes), (69, J (d : Int)), (70, boolA ((d : Int) != 1)), (71, boolA ((d : Int) != 1)), (72, boolA ((d : Int) != 1)), (73, boolA ((d : Int) != 1))] (fun cf => by kernel_rfl) ?_
          rcases hb305 : (((d : Int) != 1) : Bool) with _ | _
          ·
            have hb305' := bne_no hb305
            refine rs_up 3 [(74, J n), (75, intA .i16 V), (76, J (IntKind.wrap .i64 V))] (fun cf => by kernel_rfl) ?_
            rw [wrapI (n := V) (by omega) (by omega)]
            refine rs_up 2 [(77, J (d : Int)), (78, J (IntKind.wrap .i64 (V * (d : Int))))] (fun cf => by kernel_rfl) ?_
            rw [wrapI (n := V * (d : Int)) (by omega) (by omega)]
            refine rs_up 1 [(79, J (IntKind.wrap .i64 (n - (V * (d : Int)))))] (fun cf => by kernel_rfl) ?_
            rw [wrapI (n := n - V * (d : Int)) (by omega) (by omega)]
            refine rs_up 1 [(80, J (k : Int))] (fun cf => by kernel_rfl) ?_
            refine rs_cv (fun m9 => binA Try.cx m9 .rem 3 (J (n - V * (d : Int))) (J (k : Int))) (some 81) (J (Int.tmod (n - V * (d : Int)) (k : Int))) (fun cf => by kernel_rfl) (remZ_at (by omega)) ?_
            refine rs_alu [(82, boolA ((Int.tmod (n - V * (d : Int)) (k : Int)) != 0)), (83, boolA ((Int.tmod (n - V * (d : Int)) (k : Int)) != 0))] (fun cf => by kernel_rfl) ?_
            rcases hb306 : (((Int.tmod (n - V * (d : Int)) (k : Int)) != 0) : Bool) with _ | _
            ·
              have hb306' := bne_no hb306
              have hHit : Hit V k d n := ⟨by omega, by omega, fun hh => by omega, fun hh => by omega, by assumption⟩
              obtain ⟨hi, ⟨lB, IB⟩, ⟨lT, IT⟩⟩ := hok hHit
              have hi1 : (!i) = false := by rw [hi]; rfl
              have hlB : lB.length ≤ 1 := iv_len IB (by omega)
              have hlT : lT.length ≤ 1 := iv_len IT (by omega)
              refine ev_false (by kernel_rfl) ?_
              refine ev_skip ?_
              refine ev_seq ?_
              refine ev_reg (by kernel_rfl) ?_
              refine rs_up 2 [(84, J (c : Int)), (85, J (IntKind.wrap .i64 ((c : Int) + 1)))] (fun cf => by kernel_rfl) ?_
              rw [addI (a := (c : Int)) (b := 1) (A := c) (B := 1) (by rfl) (by rfl) (by omega)]
              refine rs_alu [(9, J ((c + 1 : Nat) : Int))] (fun cf => by kernel_rfl) ?_
              refine ev_seq ?_
              refine ev_reg (by kernel_rfl) ?_
              refine rs_up 2 [(86, boolA i), (87, boolA (!i))] (fun cf => by kernel_rfl) ?_
              rw [hi1]
              refine rs_up 4 [(88, No), (89, .ptr 0 0 0), (90, .ag [boolA sB, .d xB]), (91, J n)] (fun cf => by kernel_rfl) ?_
              obtain ⟨⟨s307, x307⟩, ⟨l307, I307⟩, g307⟩ := g_of (n := n) (by omega) (by omega)
              have hl307 : l307.length ≤ 1 := iv_len I307 (by omega)
              refine rs_cp 27 [J n] false (some 92) (.ag [boolA s307, .d x307]) (by kernel_rfl) (g307) (by kernel_rfl) ?_
              refine rs_cp 30 [.ag [boolA sB, .d xB], .ag [boolA s307, .d x307]] false (some 93) (Yes) (by kernel_rfl) (g_same IB I307 (by omega)) (by kernel_rfl) ?_
              refine rs_up 6 [(94, No), (95, No), (96, No), (97, .ptr 0 0 2), (98, .ag [boolA sT, .d xT]), (99, J (d : Int))] (fun cf => by kernel_rfl) ?_
              obtain ⟨⟨s308, x308⟩, ⟨l308, I308⟩, g308⟩ := g_of (n := (d : Int)) (by omega) (by omega)
              have hl308 : l308.length ≤ 1 := iv_len I308 (by omega)
              refine rs_cp 27 [J (d : Int)] false (some 100) (.ag [boolA s308, .d x308]) (by kernel_rfl) (g308) (by kernel_rfl) ?_
              refine rs_cp 30 [.ag [boolA sT, .d xT], .ag [boolA s308, .d x308]] false (some 101) (Yes) (by kernel_rfl) (g_same IT I308 (by omega)) (by kernel_rfl) ?_
              refine rs_alu [(102, No), (103, No)] (fun cf => by kernel_rfl) ?_
              refine ev_false (by kernel_rfl) ?_
              refine ev_skip ?_
              refine ev_reg (by kernel_rfl) ?_
              refine rs_up 2 [(37, J n), (38, J (IntKind.wrap .i64 (n + 1)))] (fun cf => by kernel_rfl) ?_
              rw [wrapI (n := n + 1) (by omega) (by omega)]
              refine rs_all (s1 := ⟨[intA .i16 V, x1, U, U, No, Yes, J (k : Int), .ptr 0 0 0, boolA i, J ((c + 1 : Nat) : Int), J (d : Int), J (n + 1), x12, x13, x14, x15, x16, x17, x18, x19, x20, x21, x22, x23, x24, x25, x26, x27, x28, x29, x30, x31, x32, x33, x34, J n, Yes, J n, J (n + 1), J n, J (2 * n), J n, J (2 * n * n), J (k : Int), J ((k : Int) - 1), No, No, J (d : Int), J (k : Int), J ((Nat.gcd d k : Nat) : Int), No, No, No, J n, No, No] ++ us 7 ++ [No, No, No, J n, Yes, Yes, J (d : Int), No, No, No, No, J n, intA .i16 V, J V, J (d : Int), J (V * (d : Int)), J (n - V * (d : Int)), J (k : Int), J (Int.tmod (n - V * (d : Int)) (k : Int)), No, No, J (c : Int), J ((c + 1 : Nat) : Int), boolA i, No, No, .ptr 0 0 0, .ag [boolA sB, .d xB], J n, .ag [boolA s307, .d x307], Yes, No, No, No, .ptr 0 0 2, .ag [boolA sT, .d xT], J (d : Int), .ag [boolA s308, .d x308], Yes, No, No] ++ us 26, ⟨[.row [boolA sB, .d xB, boolA sT, .d xT] 0 .ow none], 1⟩⟩) (fun cf => by kernel_rfl) ?_
              exact h2 (by omega) hHit _ _ _ _ _ _ _ _ _ _ _ _ _ _ _ _ _ _ _ _ _ _ _ _ _ _ _ _ _ _ _ _ _ _ _ _ _ _ _ _ _ _ _ _ _ _ _ _ _ _ _ _ _ _ _ _ _ _ _ _ _ _ _ _ _ _ _ _ _
            ·
              have hb306' := bne_yes hb306
              refine ev_true (by kernel_rfl) ?_
              refine ev_exit ?_
              refine ev_reg (by kernel_rfl) ?_
              refine rs_up 2 [(37, J n), (38, J (IntKind.wrap .i64 (n + 1)))] (fun cf => by kernel_rfl) ?_
              rw [wrapI (n := n + 1) (by omega) (by omega)]
              refine rs_all (s1 := ⟨[intA .i16 V, x1, U, U, No, Yes, J (k : Int), .ptr 0 0 0, boolA i, J (c : Int), J (d : Int), J (n + 1), x12, x13, x14, x15, x16, x17, x18, x19, x20, x21, x22, x23, x24, x25, x26, x27, x28, x29, x30, x31, x32, x33, x34, J n, Yes, J n, J (n + 1), J n, J (2 * n), J n, J (2 * n * n), J (k : Int), J ((k : Int) - 1), No, No, J (d : Int), J (k : Int), J ((Nat.gcd d k : Nat) : Int), No, No, No, J n, No, No] ++ us 7 ++ [No, No, No, J n, Yes, Yes, J (d : Int), No, No, No, No, J n, intA .i16 V, J V, J (d : Int), J (V * (d : Int)), J (n - V * (d : Int)), J (k : Int), J (Int.tmod (n - V * (d : Int)) (k : Int)), Yes, Yes, z84, z85, z86, z87, z88, z89, z90, z91, z92, z93, z94, z95, z96, z97, z98, z99, z100, z101, z102, z103] ++ us 26, ⟨[.row [boolA sB, .d xB, boolA sT, .d xT] 0 .ow none], 1⟩⟩) (fun cf => by kernel_rfl) ?_
              exact h1 (by omega) (by rintro ⟨q1, q2, q3, q4, q5⟩; first | omega | exact absurd (q3 (by assumption)) (by omega) | exact absurd (q4 (by assumption)) (by omega) | exact absurd q5 (by assumption)) _ _ _ _ _ _ _ _ _ _ _ _ _ _ _ _ _ _ _ _ _ _ _ _ _ _ _ _ _ _ _ _ _ _ _ _ _ _ _ _ _ _ _ _ _ _ _ _ _ _ _ _ _ _ _ _ _ _ _ _ _ _ _ _ _ _ _ _ _
          ·
            have hb305' := bne_yes hb305
            refine rs_alu [(74, U), (75, U), (76, U), (77, U), (78, U), (79, U), (80, U), (81, U), (82, U), (83, Yes)] (fun cf => by kernel_rfl) ?_
            refine ev_true (by kernel_rfl) ?_
            refine ev_exit ?_
            refine ev_reg (by kernel_rfl) ?_
            refine rs_up 2 [(37, J n), (38, J (IntKind.wrap .i64 (n + 1)))] (fun cf => by kernel_rfl) ?_
            rw [wrapI (n := n + 1) (by omega) (by omega)]
            refine rs_all (s1 := ⟨[intA .i16 V, x1, U, U, No, Yes, J (k : Int), .ptr 0 0 0, boolA i, J (c : Int), J (d : Int), J (n + 1), x12, x13, x14, x15, x16, x17, x18, x19, x20, x21, x22, x23, x24, x25, x26, x27, x28, x29, x30, x31, x32, x33, x34, J n, Yes, J n, J (n + 1), J n, J (2 * n), J n, J (2 * n * n), J (k : Int), J ((k : Int) - 1), No, No, J (d : Int), J (k : Int), J ((Nat.gcd d k : Nat) : Int), No, No, No, J n, No, No] ++ us 7 ++ [No, No, No, J n, Yes, Yes, J (d : Int), Yes, Yes, Yes, Yes] ++ us 9 ++ [Yes, z84, z85, z86, z87, z88, z89, z90, z91, z92, z93, z94, z95, z96, z97, z98, z99, z100, z101, z102, z103] ++ us 26, ⟨[.row [boolA sB, .d xB, boolA sT, .d xT] 0 .ow none], 1⟩⟩) (fun cf => by kernel_rfl) ?_
            exact h1 (by omega) (by rintro ⟨q1, q2, q3, q4, q5⟩; first | omega | exact absurd (q3 (by assumption)) (by omega) | exact absurd (q4 (by assumption)) (by omega) | exact absurd q5 (by assumption)) _ _ _ _ _ _ _ _ _ _ _ _ _ _ _ _ _ _ _ _ _ _ _ _ _ _ _ _ _ _ _ _ _ _ _ _ _ _ _ _ _ _ _ _ _ _ _ _ _ _ _ _ _ _ _ _ _ _ _ _ _ _ _ _ _ _ _ _ _
        ·
          have hb304' := bne_yes hb304
          have hn0 : (n == 0) = false := by simp only [beq_eq_false_iff_ne, beq_iff_eq, ne_eq]; omega
          refine rs_up 4 [(56, J (d : Int)), (57, J n), (58, J n), (59, J (IntKind.wrap .i64 (0 - n)))] (fun cf => by kernel_rfl) ?_
          rw [wrapI (n := 0 - n) (by omega) (by omega)]
          refine rs_up 1 [(60, J (if (0 - n) > n then (0 - n) else n))] (fun cf => by kernel_rfl) ?_
          rw [(show (if (0 - n) > n then (0 - n) else n) = (n.natAbs : Int) by split <;> omega)]
          refine rs_cp 37 [J (d : Int), J (n.natAbs : Int)] false (some 61) (J ((Nat.gcd d n.natAbs : Nat) : Int)) (by kernel_rfl) (l_gcd (a := d) (b := n.natAbs)) (by kernel_rfl) ?_
          refine rs_up 4 [(62, boolA (((Nat.gcd d n.natAbs : Nat) : Int) != 1)), (63, boolA (((Nat.gcd d n.natAbs : Nat) : Int) != 1)), (64, boolA (((Nat.gcd d n.natAbs : Nat) : Int) != 1)), (65, boolA (((Nat.gcd d n.natAbs : Nat) : Int) != 1))] (fun cf => by kernel_rfl) ?_
          rcases hb309 : ((((Nat.gcd d n.natAbs : Nat) : Int) != 1) : Bool) with _ | _
          ·
            have hb309' := bne_no hb309
            refine rs_up 2 [(66, J n), (67, boolA (n == 0))] (fun cf => by kernel_rfl) ?_
            rw [hn0]
            refine rs_up 9 [(68, No), (69, U), (70, U), (71, No), (72, No), (73, No), (74, J n), (75, intA .i16 V), (76, J (IntKind.wrap .i64 V))] (fun cf => by kernel_rfl) ?_
            rw [wrapI (n := V) (by omega) (by omega)]
            refine rs_up 2 [(77, J (d : Int)), (78, J (IntKind.wrap .i64 (V * (d : Int))))] (fun cf => by kernel_rfl) ?_
            rw [wrapI (n := V * (d : Int)) (by omega) (by omega)]
            refine rs_up 1 [(79, J (IntKind.wrap .i64 (n - (V * (d : Int)))))] (fun cf => by kernel_rfl) ?_
            rw [wrapI (n := n - V * (d : Int)) (by omega) (by omega)]
            refine rs_up 1 [(80, J (k : Int))] (fun cf => by kernel_rfl) ?_
            refine rs_cv (fun m9 => binA Try.cx m9 .rem 3 (J (n - V * (d : Int))) (J (k : Int))) (some 81) (J (Int.tmod (n - V * (d : Int)) (k : Int))) (fun cf => by kernel_rfl) (remZ_at (by omega)) ?_
            refine rs_alu [(82, boolA ((Int.tmod (n - V * (d : Int)) (k : Int)) != 0)), (83, boolA ((Int.tmod (n - V * (d : Int)) (k : Int)) != 0))] (fun cf => by kernel_rfl) ?_
            rcases hb310 : (((Int.tmod (n - V * (d : Int)) (k : Int)) != 0) : Bool) with _ | _
            ·
              have hb310' := bne_no hb310
              have hHit : Hit V k d n := ⟨by omega, by omega, fun hh => by omega, fun hh => by omega, by assumption⟩
              obtain ⟨hi, ⟨lB, IB⟩, ⟨lT, IT⟩⟩ := hok hHit
              have hi1 : (!i) = false := by rw [hi]; rfl
              have hlB : lB.length ≤ 1 := iv_len IB (by omega)
              have hlT : lT.length ≤ 1 := iv_len IT (by omega)
              refine ev_false (by kernel_rfl) ?_
              refine ev_skip ?_
              refine ev_seq ?_
              refine ev_reg (by kernel_rfl) ?_
              refine rs_up 2 [(84, J (c : Int)), (85, J (IntKind.wrap .i64 ((c : Int) + 1)))] (fun cf => by kernel_rfl) ?_
              rw [addI (a := (c : Int)) (b := 1) (A := c) (B := 1) (by rfl) (by rfl) (by omega)]
              refine rs_alu [(9, J ((c + 1 : Nat) : Int))] (fun cf => by kernel_rfl) ?_
              refine ev_seq ?_
              refine ev_reg (by kernel_rfl) ?_
              refine rs_up 2 [(86, boolA i), (87, boolA (!i))] (fun cf => by kernel_rfl) ?_
              rw [hi1]
              refine rs_up 4 [(88, No), (89, .ptr 0 0 0), (90, .ag [boolA sB, .d xB]), (91, J n)] (fun cf => by kernel_rfl) ?_
              obtain ⟨⟨s311, x311⟩, ⟨l311, I311⟩, g311⟩ := g_of (n := n) (by omega) (by omega)
              have hl311 : l311.length ≤ 1 := iv_len I311 (by omega)
              refine rs_cp 27 [J n] false (some 92) (.ag [boolA s311, .d x311]) (by kernel_rfl) (g311) (by kernel_rfl) ?_
              refine rs_cp 30 [.ag [boolA sB, .d xB], .ag [boolA s311, .d x311]] false (some 93) (Yes) (by kernel_rfl) (g_same IB I311 (by omega)) (by kernel_rfl) ?_
              refine rs_up 6 [(94, No), (95, No), (96, No), (97, .ptr 0 0 2), (98, .ag [boolA sT, .d xT]), (99, J (d : Int))] (fun cf => by kernel_rfl) ?_
              obtain ⟨⟨s312, x312⟩, ⟨l312, I312⟩, g312⟩ := g_of (n := (d : Int)) (by omega) (by omega)
              have hl312 : l312.length ≤ 1 := iv_len I312 (by omega)
              refine rs_cp 27 [J (d : Int)] false (some 100) (.ag [boolA s312, .d x312]) (by kernel_rfl) (g312) (by kernel_rfl) ?_
              refine rs_cp 30 [.ag [boolA sT, .d xT], .ag [boolA s312, .d x312]] false (some 101) (Yes) (by kernel_rfl) (g_same IT I312 (by omega)) (by kernel_rfl) ?_
              refine rs_alu [(102, No), (103, No)] (fun cf => by kernel_rfl) ?_
              refine ev_false (by kernel_rfl) ?_
              refine ev_skip ?_
              refine ev_reg (by kernel_rfl) ?_
              refine rs_up 2 [(37, J n), (38, J (IntKind.wrap .i64 (n + 1)))] (fun cf => by kernel_rfl) ?_
              rw [wrapI (n := n + 1) (by omega) (by omega)]
              refine rs_all (s1 := ⟨[intA .i16 V, x1, U, U, No, Yes, J (k : Int), .ptr 0 0 0, boolA i, J ((c + 1 : Nat) : Int), J (d : Int), J (n + 1), x12, x13, x14, x15, x16, x17, x18, x19, x20, x21, x22, x23, x24, x25, x26, x27, x28, x29, x30, x31, x32, x33, x34, J n, Yes, J n, J (n + 1), J n, J (2 * n), J n, J (2 * n * n), J (k : Int), J ((k : Int) - 1), No, No, J (d : Int), J (k : Int), J ((Nat.gcd d k : Nat) : Int), No, No, No, J n, Yes, Yes, J (d : Int), J n, J n, J (0 - n), J (n.natAbs : Int), J ((Nat.gcd d n.natAbs : Nat) : Int), No, No, No, No, J n, No, No, U, U, No, No, No, J n, intA .i16 V, J V, J (d : Int), J (V * (d : Int)), J (n - V * (d : Int)), J (k : Int), J (Int.tmod (n - V * (d : Int)) (k : Int)), No, No, J (c : Int), J ((c + 1 : Nat) : Int), boolA i, No, No, .ptr 0 0 0, .ag [boolA sB, .d xB], J n, .ag [boolA s311, .d x311], Yes, No, No, No, .ptr 0 0 2, .ag [boolA sT, .d xT], J (d : Int), .ag [boolA s312, .d x312], Yes, No, No] ++ us 26, ⟨[.row [boolA sB, .d xB, boolA sT, .d xT] 0 .ow none], 1⟩⟩) (fun cf => by kernel_rfl) ?_
              exact h2 (by omega) hHit _ _ _ _ _ _ _ _ _ _ _ _ _ _ _ _ _ _ _ _ _ _ _ _ _ _ _ _ _ _ _ _ _ _ _ _ _ _ _ _ _ _ _ _ _ _ _ _ _ _ _ _ _ _ _ _ _ _ _ _ _ _ _ _ _ _ _ _ _
            ·
              have hb310' := bne_yes hb310
              refine ev_true (by kernel_rfl) ?_
              refine ev_exit ?_
              refine ev_reg (by kernel_rfl) ?_
              refine rs_up 2 [(37, J n), (38, J (IntKind.wrap .i64 (n + 1)))] (fun cf => by kernel_rfl) ?_
              rw [wrapI (n := n + 1) (by omega) (by omega)]
              refine rs_all (s1 := ⟨[intA .i16 V, x1, U, U, No, Yes, J (k : Int), .ptr 0 0 0, boolA i, J (c : Int), J (d : Int), J (n + 1), x12, x13, x14, x15, x16, x17, x18, x19, x20, x21, x22, x23, x24, x25, x26, x27, x28, x29, x30, x31, x32, x33, x34, J n, Yes, J n, J (n + 1), J n, J (2 * n), J n, J (2 * n * n), J (k : Int), J ((k : Int) - 1), No, No, J (d : Int), J (k : Int), J ((Nat.gcd d k : Nat) : Int), No, No, No, J n, Yes, Yes, J (d : Int), J n, J n, J (0 - n), J (n.natAbs : Int), J ((Nat.gcd d n.natAbs : Nat) : Int), No, No, No, No, J n, No, No, U, U, No, No, No, J n, intA .i16 V, J V, J (d : Int), J (V * (d : Int)), J (n - V * (d : Int)), J (k : Int), J (Int.tmod (n - V * (d : Int)) (k : Int)), Yes, Yes, z84, z85, z86, z87, z88, z89, z90, z91, z92, z93, z94, z95, z96, z97, z98, z99, z100, z101, z102, z103] ++ us 26, ⟨[.row [boolA sB, .d xB, boolA sT, .d xT] 0 .ow none], 1⟩⟩) (fun cf => by kernel_rfl) ?_
              exact h1 (by omega) (by rintro ⟨q1, q2, q3, q4, q5⟩; first | omega | exact absurd (q3 (by assumption)) (by omega) | exact absurd (q4 (by assumption)) (by omega) | exact absurd q5 (by assumption)) _ _ _ _ _ _ _ _ _ _ _ _ _ _ _ _ _ _ _ _ _ _ _ _ _ _ _ _ _ _ _ _ _ _ _ _ _ _ _ _ _ _ _ _ _ _ _ _ _ _ _ _ _ _ _ _ _ _ _ _ _ _ _ _ _ _ _ _ _
          ·
            have hb309' := bne_yes hb309
            refine rs_alu [(66, U), (67, U), (68, U), (69, U), (70, U), (71, U), (72, Yes), (73, Yes), (74, U), (75, U), (76, U), (77, U), (78, U), (79, U), (80, U), (81, U), (82, U), (83, Yes)] (fun cf => by kernel_rfl) ?_
            refine ev_true (by kernel_rfl) ?_
            refine ev_exit ?_
            refine ev_reg (by kernel_rfl) ?_
            refine rs_up 2 [(37, J n), (38, J (IntKind.wrap .i64 (n + 1)))] (fun cf => by kernel_rfl) ?_
            rw [wrapI (n := n + 1) (by omega) (by omega)]
            refine rs_all (s1 := ⟨[intA .i16 V, x1, U, U, No, Yes, J (k : Int), .ptr 0 0 0, boolA i, J (c : Int), J (d : Int), J (n + 1), x12, x13, x14, x15, x16, x17, x18, x19, x20, x21, x22, x23, x24, x25, x26, x27, x28, x29, x30, x31, x32, x33, x34, J n, Yes, J n, J (n + 1), J n, J (2 * n), J n, J (2 * n * n), J (k : Int), J ((k : Int) - 1), No, No, J (d : Int), J (k : Int), J ((Nat.gcd d k : Nat) : Int), No, No, No, J n, Yes, Yes, J (d : Int), J n, J n, J (0 - n), J (n.natAbs : Int), J ((Nat.gcd d n.natAbs : Nat) : Int), Yes, Yes, Yes, Yes] ++ us 6 ++ [Yes, Yes] ++ us 9 ++ [Yes, z84, z85, z86, z87, z88, z89, z90, z91, z92, z93, z94, z95, z96, z97, z98, z99, z100, z101, z102, z103] ++ us 26, ⟨[.row [boolA sB, .d xB, boolA sT, .d xT] 0 .ow none], 1⟩⟩) (fun cf => by kernel_rfl) ?_
            exact h1 (by omega) (by rintro ⟨q1, q2, q3, q4, q5⟩; first | omega | exact absurd (q3 (by assumption)) (by omega) | exact absurd (q4 (by assumption)) (by omega) | exact absurd q5 (by assumption)) _ _ _ _ _ _ _ _ _ _ _ _ _ _ _ _ _ _ _ _ _ _ _ _ _ _ _ _ _ _ _ _ _ _ _ _ _ _ _ _ _ _ _ _ _ _ _ _ _ _ _ _ _ _ _ _ _ _ _ _ _ _ _ _ _ _ _ _ _
      ·
        have hb303' := bne_yes hb303
        refine rs_alu [(53, U), (54, U), (55, U), (56, U), (57, U), (58, U), (59, U), (60, U), (61, U), (62, U), (63, U), (64, Yes), (65, Yes), (66, U), (67, U), (68, U), (69, U), (70, U), (71, U), (72, Yes), (73, Yes), (74, U), (75, U), (76, U), (77, U), (78, U), (79, U), (80, U), (81, U), (82, U), (83, Yes)] (fun cf => by kernel_rfl) ?_
        refine ev_true (by kernel_rfl) ?_
        refine ev_exit ?_
        refine ev_reg (by kernel_rfl) ?_
        refine rs_up 2 [(37, J n), (38, J (IntKind.wrap .i64 (n + 1)))] (fun cf => by kernel_rfl) ?_
        rw [wrapI (n := n + 1) (by omega) (by omega)]
        refine rs_all (s1 := ⟨[intA .i16 V, x1, U, U, No, Yes, J (k : Int), .ptr 0 0 0, boolA i, J (c : Int), J (d : Int), J (n + 1), x12, x13, x14, x15, x16, x17, x18, x19, x20, x21, x22, x23, x24, x25, x26, x27, x28, x29, x30, x31, x32, x33, x34, J n, Yes, J n, J (n + 1), J n, J (2 * n), J n, J (2 * n * n), J (k : Int), J ((k : Int) - 1), No, No, J (d : Int), J (k : Int), J ((Nat.gcd d k : Nat) : Int), Yes, Yes, Yes] ++ us 11 ++ [Yes, Yes] ++ us 6 ++ [Yes, Yes] ++ us 9 ++ [Yes, z84, z85, z86, z87, z88, z89, z90, z91, z92, z93, z94, z95, z96, z97, z98, z99, z100, z101, z102, z103] ++ us 26, ⟨[.row [boolA sB, .d xB, boolA sT, .d xT] 0 .ow none], 1⟩⟩) (fun cf => by kernel_rfl) ?_
        exact h1 (by omega) (by rintro ⟨q1, q2, q3, q4, q5⟩; first | omega | exact absurd (q3 (by assumption)) (by omega) | exact absurd (q4 (by assumption)) (by omega) | exact absurd q5 (by assumption)) _ _ _ _ _ _ _ _ _ _ _ _ _ _ _ _ _ _ _ _ _ _ _ _ _ _ _ _ _ _ _ _ _ _ _ _ _ _ _ _ _ _ _ _ _ _ _ _ _ _ _ _ _ _ _ _ _ _ _ _ _ _ _ _ _ _ _ _ _
    ·
      have hb302' := of_decide_eq_true hb302
      refine rs_alu [(47, U), (48, U), (49, U), (50, U), (51, Yes), (52, Yes), (53, U), (54, U), (55, U), (56, U), (57, U), (58, U), (59, U), (60, U), (61, U), (62, U), (63, U), (64, Yes), (65, Yes), (66, U), (67, U), (68, U), (69, U), (70, U), (71, U), (72, Yes), (73, Yes), (74, U), (75, U), (76, U), (77, U), (78, U), (79, U), (80, U), (81, U), (82, U), (83, Yes)] (fun cf => by kernel_rfl) ?_
      refine ev_true (by kernel_rfl) ?_
      refine ev_exit ?_
      refine ev_reg (by kernel_rfl) ?_
      refine rs_up 2 [(37, J n), (38, J (IntKind.wrap .i64 (n + 1)))] (fun cf => by kernel_rfl) ?_
      rw [wrapI (n := n + 1) (by omega) (by omega)]
      refine rs_all (s1 := ⟨[intA .i16 V, x1, U, U, No, Yes, J (k : Int), .ptr 0 0 0, boolA i, J (c : Int), J (d : Int), J (n + 1), x12, x13, x14, x15, x16, x17, x18, x19, x20, x21, x22, x23, x24, x25, x26, x27, x28, x29, x30, x31, x32, x33, x34, J n, Yes, J n, J (n + 1), J n, J (2 * n), J n, J (2 * n * n), J (k : Int), J ((k : Int) - 1), Yes, Yes] ++ us 4 ++ [Yes, Yes] ++ us 11 ++ [Yes, Yes] ++ us 6 ++ [Yes, Yes] ++ us 9 ++ [Yes, z84, z85, z86, z87, z88, z89, z90, z91, z92, z93, z94, z95, z96, z97, z98, z99, z100, z101, z102, z103] ++ us 26, ⟨[.row [boolA sB, .d xB, boolA sT, .d xT] 0 .ow none], 1⟩⟩) (fun cf => by kernel_rfl) ?_
      exact h1 (by omega) (by rintro ⟨q1, q2, q3, q4, q5⟩; first | omega | exact absurd (q3 (by assumption)) (by omega) | exact absurd (q4 (by assumption)) (by omega) | exact absurd q5 (by assumption)) _ _ _ _ _ _ _ _ _ _ _ _ _ _ _ _ _ _ _ _ _ _ _ _ _ _ _ _ _ _ _ _ _ _ _ _ _ _ _ _ _ _ _ _ _ _ _ _ _ _ _ _ _ _ _ _ _ _ _ _ _ _ _ _ _ _ _ _ _
theorem smin_loop {K : Out → St → Prop} {V : Int} {k d : Nat} {i sB sT : Bool} {xB xT : D} (x1 x12 x13 x14 x15 x16 x17 x18 x19 x20 x21 x22 x23 x24 x25 x26 x27 x28 x29 x30 x31 x32 x33 x34 : AV) (hV1 : -32768 ≤ V) (hV2 : V ≤ 32767) (hk1 : 1 ≤ k) (hk2 : k ≤ 255) (hd1 : 1 ≤ d) (hd2 : d ≤ 11) (hok : ∀ n : Int, Hit V k d n → i = true ∧ (∃ l, Iv n sB xB l) ∧ (∃ l, Iv (d : Int) sT xT l)) :
    ∀ (r : Nat) (n : Int) (c : Nat) (z35 z36 z37 z38 z39 z40 z41 z42 z43 z44 z45 z46 z47 z48 z49 z50 z51 z52 z53 z54 z55 z56 z57 z58 z59 z60 z61 z62 z63 z64 z65 z66 z67 z68 z69 z70 z71 z72 z73 z74 z75 z76 z77 z78 z79 z80 z81 z82 z83 z84 z85 z86 z87 z88 z89 z90 z91 z92 z93 z94 z95 z96 z97 z98 z99 z100 z101 z102 z103 : AV) (he : n + (r : Int) = 16) (hn : -15 ≤ n) (hc : c + r < 1000000) (h : ∀ (z35 z36 z37 z38 z39 z40 z41 z42 z43 z44 z45 z46 z47 z48 z49 z50 z51 z52 z53 z54 z55 z56 z57 z58 z59 z60 z61 z62 z63 z64 z65 z66 z67 z68 z69 z70 z71 z72 z73 z74 z75 z76 z77 z78 z79 z80 z81 z82 z83 z84 z85 z86 z87 z88 z89 z90 z91 z92 z93 z94 z95 z96 z97 z98 z99 z100 z101 z102 z103 : AV), K (.exit 2) ⟨[intA .i16 V, x1, U, U, No, Yes, J (k : Int), .ptr 0 0 0, boolA i, J ((c + cntI V k d r n : Nat) : Int), J (d : Int), J 16, x12, x13, x14, x15, x16, x17, x18, x19, x20, x21, x22, x23, x24, x25, x26, x27, x28, x29, x30, x31, x32, x33, x34, z35, z36, z37, z38, z39, z40, z41, z42, z43, z44, z45, z46, z47, z48, z49, z50, z51, z52, z53, z54, z55, z56, z57, z58, z59, z60, z61, z62, z63, z64, z65, z66, z67, z68, z69, z70, z71, z72, z73, z74, z75, z76, z77, z78, z79, z80, z81, z82, z83, z84, z85, z86, z87, z88, z89, z90, z91, z92, z93, z94, z95, z96, z97, z98, z99, z100, z101, z102, z103] ++ us 26, ⟨[.row [boolA sB, .d xB, boolA sT, .d xT] 0 .ow none], 1⟩⟩), EvK Try.cx 9 (.loop smInC) ⟨[intA .i16 V, x1, U, U, No, Yes, J (k : Int), .ptr 0 0 0, boolA i, J (c : Int), J (d : Int), J n, x12, x13, x14, x15, x16, x17, x18, x19, x20, x21, x22, x23, x24, x25, x26, x27, x28, x29, x30, x31, x32, x33, x34, z35, z36, z37, z38, z39, z40, z41, z42, z43, z44, z45, z46, z47, z48, z49, z50, z51, z52, z53, z54, z55, z56, z57, z58, z59, z60, z61, z62, z63, z64, z65, z66, z67, z68, z69, z70, z71, z72, z73, z74, z75, z76, z77, z78, z79, z80, z81, z82, z83, z84, z85, z86, z87, z88, z89, z90, z91, z92, z93, z94, z95, z96, z97, z98, z99, z100, z101, z102, z103] ++ us 26, ⟨[.row [boolA sB, .d xB, boolA sT, .d xT] 0 .ow none], 1⟩⟩ K
  | 0, n, c, z35, z36, z37, z38, z39, z40, z41, z42, z43, z44, z45, z46, z47, z48, z49, z50, z51, z52, z53, z54, z55, z56, z57, z58, z59, z60, z61, z62, z63, z64, z65, z66, z67, z68, z69, z70, z71, z72, z73, z74, z75, z76, z77, z78, z79, z80, z81, z82, z83, z84, z85, z86, z87, z88, z89, z90, z91, z92, z93, z94, z95, z96, z97, z98, z99, z100, z101, z102, z103, he, hn, hc, h => by
    have e : n = 16 := by omega
    subst e
    exact smin_round x1 x12 x13 x14 x15 x16 x17 x18 x19 x20 x21 x22 x23 x24 x25 x26 x27 x28 x29 x30 x31 x32 x33 x34 hV1 hV2 hk1 hk2 hd1 hd2 hn (by omega) (by omega) (hok 16) z35 z36 z37 z38 z39 z40 z41 z42 z43 z44 z45 z46 z47 z48 z49 z50 z51 z52 z53 z54 z55 z56 z57 z58 z59 z60 z61 z62 z63 z64 z65 z66 z67 z68 z69 z70 z71 z72 z73 z74 z75 z76 z77 z78 z79 z80 z81 z82 z83 z84 z85 z86 z87 z88 z89 z90 z91 z92 z93 z94 z95 z96 z97 z98 z99 z100 z101 z102 z103 (fun _ => h) (fun h1 => by omega) (fun h1 => by omega)
  | r + 1, n, c, z35, z36, z37, z38, z39, z40, z41, z42, z43, z44, z45, z46, z47, z48, z49, z50, z51, z52, z53, z54, z55, z56, z57, z58, z59, z60, z61, z62, z63, z64, z65, z66, z67, z68, z69, z70, z71, z72, z73, z74, z75, z76, z77, z78, z79, z80, z81, z82, z83, z84, z85, z86, z87, z88, z89, z90, z91, z92, z93, z94, z95, z96, z97, z98, z99, z100, z101, z102, z103, he, hn, hc, h => by
    refine smin_round x1 x12 x13 x14 x15 x16 x17 x18 x19 x20 x21 x22 x23 x24 x25 x26 x27 x28 x29 x30 x31 x32 x33 x34 hV1 hV2 hk1 hk2 hd1 hd2 hn (by omega) (by omega) (hok n) z35 z36 z37 z38 z39 z40 z41 z42 z43 z44 z45 z46 z47 z48 z49 z50 z51 z52 z53 z54 z55 z56 z57 z58 z59 z60 z61 z62 z63 z64 z65 z66 z67 z68 z69 z70 z71 z72 z73 z74 z75 z76 z77 z78 z79 z80 z81 z82 z83 z84 z85 z86 z87 z88 z89 z90 z91 z92 z93 z94 z95 z96 z97 z98 z99 z100 z101 z102 z103 (fun h0 => by omega) (fun h1 hh z35 z36 z37 z38 z39 z40 z41 z42 z43 z44 z45 z46 z47 z48 z49 z50 z51 z52 z53 z54 z55 z56 z57 z58 z59 z60 z61 z62 z63 z64 z65 z66 z67 z68 z69 z70 z71 z72 z73 z74 z75 z76 z77 z78 z79 z80 z81 z82 z83 z84 z85 z86 z87 z88 z89 z90 z91 z92 z93 z94 z95 z96 z97 z98 z99 z100 z101 z102 z103 => ?_) (fun h1 hh z35 z36 z37 z38 z39 z40 z41 z42 z43 z44 z45 z46 z47 z48 z49 z50 z51 z52 z53 z54 z55 z56 z57 z58 z59 z60 z61 z62 z63 z64 z65 z66 z67 z68 z69 z70 z71 z72 z73 z74 z75 z76 z77 z78 z79 z80 z81 z82 z83 z84 z85 z86 z87 z88 z89 z90 z91 z92 z93 z94 z95 z96 z97 z98 z99 z100 z101 z102 z103 => ?_)
    · rw [cntI_no hh] at h
      exact smin_loop x1 x12 x13 x14 x15 x16 x17 x18 x19 x20 x21 x22 x23 x24 x25 x26 x27 x28 x29 x30 x31 x32 x33 x34 hV1 hV2 hk1 hk2 hd1 hd2 hok r (n + 1) c z35 z36 z37 z38 z39 z40 z41 z42 z43 z44 z45 z46 z47 z48 z49 z50 z51 z52 z53 z54 z55 z56 z57 z58 z59 z60 z61 z62 z63 z64 z65 z66 z67 z68 z69 z70 z71 z72 z73 z74 z75 z76 z77 z78 z79 z80 z81 z82 z83 z84 z85 z86 z87 z88 z89 z90 z91 z92 z93 z94 z95 z96 z97 z98 z99 z100 z101 z102 z103 (by omega) (by omega) (by omega) h
    · rw [cntI_yes hh, ← Nat.add_assoc] at h
      exact smin_loop x1 x12 x13 x14 x15 x16 x17 x18 x19 x20 x21 x22 x23 x24 x25 x26 x27 x28 x29 x30 x31 x32 x33 x34 hV1 hV2 hk1 hk2 hd1 hd2 hok r (n + 1) (c + 1) z35 z36 z37 z38 z39 z40 z41 z42 z43 z44 z45 z46 z47 z48 z49 z50 z51 z52 z53 z54 z55 z56 z57 z58 z59 z60 z61 z62 z63 z64 z65 z66 z67 z68 z69 z70 z71 z72 z73 z74 z75 z76 z77 z78 z79 z80 z81 z82 z83 z84 z85 z86 z87 z88 z89 z90 z91 z92 z93 z94 z95 z96 z97 z98 z99 z100 z101 z102 z103 (by omega) (by omega) (by omega) h
noncomputable def smOutC : Code := (lft (lft (rgt (lft (rgt (rgt (rgt (rgt (rgt (rgt (Try.f9.body.getD .skip)))))))))))
theorem smout_round {K : Out → St → Prop} {V : Int} {k d : Nat} {i sB sT : Bool} {xB xT : D} {c : Nat} (x1 x12 x13 x14 x15 x16 x17 x18 x19 x20 x21 x22 x23 x24 x25 : AV) (hV1 : -32768 ≤ V) (hV2 : V ≤ 32767) (hk2 : k ≤ 255) (hd1 : 1 ≤ d) (hd3 : d ≤ 12) (hc : c < 100000) (hok : ∀ n : Int, ((2 * d * d : Nat) : Int) ≤ (k : Int) - 1 → Hit V k d n → i = true ∧ (∃ l, Iv n sB xB l) ∧ (∃ l, Iv (d : Int) sT xT l)) (z11 z26 z27 z28 z29 z30 z31 z32 z33 z34 z35 z36 z37 z38 z39 z40 z41 z42 z43 z44 z45 z46 z47 z48 z49 z50 z51 z52 z53 z54 z55 z56 z57 z58 z59 z60 z61 z62 z63 z64 z65 z66 z67 z68 z69 z70 z71 z72 z73 z74 z75 z76 z77 z78 z79 z80 z81 z82 z83 z84 z85 z86 z87 z88 z89 z90 z91 z92 z93 z94 z95 z96 z97 z98 z99 z100 z101 z102 z103 : AV) (h0 : ¬ ((2 * d * d : Nat) : Int) ≤ (k : Int) - 1 → ∀ z11 z26 z27 z28 z29 z30 z31 z32 z33 z34 z35 z36 z37 z38 z39 z40 z41 z42 z43 z44 z45 z46 z47 z48 z49 z50 z51 z52 z53 z54 z55 z56 z57 z58 z59 z60 z61 z62 z63 z64 z65 z66 z67 z68 z69 z70 z71 z72 z73 z74 z75 z76 z77 z78 z79 z80 z81 z82 z83 z84 z85 z86 z87 z88 z89 z90 z91 z92 z93 z94 z95 z96 z97 z98 z99 z100 z101 z102 z103, K (.exit 0) ⟨[intA .i16 V, x1, U, U, No, Yes, J (k : Int), .ptr 0 0 0, boolA i, J (c : Int), J (d : Int), z11, x12, x13, x14, x15, x16, x17, x18, x19, x20, x21, x22, x23, x24, x25, z26, z27, z28, z29, z30, z31, z32, z33, z34, z35, z36, z37, z38, z39, z40, z41, z42, z43, z44, z45, z46, z47, z48, z49, z50, z51, z52, z53, z54, z55, z56, z57, z58, z59, z60, z61, z62, z63, z64, z65, z66, z67, z68, z69, z70, z71, z72, z73, z74, z75, z76, z77, z78, z79, z80, z81, z82, z83, z84, z85, z86, z87, z88, z89, z90, z91, z92, z93, z94, z95, z96, z97, z98, z99, z100, z101, z102, z103] ++ us 26, ⟨[.row [boolA sB, .d xB, boolA sT, .d xT] 0 .ow none], 1⟩⟩) (h1 : ((2 * d * d : Nat) : Int) ≤ (k : Int) - 1 → ∀ z11 z26 z27 z28 z29 z30 z31 z32 z33 z34 z35 z36 z37 z38 z39 z40 z41 z42 z43 z44 z45 z46 z47 z48 z49 z50 z51 z52 z53 z54 z55 z56 z57 z58 z59 z60 z61 z62 z63 z64 z65 z66 z67 z68 z69 z70 z71 z72 z73 z74 z75 z76 z77 z78 z79 z80 z81 z82 z83 z84 z85 z86 z87 z88 z89 z90 z91 z92 z93 z94 z95 z96 z97 z98 z99 z100 z101 z102 z103, EvK Try.cx 9 (.loop smOutC) ⟨[intA .i16 V, x1, U, U, No, Yes, J (k : Int), .ptr 0 0 0, boolA i, J ((c + cntI V k d 31 (-15) : Nat) : Int), J ((d + 1 : Nat) : Int), z11, x12, x13, x14, x15, x16, x17, x18, x19, x20, x21, x22, x23, x24, x25, z26, z27, z28, z29, z30, z31, z32, z33, z34, z35, z36, z37, z38, z39, z40, z41, z42, z43, z44, z45, z46, z47, z48, z49, z50, z51, z52, z53, z54, z55, z56, z57, z58, z59, z60, z61, z62, z63, z64, z65, z66, z67, z68, z69, z70, z71, z72, z73, z74, z75, z76, z77, z78, z79, z80, z81, z82, z83, z84, z85, z86, z87, z88, z89, z90, z91, z92, z93, z94, z95, z96, z97, z98, z99, z100, z101, z102, z103] ++ us 26, ⟨[.row [boolA sB, .d xB, boolA sT, .d xT] 0 .ow none], 1⟩⟩ K) : EvK Try.cx 9 (.loop smOutC) ⟨[intA .i16 V, x1, U, U, No, Yes, J (k : Int), .ptr 0 0 0, boolA i, J (c : Int), J (d : Int), z11, x12, x13, x14, x15, x16, x17, x18, x19, x20, x21, x22, x23, x24, x25, z26, z27, z28, z29, z30, z31, z32, z33, z34, z35, z36, z37, z38, z39, z40, z41, z42, z43, z44, z45, z46, z47, z48, z49, z50, z51, z52, z53, z54, z55, z56, z57, z58, z59, z60, z61, z62, z63, z64, z65, z66, z67, z68, z69, z70, z71, z72, z73, z74, z75, z76, z77, z78, z79, z80, z81, z82, z83, z84, z85, z86, z87, z88, z89, z90, z91, z92, z93, z94, z95, z96, z97, z98, z99, z100, z101, z102, z103] ++ us 26, ⟨[.row [boolA sB, .d xB, boolA sT, .d xT] 0 .ow none], 1⟩⟩ K := by
  refine ev_loop ?_
  refine ev_seq ?_
  refine ev_seq ?_
  refine ev_reg (by kernel_rfl) ?_
  refine rs_up 2 [(26, J (d : Int)), (27, J (IntKind.wrap .i64 (2 * (d : Int))))] (fun cf => by kernel_rfl) ?_
  rw [mulI (a := 2) (b := (d : Int)) (A := 2) (B := d) (by rfl) (by rfl) (by omega)]
  refine rs_up 2 [(28, J (d : Int)), (29, J (IntKind.wrap .i64 (((2 * d : Nat) : Int) * (d : Int))))] (fun cf => by kernel_rfl) ?_
  rw [mulI (a := ((2 * d : Nat) : Int)) (b := (d : Int)) (A := 2 * d) (B := d) (by rfl) (by rfl) (by have h8 := Nat.mul_le_mul hd3 hd3; have h9 : 2 * d * d = 2 * (d * d) := Nat.mul_assoc 2 d d; omega)]
  refine rs_up 2 [(30, J (k : Int)), (31, J (IntKind.wrap .i64 ((k : Int) - 1)))] (fun cf => by kernel_rfl) ?_
  rw [wrapI (n := (k : Int) - 1) (by omega) (by omega)]
  refine rs_all (s1 := ⟨[intA .i16 V, x1, U, U, No, Yes, J (k : Int), .ptr 0 0 0, boolA i, J (c : Int), J (d : Int), z11, x12, x13, x14, x15, x16, x17, x18, x19, x20, x21, x22, x23, x24, x25, J (d : Int), J ((2 * d : Nat) : Int), J (d : Int), J (((2 * d) * d : Nat) : Int), J (k : Int), J ((k : Int) - 1), boolA (decide ((((2 * d) * d : Nat) : Int) ≤ ((k : Int) - 1))), z33, z34, z35, z36, z37, z38, z39, z40, z41, z42, z43, z44, z45, z46, z47, z48, z49, z50, z51, z52, z53, z54, z55, z56, z57, z58, z59, z60, z61, z62, z63, z64, z65, z66, z67, z68, z69, z70, z71, z72, z73, z74, z75, z76, z77, z78, z79, z80, z81, z82, z83, z84, z85, z86, z87, z88, z89, z90, z91, z92, z93, z94, z95, z96, z97, z98, z99, z100, z101, z102, z103] ++ us 26, ⟨[.row [boolA sB, .d xB, boolA sT, .d xT] 0 .ow none], 1⟩⟩) (fun cf => by kernel_rfl) ?_
  rcases hb1 : ((decide ((((2 * d) * d : Nat) : Int) ≤ ((k : Int) - 1))) : Bool) with _ | _
  ·
    have hb1' := of_decide_eq_false hb1
    refine ev_false (by kernel_rfl) ?_
    refine ev_exit ?_
    exact h0 (by omega) _ _ _ _ _ _ _ _ _ _ _ _ _ _ _ _ _ _ _ _ _ _ _ _ _ _ _ _ _ _ _ _ _ _ _ _ _ _ _ _ _ _ _ _ _ _ _ _ _ _ _ _ _ _ _ _ _ _ _ _ _ _ _ _ _ _ _ _ _ _ _ _ _ _ _ _ _ _ _
  ·
    have hb1' := of_decide_eq_true hb1
    refine ev_true (by kernel_rfl) ?_
    refine ev_skip ?_
    refine ev_seq ?_
    refine ev_block ?_
    refine ev_seq ?_
    refine ev_reg (by kernel_rfl) ?_
    refine rs_all (s1 := ⟨[intA .i16 V, x1, U, U, No, Yes, J (k : Int), .ptr 0 0 0, boolA i, J (c : Int), J (d : Int), J (-15), x12, x13, x14, x15, x16, x17, x18, x19, x20, x21, x22, x23, x24, x25, J (d : Int), J ((2 * d : Nat) : Int), J (d : Int), J (((2 * d) * d : Nat) : Int), J (k : Int), J ((k : Int) - 1), Yes, z33, z34, z35, z36, z37, z38, z39, z40, z41, z42, z43, z44, z45, z46, z47, z48, z49, z50, z51, z52, z53, z54, z55, z56, z57, z58, z59, z60, z61, z62, z63, z64, z65, z66, z67, z68, z69, z70, z71, z72, z73, z74, z75, z76, z77, z78, z79, z80, z81, z82, z83, z84, z85, z86, z87, z88, z89, z90, z91, z92, z93, z94, z95, z96, z97, z98, z99, z100, z101, z102, z103] ++ us 26, ⟨[.row [boolA sB, .d xB, boolA sT, .d xT] 0 .ow none], 1⟩⟩) (fun cf => by kernel_rfl) ?_
    refine ev_block ?_
    have hdd := d_le (d := d) (k := k) (by omega) hk2
    have hdk := d_ge (d := d) (k := k) (by omega) hd1
    refine smin_loop _ _ _ _ _ _ _ _ _ _ _ _ _ _ _ _ _ _ _ _ _ _ _ _ hV1 hV2 (by omega) hk2 hd1 hdd (fun n hh => hok n (by omega) hh) 31 (-15) c _ _ _ _ _ _ _ _ _ _ _ _ _ _ _ _ _ _ _ _ _ _ _ _ _ _ _ _ _ _ _ _ _ _ _ _ _ _ _ _ _ _ _ _ _ _ _ _ _ _ _ _ _ _ _ _ _ _ _ _ _ _ _ _ _ _ _ _ _ (by omega) (by omega) (by omega) fun v35 v36 v37 v38 v39 v40 v41 v42 v43 v44 v45 v46 v47 v48 v49 v50 v51 v52 v53 v54 v55 v56 v57 v58 v59 v60 v61 v62 v63 v64 v65 v66 v67 v68 v69 v70 v71 v72 v73 v74 v75 v76 v77 v78 v79 v80 v81 v82 v83 v84 v85 v86 v87 v88 v89 v90 v91 v92 v93 v94 v95 v96 v97 v98 v99 v100 v101 v102 v103 => ?_
    refine ev_reg (by kernel_rfl) ?_
    refine rs_up 2 [(33, J (d : Int)), (34, J (IntKind.wrap .i64 ((d : Int) + 1)))] (fun cf => by kernel_rfl) ?_
    rw [addI (a := (d : Int)) (b := 1) (A := d) (B := 1) (by rfl) (by rfl) (by omega)]
    refine rs_all (s1 := ⟨[intA .i16 V, x1, U, U, No, Yes, J (k : Int), .ptr 0 0 0, boolA i, J ((c + cntI V k d 31 (-15) : Nat) : Int), J ((d + 1 : Nat) : Int), J 16, x12, x13, x14, x15, x16, x17, x18, x19, x20, x21, x22, x23, x24, x25, J (d : Int), J ((2 * d : Nat) : Int), J (d : Int), J (((2 * d) * d : Nat) : Int), J (k : Int), J ((k : Int) - 1), Yes, J (d : Int), J ((d + 1 : Nat) : Int), v35, v36, v37, v38, v39, v40, v41, v42, v43, v44, v45, v46, v47, v48, v49, v50, v51, v52, v53, v54, v55, v56, v57, v58, v59, v60, v61, v62, v63, v64, v65, v66, v67, v68, v69, v70, v71, v72, v73, v74, v75, v76, v77, v78, v79, v80, v81, v82, v83, v84, v85, v86, v87, v88, v89, v90, v91, v92, v93, v94, v95, v96, v97, v98, v99, v100, v101, v102, v103] ++ us 26, ⟨[.row [boolA sB, .d xB, boolA sT, .d xT] 0 .ow none], 1⟩⟩) (fun cf => by kernel_rfl) ?_
    exact h1 (by omega) _ _ _ _ _ _ _ _ _ _ _ _ _ _ _ _ _ _ _ _ _ _ _ _ _ _ _ _ _ _ _ _ _ _ _ _ _ _ _ _ _ _ _ _ _ _ _ _ _ _ _ _ _ _ _ _ _ _ _ _ _ _ _ _ _ _ _ _ _ _ _ _ _ _ _ _ _ _ _
theorem smout_loop {K : Out → St → Prop} {V : Int} {k : Nat} {i sB sT : Bool} {xB xT : D} (x1 x12 x13 x14 x15 x16 x17 x18 x19 x20 x21 x22 x23 x24 x25 : AV) (hV1 : -32768 ≤ V) (hV2 : V ≤ 32767) (hk2 : k ≤ 255) (hok : ∀ (d : Nat) (n : Int), 1 ≤ d → ((2 * d * d : Nat) : Int) ≤ (k : Int) - 1 → Hit V k d n → i = true ∧ (∃ l, Iv n sB xB l) ∧ (∃ l, Iv (d : Int) sT xT l)) :
    ∀ (f d c : Nat) (z11 z26 z27 z28 z29 z30 z31 z32 z33 z34 z35 z36 z37 z38 z39 z40 z41 z42 z43 z44 z45 z46 z47 z48 z49 z50 z51 z52 z53 z54 z55 z56 z57 z58 z59 z60 z61 z62 z63 z64 z65 z66 z67 z68 z69 z70 z71 z72 z73 z74 z75 z76 z77 z78 z79 z80 z81 z82 z83 z84 z85 z86 z87 z88 z89 z90 z91 z92 z93 z94 z95 z96 z97 z98 z99 z100 z101 z102 z103 : AV) (hf : d + f = 12) (hd : 1 ≤ d) (hc : c + 31 * f < 100000) (h : ∀ (e : Nat) (z11 z26 z27 z28 z29 z30 z31 z32 z33 z34 z35 z36 z37 z38 z39 z40 z41 z42 z43 z44 z45 z46 z47 z48 z49 z50 z51 z52 z53 z54 z55 z56 z57 z58 z59 z60 z61 z62 z63 z64 z65 z66 z67 z68 z69 z70 z71 z72 z73 z74 z75 z76 z77 z78 z79 z80 z81 z82 z83 z84 z85 z86 z87 z88 z89 z90 z91 z92 z93 z94 z95 z96 z97 z98 z99 z100 z101 z102 z103 : AV), K (.exit 0) ⟨[intA .i16 V, x1, U, U, No, Yes, J (k : Int), .ptr 0 0 0, boolA i, J ((c + cntO V k f d : Nat) : Int), J (e : Int), z11, x12, x13, x14, x15, x16, x17, x18, x19, x20, x21, x22, x23, x24, x25, z26, z27, z28, z29, z30, z31, z32, z33, z34, z35, z36, z37, z38, z39, z40, z41, z42, z43, z44, z45, z46, z47, z48, z49, z50, z51, z52, z53, z54, z55, z56, z57, z58, z59, z60, z61, z62, z63, z64, z65, z66, z67, z68, z69, z70, z71, z72, z73, z74, z75, z76, z77, z78, z79, z80, z81, z82, z83, z84, z85, z86, z87, z88, z89, z90, z91, z92, z93, z94, z95, z96, z97, z98, z99, z100, z101, z102, z103] ++ us 26, ⟨[.row [boolA sB, .d xB, boolA sT, .d xT] 0 .ow none], 1⟩⟩), EvK Try.cx 9 (.loop smOutC) ⟨[intA .i16 V, x1, U, U, No, Yes, J (k : Int), .ptr 0 0 0, boolA i, J (c : Int), J (d : Int), z11, x12, x13, x14, x15, x16, x17, x18, x19, x20, x21, x22, x23, x24, x25, z26, z27, z28, z29, z30, z31, z32, z33, z34, z35, z36, z37, z38, z39, z40, z41, z42, z43, z44, z45, z46, z47, z48, z49, z50, z51, z52, z53, z54, z55, z56, z57, z58, z59, z60, z61, z62, z63, z64, z65, z66, z67, z68, z69, z70, z71, z72, z73, z74, z75, z76, z77, z78, z79, z80, z81, z82, z83, z84, z85, z86, z87, z88, z89, z90, z91, z92, z93, z94, z95, z96, z97, z98, z99, z100, z101, z102, z103] ++ us 26, ⟨[.row [boolA sB, .d xB, boolA sT, .d xT] 0 .ow none], 1⟩⟩ K
  | 0, d, c, z11, z26, z27, z28, z29, z30, z31, z32, z33, z34, z35, z36, z37, z38, z39, z40, z41, z42, z43, z44, z45, z46, z47, z48, z49, z50, z51, z52, z53, z54, z55, z56, z57, z58, z59, z60, z61, z62, z63, z64, z65, z66, z67, z68, z69, z70, z71, z72, z73, z74, z75, z76, z77, z78, z79, z80, z81, z82, z83, z84, z85, z86, z87, z88, z89, z90, z91, z92, z93, z94, z95, z96, z97, z98, z99, z100, z101, z102, z103, hf, hd, hc, h => smout_round x1 x12 x13 x14 x15 x16 x17 x18 x19 x20 x21 x22 x23 x24 x25 hV1 hV2 hk2 hd (by omega) (by omega) (fun n => hok d n hd) z11 z26 z27 z28 z29 z30 z31 z32 z33 z34 z35 z36 z37 z38 z39 z40 z41 z42 z43 z44 z45 z46 z47 z48 z49 z50 z51 z52 z53 z54 z55 z56 z57 z58 z59 z60 z61 z62 z63 z64 z65 z66 z67 z68 z69 z70 z71 z72 z73 z74 z75 z76 z77 z78 z79 z80 z81 z82 z83 z84 z85 z86 z87 z88 z89 z90 z91 z92 z93 z94 z95 z96 z97 z98 z99 z100 z101 z102 z103 (fun _ => h d) fun h1 => absurd (d_le h1 hk2) (by omega)
  | f + 1, d, c, z11, z26, z27, z28, z29, z30, z31, z32, z33, z34, z35, z36, z37, z38, z39, z40, z41, z42, z43, z44, z45, z46, z47, z48, z49, z50, z51, z52, z53, z54, z55, z56, z57, z58, z59, z60, z61, z62, z63, z64, z65, z66, z67, z68, z69, z70, z71, z72, z73, z74, z75, z76, z77, z78, z79, z80, z81, z82, z83, z84, z85, z86, z87, z88, z89, z90, z91, z92, z93, z94, z95, z96, z97, z98, z99, z100, z101, z102, z103, hf, hd, hc, h => by
    have e : cntO V k (f + 1) d = if ((2 * d * d : Nat) : Int) ≤ (k : Int) - 1 then cntI V k d 31 (-15) + cntO V k f (d + 1) else 0 := rfl
    rw [e] at h
    refine smout_round x1 x12 x13 x14 x15 x16 x17 x18 x19 x20 x21 x22 x23 x24 x25 hV1 hV2 hk2 hd (by omega) (by omega) (fun n => hok d n hd) z11 z26 z27 z28 z29 z30 z31 z32 z33 z34 z35 z36 z37 z38 z39 z40 z41 z42 z43 z44 z45 z46 z47 z48 z49 z50 z51 z52 z53 z54 z55 z56 z57 z58 z59 z60 z61 z62 z63 z64 z65 z66 z67 z68 z69 z70 z71 z72 z73 z74 z75 z76 z77 z78 z79 z80 z81 z82 z83 z84 z85 z86 z87 z88 z89 z90 z91 z92 z93 z94 z95 z96 z97 z98 z99 z100 z101 z102 z103 (fun h0 => ?_) fun h1 z11 z26 z27 z28 z29 z30 z31 z32 z33 z34 z35 z36 z37 z38 z39 z40 z41 z42 z43 z44 z45 z46 z47 z48 z49 z50 z51 z52 z53 z54 z55 z56 z57 z58 z59 z60 z61 z62 z63 z64 z65 z66 z67 z68 z69 z70 z71 z72 z73 z74 z75 z76 z77 z78 z79 z80 z81 z82 z83 z84 z85 z86 z87 z88 z89 z90 z91 z92 z93 z94 z95 z96 z97 z98 z99 z100 z101 z102 z103 => ?_
    · rw [if_neg h0] at h
      exact h d
    · rw [if_pos h1, ← Nat.add_assoc] at h
      have h2 := cntI_le (V := V) (k := k) (d := d) 31 (-15)
      exact smout_loop x1 x12 x13 x14 x15 x16 x17 x18 x19 x20 x21 x22 x23 x24 x25 hV1 hV2 hk2 hok f (d + 1) _ z11 z26 z27 z28 z29 z30 z31 z32 z33 z34 z35 z36 z37 z38 z39 z40 z41 z42 z43 z44 z45 z46 z47 z48 z49 z50 z51 z52 z53 z54 z55 z56 z57 z58 z59 z60 z61 z62 z63 z64 z65 z66 z67 z68 z69 z70 z71 z72 z73 z74 z75 z76 z77 z78 z79 z80 z81 z82 z83 z84 z85 z86 z87 z88 z89 z90 z91 z92 z93 z94 z95 z96 z97 z98 z99 z100 z101 z102 z103 (by omega) (by omega) (by omega) h
end Go.Proofs.Ytgkjdfojogemhaa.W
