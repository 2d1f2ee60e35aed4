/-
  The law ModularSmall: gcd, SameInt of equal integers. Made by program. Conditions: none.
-/
import Derived.Test.YtgkjdfojogemhaaWsi
set_option maxRecDepth 100000
set_option maxHeartbeats 20000000
set_option linter.unusedSimpArgs false
set_option linter.unusedVariables false
namespace Go.Proofs.Ytgkjdfojogemhaa.W
open Go.Am
theorem remI_at {m : Mem} {t : TypeId} {a p : Int} {A P : Nat} (ha : a = A) (hp : p = P) (h : P ≠ 0) : binA Try.cx m .rem t (intA .i64 a) (intA .i64 p) = some (intA .i64 ((A % P : Nat) : Int)) := by
  subst ha hp
  show (if (P : Int) = 0 then none else some (intA .i64 ((A : Int).tmod P))) = _
  rw [if_neg (by omega), Int.ofNat_tmod]
theorem remZ_at {m : Mem} {t : TypeId} {a p : Int} (h : p ≠ 0) : binA Try.cx m .rem t (intA .i64 a) (intA .i64 p) = some (intA .i64 (Int.tmod a p)) := by
  show (if p = 0 then none else some (intA .i64 (a.tmod p))) = _
  rw [if_neg h]
theorem val_inj : ∀ {a b : List Nat}, Ok a → Ok b → a.length = b.length → val a = val b → a = b
  | [], [], _, _, _, _ => rfl
  | [], b :: l, _, _, h, _ => by cases h
  | a :: l, [], _, _, h, _ => by cases h
  | a :: l, b :: p, ha, hb, h, hv => by
    have h1 := ok_head ha
    have h2 := ok_head hb
    simp only [val] at hv
    have h3 : a = b := by omega
    have h4 : val l = val p := by omega
    rw [h3, val_inj (ok_tail ha) (ok_tail hb) (by simpa using h) h4]
theorem iv_unique {n : Int} {s t : Bool} {x y : D} {l p : List Nat} (h : Iv n s x l) (k : Iv n t y p) : t = s ∧ p = l := by
  have h1 := iv_neg_lt h
  have h2 := iv_neg_lt k
  obtain ⟨_, ol, nl, hn, _⟩ := h
  obtain ⟨_, op, np, hm, _⟩ := k
  have hv : val l = val p := by rw [← natAbs_iv hn, ← natAbs_iv hm]
  refine ⟨?_, (val_inj ol op (Nat.le_antisymm (nrm_len nl (by rw [hv]; exact val_lt op)) (nrm_len np (by rw [← hv]; exact val_lt ol))) hv).symm⟩
  cases s <;> cases t <;> first | rfl | (have a1 := h1.1; have a2 := h1.2; have a3 := h2.1; have a4 := h2.2; simp at a1 a2 a3 a4; omega)
theorem sq_bound {n : Int} (h1 : -16 ≤ n) (h2 : n ≤ 16) : 0 ≤ 2 * n * n ∧ 2 * n * n ≤ 512 := by
  have h3 : n.natAbs ≤ 16 := by omega
  have h4 := Nat.mul_le_mul h3 h3
  have h5 := Int.natAbs_mul_self' n
  rw [Int.mul_assoc]
  omega
noncomputable def lgcdC : Code := (lft (lft (lft (rgt (Try.f37.body.getD .skip)))))
theorem lgcd_round {K : Out → St → Prop} {a b : Nat}   (z5 z6 z7 z8 z9 z10 : AV) (h0 : b = 0 → ∀ z5 z6 z7 z8 z9 z10, K (.exit 0) ⟨[J (a : Int), J (b : Int), U, U, J 0, z5, z6, z7, z8, z9, z10, U], ⟨[], 0⟩⟩) (h1 : 0 < b → ∀ z5 z6 z7 z8 z9 z10, EvK Try.cx 37 (.loop lgcdC) ⟨[J (b : Int), J ((a % b : Nat) : Int), U, U, J 0, z5, z6, z7, z8, z9, z10, U], ⟨[], 0⟩⟩ K) : EvK Try.cx 37 (.loop lgcdC) ⟨[J (a : Int), J (b : Int), U, U, J 0, z5, z6, z7, z8, z9, z10, U], ⟨[], 0⟩⟩ K := by
  refine ev_loop ?_
  refine ev_seq ?_
  refine ev_seq ?_
  refine ev_reg (by kernel_rfl) ?_
  refine rs_all (s1 := ⟨[J (a : Int), J (b : Int), U, U, J 0, J (b : Int), boolA (decide ((b : Int) > 0)), z7, z8, z9, z10, U], ⟨[], 0⟩⟩) (fun cf => by kernel_rfl) ?_
  rcases hb1 : ((decide ((b : Int) > 0)) : Bool) with _ | _
  ·
    have hb1' := of_decide_eq_false hb1
    refine ev_false (by kernel_rfl) ?_
    refine ev_exit ?_
    exact h0 (by omega) _ _ _ _ _ _
  ·
    have hb1' := of_decide_eq_true hb1
    refine ev_true (by kernel_rfl) ?_
    refine ev_skip ?_
    refine ev_block ?_
    refine ev_reg (by kernel_rfl) ?_
    refine rs_up 3 [(7, J (b : Int)), (8, J (a : Int)), (9, J (b : Int))] (fun cf => by kernel_rfl) ?_
    refine rs_cv (fun m9 => binA Try.cx m9 .rem 3 (J (a : Int)) (J (b : Int))) (some 10) (J ((a % b : Nat) : Int)) (fun cf => by kernel_rfl) (remI_at (A := a) (P := b) (by rfl) (by rfl) (by omega)) ?_
    refine rs_all (s1 := ⟨[J (b : Int), J ((a % b : Nat) : Int), U, U, J 0, J (b : Int), Yes, J (b : Int), J (a : Int), J (b : Int), J ((a % b : Nat) : Int), U], ⟨[], 0⟩⟩) (fun cf => by kernel_rfl) ?_
    exact h1 (by omega) _ _ _ _ _ _
theorem lgcd_loop {K : Out → St → Prop} : ∀ (n a b : Nat) (z5 z6 z7 z8 z9 z10 : AV) (hn : b < n) (h : ∀ (z5 z6 z7 z8 z9 z10 : AV), K (.exit 0) ⟨[J ((Nat.gcd a b : Nat) : Int), J (0 : Int), U, U, J 0, z5, z6, z7, z8, z9, z10, U], ⟨[], 0⟩⟩), EvK Try.cx 37 (.loop lgcdC) ⟨[J (a : Int), J (b : Int), U, U, J 0, z5, z6, z7, z8, z9, z10, U], ⟨[], 0⟩⟩ K
  | 0, a, b, z5, z6, z7, z8, z9, z10, hn, _ => absurd hn (Nat.not_lt_zero _)
  | n + 1, a, b, z5, z6, z7, z8, z9, z10, hn, h => by
    refine lgcd_round z5 z6 z7 z8 z9 z10 (fun h0 z5 z6 z7 z8 z9 z10 => ?_) fun h1 z5 z6 z7 z8 z9 z10 => ?_
    · subst h0
      rw [Nat.gcd_zero_right] at h
      exact h z5 z6 z7 z8 z9 z10
    · have h2 := Nat.mod_lt a h1
      refine lgcd_loop n b (a % b) z5 z6 z7 z8 z9 z10 (by omega) ?_
      rw [Nat.gcd_comm b, ← Nat.gcd_rec, Nat.gcd_comm b a]
      exact h
theorem l_gcd {a b : Nat} : Gets Try.cx 37 [J (a : Int), J (b : Int)] (J ((Nat.gcd a b : Nat) : Int)) := by
  refine gets_of (fn := Try.f37) (by kernel_rfl) rfl ?_
  show EvK _ _ _ ⟨[J (a : Int), J (b : Int)] ++ us 10, ⟨[], 0⟩⟩ _
  refine ev_seq ?_
  refine ev_reg (by kernel_rfl) ?_
  refine rs_all (s1 := ⟨[J (a : Int), J (b : Int), U, U, J 0] ++ us 7, ⟨[], 0⟩⟩) (fun cf => by kernel_rfl) ?_
  refine ev_seq ?_
  refine ev_block ?_
  refine lgcd_loop (b + 1) a b _ _ _ _ _ _ (by omega) fun v5 v6 v7 v8 v9 v10 => ?_
  refine ev_seq ?_
  refine ev_reg (by kernel_rfl) ?_
  refine rs_all (s1 := ⟨[J ((Nat.gcd a b : Nat) : Int), J (0 : Int), U, U, J ((Nat.gcd a b : Nat) : Int), v5, v6, v7, v8, v9, v10, J ((Nat.gcd a b : Nat) : Int)], ⟨[], 0⟩⟩) (fun cf => by kernel_rfl) ?_
  refine ev_ret ?_
  refine leaf (r0 := J ((Nat.gcd a b : Nat) : Int)) (r1 := J ((Nat.gcd a b : Nat) : Int)) (.inr rfl) (by kernel_rfl) (by kernel_rfl) ?_
  rfl
noncomputable def sameC : Code := (lft (lft (rgt (lft (rgt (rgt (Try.f30.body.getD .skip)))))))
theorem same_round {K : Out → St → Prop} {s : Bool} {l : List Nat} {x y : D} {i : Nat} (x6 x7 x8 x9 x10 x11 x12 x13 x14 x15 x16 x17 x18 x19 : AV) (hx : Ws l x) (hy : Ws l y) (hl : l.length < 1000000) (z20 z21 z22 z23 z24 z25 z26 z27 z28 z29 z30 z31 z32 z33 z34 z35 z36 z37 : AV) (h0 : l.length ≤ i → ∀ z20 z21 z22 z23 z24 z25 z26 z27 z28 z29 z30 z31 z32 z33 z34 z35 z36 z37, K (.exit 0) ⟨[.ag [boolA s, .d x], .ag [boolA s, .d y], .ptr 0 0 0, .ptr 1 1 0, No, J (i : Int), x6, x7, x8, x9, x10, x11, x12, x13, x14, x15, x16, x17, x18, x19, z20, z21, z22, z23, z24, z25, z26, z27, z28, z29, z30, z31, z32, z33, z34, z35, z36, z37], ⟨[.row [boolA s, .d x] 0 .ow none, .row [boolA s, .d y] 1 .ow none], 2⟩⟩) (h1 : i < l.length → ∀ z20 z21 z22 z23 z24 z25 z26 z27 z28 z29 z30 z31 z32 z33 z34 z35 z36 z37, EvK Try.cx 30 (.loop sameC) ⟨[.ag [boolA s, .d x], .ag [boolA s, .d y], .ptr 0 0 0, .ptr 1 1 0, No, J ((i + 1 : Nat) : Int), x6, x7, x8, x9, x10, x11, x12, x13, x14, x15, x16, x17, x18, x19, z20, z21, z22, z23, z24, z25, z26, z27, z28, z29, z30, z31, z32, z33, z34, z35, z36, z37], ⟨[.row [boolA s, .d x] 0 .ow none, .row [boolA s, .d y] 1 .ow none], 2⟩⟩ K) : EvK Try.cx 30 (.loop sameC) ⟨[.ag [boolA s, .d x], .ag [boolA s, .d y], .ptr 0 0 0, .ptr 1 1 0, No, J (i : Int), x6, x7, x8, x9, x10, x11, x12, x13, x14, x15, x16, x17, x18, x19, z20, z21, z22, z23, z24, z25, z26, z27, z28, z29, z30, z31, z32, z33, z34, z35, z36, z37], ⟨[.row [boolA s, .d x] 0 .ow none, .row [boolA s, .d y] 1 .ow none], 2⟩⟩ K := by
  refine ev_loop ?_
  refine ev_seq ?_
  refine ev_seq ?_
  refine ev_reg (by kernel_rfl) ?_
  refine rs_up 3 [(20, J (i : Int)), (21, .ptr 0 0 1), (22, .d x)] (fun cf => by kernel_rfl) ?_
  refine rs_cl (fun m9 => lenA Try.cx 32 m9 (.d x)) (some 23) (l.length) (fun cf => by kernel_rfl) (len_ws hx) ?_
  refine rs_all (s1 := ⟨[.ag [boolA s, .d x], .ag [boolA s, .d y], .ptr 0 0 0, .ptr 1 1 0, No, J (i : Int), x6, x7, x8, x9, x10, x11, x12, x13, x14, x15, x16, x17, x18, x19, J (i : Int), .ptr 0 0 1, .d x, J (l.length : Int), boolA (decide ((i : Int) < (l.length : Int))), z25, z26, z27, z28, z29, z30, z31, z32, z33, z34, z35, z36, z37], ⟨[.row [boolA s, .d x] 0 .ow none, .row [boolA s, .d y] 1 .ow none], 2⟩⟩) (fun cf => by kernel_rfl) ?_
  rcases hb1 : ((decide ((i : Int) < (l.length : Int))) : Bool) with _ | _
  ·
    have hb1' := of_decide_eq_false hb1
    refine ev_false (by kernel_rfl) ?_
    refine ev_exit ?_
    exact h0 (by omega) _ _ _ _ _ _ _ _ _ _ _ _ _ _ _ _ _ _
  ·
    have hb1' := of_decide_eq_true hb1
    refine ev_true (by kernel_rfl) ?_
    refine ev_skip ?_
    refine ev_seq ?_
    refine ev_block ?_
    refine ev_seq ?_
    refine ev_reg (by kernel_rfl) ?_
    refine rs_up 3 [(27, .ptr 0 0 1), (28, .d x), (29, J (i : Int))] (fun cf => by kernel_rfl) ?_
    refine rs_cv (fun m9 => indexAddrA Try.cx 32 m9 (.d x) (J (i : Int))) (some 30) (.rp [.v (.int .u32 ((l.getD i 0 : Nat) : Int))]) (fun cf => by kernel_rfl) (idx_ws (k := i) hx (by rfl) (by omega)) ?_
    refine rs_up 4 [(31, intA .u32 ((l.getD i 0 : Nat) : Int)), (32, .ptr 1 1 1), (33, .d y), (34, J (i : Int))] (fun cf => by kernel_rfl) ?_
    refine rs_cv (fun m9 => indexAddrA Try.cx 32 m9 (.d y) (J (i : Int))) (some 35) (.rp [.v (.int .u32 ((l.getD i 0 : Nat) : Int))]) (fun cf => by kernel_rfl) (idx_ws (k := i) hy (by rfl) (by omega)) ?_
    refine rs_up 2 [(36, intA .u32 ((l.getD i 0 : Nat) : Int)), (37, boolA (((l.getD i 0 : Nat) : Int) != ((l.getD i 0 : Nat) : Int)))] (fun cf => by kernel_rfl) ?_
    rw [(show (((l.getD i 0 : Nat) : Int) != ((l.getD i 0 : Nat) : Int)) = false by simp)]
    refine rs_alu [] (fun cf => by kernel_rfl) ?_
    refine ev_false (by kernel_rfl) ?_
    refine ev_skip ?_
    refine ev_reg (by kernel_rfl) ?_
    refine rs_up 2 [(25, J (i : Int)), (26, J (IntKind.wrap .i64 ((i : Int) + 1)))] (fun cf => by kernel_rfl) ?_
    rw [addI (a := (i : Int)) (b := 1) (A := i) (B := 1) (by rfl) (by rfl) (by omega)]
    refine rs_all (s1 := ⟨[.ag [boolA s, .d x], .ag [boolA s, .d y], .ptr 0 0 0, .ptr 1 1 0, No, J ((i + 1 : Nat) : Int), x6, x7, x8, x9, x10, x11, x12, x13, x14, x15, x16, x17, x18, x19, J (i : Int), .ptr 0 0 1, .d x, J (l.length : Int), Yes, J (i : Int), J ((i + 1 : Nat) : Int), .ptr 0 0 1, .d x, J (i : Int), .rp [.v (.int .u32 ((l.getD i 0 : Nat) : Int))], intA .u32 ((l.getD i 0 : Nat) : Int), .ptr 1 1 1, .d y, J (i : Int), .rp [.v (.int .u32 ((l.getD i 0 : Nat) : Int))], intA .u32 ((l.getD i 0 : Nat) : Int), No], ⟨[.row [boolA s, .d x] 0 .ow none, .row [boolA s, .d y] 1 .ow none], 2⟩⟩) (fun cf => by kernel_rfl) ?_
    exact h1 (by omega) _ _ _ _ _ _ _ _ _ _ _ _ _ _ _ _ _ _
theorem same_loop {K : Out → St → Prop} {s : Bool} {l : List Nat} {x y : D} (x6 x7 x8 x9 x10 x11 x12 x13 x14 x15 x16 x17 x18 x19 : AV) (hx : Ws l x) (hy : Ws l y) (hl : l.length < 1000000) : ∀ (n i : Nat) (z20 z21 z22 z23 z24 z25 z26 z27 z28 z29 z30 z31 z32 z33 z34 z35 z36 z37 : AV) (hn : l.length - i < n) (h : ∀ (i : Nat) (z20 z21 z22 z23 z24 z25 z26 z27 z28 z29 z30 z31 z32 z33 z34 z35 z36 z37 : AV), K (.exit 0) ⟨[.ag [boolA s, .d x], .ag [boolA s, .d y], .ptr 0 0 0, .ptr 1 1 0, No, J (i : Int), x6, x7, x8, x9, x10, x11, x12, x13, x14, x15, x16, x17, x18, x19, z20, z21, z22, z23, z24, z25, z26, z27, z28, z29, z30, z31, z32, z33, z34, z35, z36, z37], ⟨[.row [boolA s, .d x] 0 .ow none, .row [boolA s, .d y] 1 .ow none], 2⟩⟩), EvK Try.cx 30 (.loop sameC) ⟨[.ag [boolA s, .d x], .ag [boolA s, .d y], .ptr 0 0 0, .ptr 1 1 0, No, J (i : Int), x6, x7, x8, x9, x10, x11, x12, x13, x14, x15, x16, x17, x18, x19, z20, z21, z22, z23, z24, z25, z26, z27, z28, z29, z30, z31, z32, z33, z34, z35, z36, z37], ⟨[.row [boolA s, .d x] 0 .ow none, .row [boolA s, .d y] 1 .ow none], 2⟩⟩ K
  | 0, i, z20, z21, z22, z23, z24, z25, z26, z27, z28, z29, z30, z31, z32, z33, z34, z35, z36, z37, hn, _ => absurd hn (Nat.not_lt_zero _)
  | n + 1, i, z20, z21, z22, z23, z24, z25, z26, z27, z28, z29, z30, z31, z32, z33, z34, z35, z36, z37, hn, h => same_round x6 x7 x8 x9 x10 x11 x12 x13 x14 x15 x16 x17 x18 x19 hx hy hl z20 z21 z22 z23 z24 z25 z26 z27 z28 z29 z30 z31 z32 z33 z34 z35 z36 z37 (fun h0 => h i) fun h1 z20 z21 z22 z23 z24 z25 z26 z27 z28 z29 z30 z31 z32 z33 z34 z35 z36 z37 => same_loop x6 x7 x8 x9 x10 x11 x12 x13 x14 x15 x16 x17 x18 x19 hx hy hl n (i + 1) z20 z21 z22 z23 z24 z25 z26 z27 z28 z29 z30 z31 z32 z33 z34 z35 z36 z37 (by omega) h
theorem g_same1 {s : Bool} {l : List Nat} {x y : D} (hx : Ws l x) (hy : Ws l y) (hl : l.length < 1000000) : Gets Try.cx 30 [.ag [boolA s, .d x], .ag [boolA s, .d y]] (boolA true) := by
  refine gets_of (fn := Try.f30) (by kernel_rfl) rfl ?_
  show EvK _ _ _ ⟨[.ag [boolA s, .d x], .ag [boolA s, .d y]] ++ us 36, ⟨[], 0⟩⟩ _
  refine ev_seq ?_
  refine ev_reg (by kernel_rfl) ?_
  refine rs_alm [(2, .ptr 0 0 0), (3, .ptr 1 1 0), (4, No)] ⟨[.row [boolA s, .d x] 0 .ow none, .row [boolA s, .d y] 1 .ow none], 2⟩ (fun cf => by kernel_rfl) ?_
  refine ev_seq ?_
  refine ev_seq ?_
  refine ev_reg (by kernel_rfl) ?_
  refine rs_up 5 [(6, .ptr 0 0 0), (7, boolA s), (8, .ptr 1 1 0), (9, boolA s), (10, boolA (!(s == s)))] (fun cf => by kernel_rfl) ?_
  rw [(show (!(s == s)) = false by cases s <;> rfl)]
  refine rs_up 3 [(11, No), (12, .ptr 0 0 1), (13, .d x)] (fun cf => by kernel_rfl) ?_
  refine rs_cl (fun m9 => lenA Try.cx 32 m9 (.d x)) (some 14) (l.length) (fun cf => by kernel_rfl) (len_ws hx) ?_
  refine rs_up 2 [(15, .ptr 1 1 1), (16, .d y)] (fun cf => by kernel_rfl) ?_
  refine rs_cl (fun m9 => lenA Try.cx 32 m9 (.d y)) (some 17) (l.length) (fun cf => by kernel_rfl) (len_ws hy) ?_
  refine rs_up 1 [(18, boolA ((l.length : Int) != (l.length : Int)))] (fun cf => by kernel_rfl) ?_
  rw [(show ((l.length : Int) != (l.length : Int)) = false by simp)]
  refine rs_alu [(19, No)] (fun cf => by kernel_rfl) ?_
  refine ev_false (by kernel_rfl) ?_
  refine ev_skip ?_
  refine ev_seq ?_
  refine ev_seq ?_
  refine ev_reg (by kernel_rfl) ?_
  refine rs_all (s1 := ⟨[.ag [boolA s, .d x], .ag [boolA s, .d y], .ptr 0 0 0, .ptr 1 1 0, No, J 0, .ptr 0 0 0, boolA s, .ptr 1 1 0, boolA s, No, No, .ptr 0 0 1, .d x, J (l.length : Int), .ptr 1 1 1, .d y, J (l.length : Int), No, No] ++ us 18, ⟨[.row [boolA s, .d x] 0 .ow none, .row [boolA s, .d y] 1 .ow none], 2⟩⟩) (fun cf => by kernel_rfl) ?_
  refine ev_block ?_
  refine same_loop _ _ _ _ _ _ _ _ _ _ _ _ _ _ hx hy hl (l.length + 1) 0 _ _ _ _ _ _ _ _ _ _ _ _ _ _ _ _ _ _ (by omega) fun i v20 v21 v22 v23 v24 v25 v26 v27 v28 v29 v30 v31 v32 v33 v34 v35 v36 v37 => ?_
  refine ev_seq ?_
  refine ev_reg (by kernel_rfl) ?_
  refine rs_all (s1 := ⟨[.ag [boolA s, .d x], .ag [boolA s, .d y], .ptr 0 0 0, .ptr 1 1 0, Yes, J (i : Int), .ptr 0 0 0, boolA s, .ptr 1 1 0, boolA s, No, No, .ptr 0 0 1, .d x, J (l.length : Int), .ptr 1 1 1, .d y, J (l.length : Int), No, No, v20, v21, v22, v23, v24, v25, v26, v27, v28, v29, v30, v31, v32, v33, v34, v35, v36, v37], ⟨[.row [boolA s, .d x] 0 .ow none, .row [boolA s, .d y] 1 .ow none], 2⟩⟩) (fun cf => by kernel_rfl) ?_
  refine ev_ret ?_
  refine leaf (r0 := Yes) (r1 := Yes) (.inr rfl) (by kernel_rfl) (by kernel_rfl) ?_
  rfl
theorem g_same {n : Int} {s t : Bool} {x y : D} {l p : List Nat} (h : Iv n s x l) (k : Iv n t y p) (hl : l.length < 1000000) : Gets Try.cx 30 [.ag [boolA s, .d x], .ag [boolA t, .d y]] (boolA true) := by
  obtain ⟨rfl, rfl⟩ := iv_unique h k
  exact g_same1 h.1 k.1 hl
end Go.Proofs.Ytgkjdfojogemhaa.W
