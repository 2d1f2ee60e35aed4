/-
  The reference: quotients of integers. Made by program. Conditions: none.
-/
import Derived.Test.YtgkjdfojogemhaaWdj
set_option maxRecDepth 100000
set_option maxHeartbeats 20000000
set_option linter.unusedSimpArgs false
set_option linter.unusedVariables false
namespace Go.Proofs.Ytgkjdfojogemhaa.W
open Go.Am


theorem dm_pos {A B : Nat} : (A : Int) / (B : Int) = ((A / B : Nat) : Int) ∧ (A : Int) % (B : Int) = ((A % B : Nat) : Int) := ⟨(Int.natCast_ediv A B).symm, (Int.natCast_emod A B).symm⟩
theorem dm_neg0 {A B : Nat} (hB : 0 < B) (h : A % B = 0) : (-(A : Int)) / (B : Int) = -((A / B : Nat) : Int) ∧ (-(A : Int)) % (B : Int) = 0 := by
  have hdm := Nat.div_add_mod A B
  rw [h, Nat.add_zero] at hdm
  refine (Int.ediv_emod_unique (by omega)).mpr ⟨?_, Int.le_refl 0, by omega⟩
  rw [Int.mul_neg, ← Int.natCast_mul, hdm]
  omega
theorem dm_neg1 {A B : Nat} (hB : 0 < B) (h : A % B ≠ 0) : (-(A : Int)) / (B : Int) = -((A / B + 1 : Nat) : Int) ∧ (-(A : Int)) % (B : Int) = ((B - A % B : Nat) : Int) := by
  have hdm := Nat.div_add_mod A B
  have hlt := Nat.mod_lt A hB
  refine (Int.ediv_emod_unique (by omega)).mpr ⟨?_, by omega, by omega⟩
  rw [Int.mul_neg, ← Int.natCast_mul, Nat.mul_add, Nat.mul_one]
  omega
theorem dm_all {n m : Int} {s t : Bool} {A B q r : Nat} (hn : n = (bif s then -(A : Int) else (A : Int))) (hm : m = (bif t then -(B : Int) else (B : Int))) (hB : 0 < B)
    (h : (s = true ∧ A % B ≠ 0 ∧ q = A / B + 1 ∧ r = B - A % B) ∨ ((s = false ∨ A % B = 0) ∧ q = A / B ∧ r = A % B)) :
    n / m = (bif (!(s == t)) then -(q : Int) else (q : Int)) ∧ n % m = (r : Int) := by
  subst hn hm
  have key : (bif s then -(A : Int) else (A : Int)) / (B : Int) = (bif s then -(q : Int) else (q : Int)) ∧ (bif s then -(A : Int) else (A : Int)) % (B : Int) = (r : Int) := by
    rcases h with ⟨rfl, h1, rfl, rfl⟩ | ⟨h1, rfl, rfl⟩
    · exact dm_neg1 hB h1
    · cases s with
      | false => exact dm_pos
      | true =>
        have h2 : A % B = 0 := by rcases h1 with h1 | h1; · cases h1
                                  · exact h1
        have := dm_neg0 hB h2
        rw [h2]
        exact this
  cases t with
  | false =>
    refine ⟨?_, key.2⟩
    show _ / (B : Int) = _
    rw [key.1]
    cases s <;> rfl
  | true =>
    refine ⟨?_, ?_⟩
    · show _ / -(B : Int) = _
      rw [Int.ediv_neg, key.1]
      cases s <;> simp
    · show _ % -(B : Int) = _
      rw [Int.emod_neg, key.2]


theorem g_divmod {n m : Int} {s t : Bool} {x y : D} {l p : List Nat} (h : Iv n s x l) (hl : l.length < 40000000) (k : Iv m t y p) (hm : p.length < 40000000) (hm0 : m ≠ 0) : ∃ res : (Bool × D) × (Bool × D), (fun (r : (Bool × D) × (Bool × D)) => (∃ l, Iv (n / m) r.1.1 r.1.2 l) ∧ (∃ l, Iv (n % m) r.2.1 r.2.2 l)) res ∧ Gets Try.cx 42 [.ag [boolA s, .d x], .ag [boolA t, .d y]] ((fun (r : (Bool × D) × (Bool × D)) => .tu [.ag [boolA r.1.1, .d r.1.2], .ag [boolA r.2.1, .d r.2.2], J 0]) res) := by
  obtain ⟨hx, ha, na, hn, hs⟩ := h
  obtain ⟨hy, hb, nb, hm2, ht⟩ := k
  have hB : 0 < val p := Nat.pos_of_ne_zero fun e => hm0 (by rw [hm2, e]; cases t <;> rfl)
  have hpe : p ≠ [] := fun e => by rw [e] at hB; exact absurd hB (by decide)
  have hp0 : ((p.length : Int) == 0) = false := by have : p.length ≠ 0 := fun e => hpe (List.eq_nil_of_length_eq_zero e); simp only [beq_eq_false_iff_ne, ne_eq]; omega
  refine gets_some (fn := Try.f42) (fun (r : (Bool × D) × (Bool × D)) => (∃ l, Iv (n / m) r.1.1 r.1.2 l) ∧ (∃ l, Iv (n % m) r.2.1 r.2.2 l)) (fun (r : (Bool × D) × (Bool × D)) => .tu [.ag [boolA r.1.1, .d r.1.2], .ag [boolA r.2.1, .d r.2.2], J 0]) (by kernel_rfl) rfl ?_
  show EvK _ _ _ ⟨[.ag [boolA s, .d x], .ag [boolA t, .d y]] ++ us 44, ⟨[], 0⟩⟩ _
  refine ev_seq ?_
  refine ev_reg (by kernel_rfl) ?_
  refine rs_all (s1 := ⟨[.ag [boolA s, .d x], .ag [boolA t, .d y], .ptr 0 0 0, .ptr 1 1 0, .ptr 2 2 0, .ptr 3 3 0, J 0] ++ us 39, ⟨[.row [boolA s, .d x] 0 .ow none, .row [boolA t, .d y] 1 .ow none, .row [No, .d (.v (.slice none 0 0))] 2 .ow none, .row [No, .d (.v (.slice none 0 0))] 3 .ow none], 4⟩⟩) (fun cf => by kernel_rfl) ?_
  refine ev_seq ?_
  refine ev_seq ?_
  refine ev_reg (by kernel_rfl) ?_
  refine rs_up 2 [(9, .ptr 1 1 1), (10, .d y)] (fun cf => by kernel_rfl) ?_
  refine rs_cl (fun m9 => lenA Try.cx 32 m9 (.d y)) (some 11) (p.length) (fun cf => by kernel_rfl) (len_ws hy) ?_
  refine rs_up 1 [(12, boolA ((p.length : Int) == 0))] (fun cf => by kernel_rfl) ?_
  rw [hp0]
  refine rs_alu [] (fun cf => by kernel_rfl) ?_
  refine ev_false (by kernel_rfl) ?_
  refine ev_skip ?_
  refine ev_seq ?_
  refine ev_reg (by kernel_rfl) ?_
  refine rs_up 4 [(16, .ptr 0 0 1), (17, .d x), (18, .ptr 1 1 1), (19, .d y)] (fun cf => by kernel_rfl) ?_
  obtain ⟨⟨qd, rd⟩, ⟨lq, lr, w1, w2, o1, o2, n1, n2, v1, v2⟩, gdv⟩ := g_divided hx hy ha hb na nb hpe (by omega) (by omega)
  have hlq : lq.length ≤ l.length := nrm_len n1 (by rw [v1]; exact Nat.lt_of_le_of_lt (Nat.div_le_self _ _) (val_lt ha))
  have hlr : lr.length ≤ p.length := nrm_len n2 (by rw [v2]; exact Nat.lt_trans (Nat.mod_lt _ hB) (val_lt hb))
  have hz2 := len_pos_iff n2
  refine rs_cp 66 [.d x, .d y] false (some 20) (.tu [.d qd, .d rd]) (by kernel_rfl) (gdv) (by kernel_rfl) ?_
  refine rs_alu [(7, .d qd), (8, .d rd), (15, .tu [.d qd, .d rd]), (21, .d qd), (22, .d rd)] (fun cf => by kernel_rfl) ?_
  refine ev_seq ?_
  refine ev_seq ?_
  refine ev_reg (by kernel_rfl) ?_
  refine rs_up 3 [(23, .ptr 0 0 0), (24, boolA s), (25, boolA s)] (fun cf => by kernel_rfl) ?_
  rcases hb1 : (s : Bool) with _ | _
  ·
    subst hb1
    have hcase : (false : Bool) = false ∨ val l % val p = 0 := .inl rfl
    refine rs_alu [(29, No)] (fun cf => by kernel_rfl) ?_
    refine ev_false (by kernel_rfl) ?_
    refine ev_skip ?_
    refine ev_seq ?_
    refine ev_reg (by kernel_rfl) ?_
    refine rs_up 6 [(37, .ptr 0 0 0), (38, No), (39, .ptr 1 1 0), (40, boolA t), (41, boolA (!(false == t))), (42, .d qd)] (fun cf => by kernel_rfl) ?_
    obtain ⟨y2, hy2, gy2⟩ := g_made (s := (!(false == t))) w1 (by omega)
    refine rs_cp 47 [boolA (!(false == t)), .d qd] false (some 43) (.ag [boolA ((!(false == t)) && decide ((((trimL lq).length : Nat) : Int) > 0)), .d y2]) (by kernel_rfl) (gy2) (by kernel_rfl) ?_
    refine rs_up 1 [(44, .d rd)] (fun cf => by kernel_rfl) ?_
    obtain ⟨y3, hy3, gy3⟩ := g_made (s := false) w2 (by omega)
    refine rs_cp 47 [No, .d rd] false (some 45) (.ag [boolA (false && decide ((((trimL lr).length : Nat) : Int) > 0)), .d y3]) (by kernel_rfl) (gy3) (by kernel_rfl) ?_
    refine rs_cu (fun m9 => storeA Try.cx 34 m9 (.ptr 2 2 0) (.ag [boolA ((!(false == t)) && decide ((((trimL lq).length : Nat) : Int) > 0)), .d y2])) none ⟨[.row [No, .d x] 0 .ow none, .row [boolA t, .d y] 1 .ow none, .row [boolA ((!(false == t)) && decide ((((trimL lq).length : Nat) : Int) > 0)), .d y2] 2 .ow none, .row [No, .d (.v (.slice none 0 0))] 3 .ow none], 4⟩ (fun cf => by kernel_rfl) (store_int hy2 rfl) ?_
    refine rs_cu (fun m9 => storeA Try.cx 34 m9 (.ptr 3 3 0) (.ag [boolA (false && decide ((((trimL lr).length : Nat) : Int) > 0)), .d y3])) none ⟨[.row [No, .d x] 0 .ow none, .row [boolA t, .d y] 1 .ow none, .row [boolA ((!(false == t)) && decide ((((trimL lq).length : Nat) : Int) > 0)), .d y2] 2 .ow none, .row [boolA (false && decide ((((trimL lr).length : Nat) : Int) > 0)), .d y3] 3 .ow none], 4⟩ (fun cf => by kernel_rfl) (store_int hy3 rfl) ?_
    refine rs_all (s1 := ⟨[.ag [No, .d x], .ag [boolA t, .d y], .ptr 0 0 0, .ptr 1 1 0, .ptr 2 2 0, .ptr 3 3 0, J 0, .d qd, .d rd, .ptr 1 1 1, .d y, J (p.length : Int), No, U, U, .tu [.d qd, .d rd], .ptr 0 0 1, .d x, .ptr 1 1 1, .d y, .tu [.d qd, .d rd], .d qd, .d rd, .ptr 0 0 0, No, No] ++ us 3 ++ [No] ++ us 7 ++ [.ptr 0 0 0, No, .ptr 1 1 0, boolA t, boolA (!(false == t)), .d qd, .ag [boolA ((!(false == t)) && decide ((((trimL lq).length : Nat) : Int) > 0)), .d y2], .d rd, .ag [boolA (false && decide ((((trimL lr).length : Nat) : Int) > 0)), .d y3]], ⟨[.row [No, .d x] 0 .ow none, .row [boolA t, .d y] 1 .ow none, .row [boolA ((!(false == t)) && decide ((((trimL lq).length : Nat) : Int) > 0)), .d y2] 2 .ow none, .row [boolA (false && decide ((((trimL lr).length : Nat) : Int) > 0)), .d y3] 3 .ow none], 4⟩⟩) (fun cf => by kernel_rfl) ?_
    refine ev_ret ?_
    exact ⟨((((!(false == t)) && decide ((((trimL lq).length : Nat) : Int) > 0)), y2), ((false && decide ((((trimL lr).length : Nat) : Int) > 0)), y3)), ⟨⟨_, made_iv (s := (!(false == t))) hy2 o1 (dm_all (q := val (lq)) (r := val (lr)) hn hm2 hB (.inr ⟨hcase, v1, v2⟩)).1⟩, ⟨_, made_iv (s := false) hy3 o2 (dm_all (q := val (lq)) (r := val (lr)) hn hm2 hB (.inr ⟨hcase, v1, v2⟩)).2⟩⟩, .inr rfl, .tu [.ag [boolA ((!(false == t)) && decide ((((trimL lq).length : Nat) : Int) > 0)), .d y2], .ag [boolA (false && decide ((((trimL lr).length : Nat) : Int) > 0)), .d y3], J 0], by kernel_rfl, by kernel_rfl⟩
  ·
    subst hb1
    refine rs_up 1 [(26, .d rd)] (fun cf => by kernel_rfl) ?_
    refine rs_cl (fun m9 => lenA Try.cx 32 m9 (.d rd)) (some 27) (lr.length) (fun cf => by kernel_rfl) (len_ws w2) ?_
    refine rs_alu [(28, boolA (decide ((lr.length : Int) > 0))), (29, boolA (decide ((lr.length : Int) > 0)))] (fun cf => by kernel_rfl) ?_
    rcases hb4 : ((decide ((lr.length : Int) > 0)) : Bool) with _ | _
    ·
      have hb4' := of_decide_eq_false hb4
      have hcase : (true : Bool) = false ∨ val l % val p = 0 := .inr (by rw [← v2]; exact hz2.mp (by omega))
      refine ev_false (by kernel_rfl) ?_
      refine ev_skip ?_
      refine ev_seq ?_
      refine ev_reg (by kernel_rfl) ?_
      refine rs_up 6 [(37, .ptr 0 0 0), (38, Yes), (39, .ptr 1 1 0), (40, boolA t), (41, boolA (!(true == t))), (42, .d qd)] (fun cf => by kernel_rfl) ?_
      obtain ⟨y5, hy5, gy5⟩ := g_made (s := (!(true == t))) w1 (by omega)
      refine rs_cp 47 [boolA (!(true == t)), .d qd] false (some 43) (.ag [boolA ((!(true == t)) && decide ((((trimL lq).length : Nat) : Int) > 0)), .d y5]) (by kernel_rfl) (gy5) (by kernel_rfl) ?_
      refine rs_up 1 [(44, .d rd)] (fun cf => by kernel_rfl) ?_
      obtain ⟨y6, hy6, gy6⟩ := g_made (s := false) w2 (by omega)
      refine rs_cp 47 [No, .d rd] false (some 45) (.ag [boolA (false && decide ((((trimL lr).length : Nat) : Int) > 0)), .d y6]) (by kernel_rfl) (gy6) (by kernel_rfl) ?_
      refine rs_cu (fun m9 => storeA Try.cx 34 m9 (.ptr 2 2 0) (.ag [boolA ((!(true == t)) && decide ((((trimL lq).length : Nat) : Int) > 0)), .d y5])) none ⟨[.row [Yes, .d x] 0 .ow none, .row [boolA t, .d y] 1 .ow none, .row [boolA ((!(true == t)) && decide ((((trimL lq).length : Nat) : Int) > 0)), .d y5] 2 .ow none, .row [No, .d (.v (.slice none 0 0))] 3 .ow none], 4⟩ (fun cf => by kernel_rfl) (store_int hy5 rfl) ?_
      refine rs_cu (fun m9 => storeA Try.cx 34 m9 (.ptr 3 3 0) (.ag [boolA (false && decide ((((trimL lr).length : Nat) : Int) > 0)), .d y6])) none ⟨[.row [Yes, .d x] 0 .ow none, .row [boolA t, .d y] 1 .ow none, .row [boolA ((!(true == t)) && decide ((((trimL lq).length : Nat) : Int) > 0)), .d y5] 2 .ow none, .row [boolA (false && decide ((((trimL lr).length : Nat) : Int) > 0)), .d y6] 3 .ow none], 4⟩ (fun cf => by kernel_rfl) (store_int hy6 rfl) ?_
      refine rs_all (s1 := ⟨[.ag [Yes, .d x], .ag [boolA t, .d y], .ptr 0 0 0, .ptr 1 1 0, .ptr 2 2 0, .ptr 3 3 0, J 0, .d qd, .d rd, .ptr 1 1 1, .d y, J (p.length : Int), No, U, U, .tu [.d qd, .d rd], .ptr 0 0 1, .d x, .ptr 1 1 1, .d y, .tu [.d qd, .d rd], .d qd, .d rd, .ptr 0 0 0, Yes, Yes, .d rd, J (lr.length : Int), No, No] ++ us 7 ++ [.ptr 0 0 0, Yes, .ptr 1 1 0, boolA t, boolA (!(true == t)), .d qd, .ag [boolA ((!(true == t)) && decide ((((trimL lq).length : Nat) : Int) > 0)), .d y5], .d rd, .ag [boolA (false && decide ((((trimL lr).length : Nat) : Int) > 0)), .d y6]], ⟨[.row [Yes, .d x] 0 .ow none, .row [boolA t, .d y] 1 .ow none, .row [boolA ((!(true == t)) && decide ((((trimL lq).length : Nat) : Int) > 0)), .d y5] 2 .ow none, .row [boolA (false && decide ((((trimL lr).length : Nat) : Int) > 0)), .d y6] 3 .ow none], 4⟩⟩) (fun cf => by kernel_rfl) ?_
      refine ev_ret ?_
      exact ⟨((((!(true == t)) && decide ((((trimL lq).length : Nat) : Int) > 0)), y5), ((false && decide ((((trimL lr).length : Nat) : Int) > 0)), y6)), ⟨⟨_, made_iv (s := (!(true == t))) hy5 o1 (dm_all (q := val (lq)) (r := val (lr)) hn hm2 hB (.inr ⟨hcase, v1, v2⟩)).1⟩, ⟨_, made_iv (s := false) hy6 o2 (dm_all (q := val (lq)) (r := val (lr)) hn hm2 hB (.inr ⟨hcase, v1, v2⟩)).2⟩⟩, .inr rfl, .tu [.ag [boolA ((!(true == t)) && decide ((((trimL lq).length : Nat) : Int) > 0)), .d y5], .ag [boolA (false && decide ((((trimL lr).length : Nat) : Int) > 0)), .d y6], J 0], by kernel_rfl, by kernel_rfl⟩
    ·
      have hb4' := of_decide_eq_true hb4
      have hr0 : val l % val p ≠ 0 := by rw [← v2]; intro h0; have := hz2.mpr h0; omega
      refine ev_true (by kernel_rfl) ?_
      refine ev_seq ?_
      refine ev_reg (by kernel_rfl) ?_
      refine rs_upm 2 [(30, .d qd), (31, .own 4 4 0 1 1 (some 1))] ⟨[.row [Yes, .d x] 0 .ow none, .row [boolA t, .d y] 1 .ow none, .row [No, .d (.v (.slice none 0 0))] 2 .ow none, .row [No, .d (.v (.slice none 0 0))] 3 .ow none, .row [intA .u32 1] 4 .ow none], 5⟩ (fun cf => by kernel_rfl) ?_
      refine rs_take 0 (s1 := ⟨[.ag [Yes, .d x], .ag [boolA t, .d y], .ptr 0 0 0, .ptr 1 1 0, .ptr 2 2 0, .ptr 3 3 0, J 0, .d qd, .d rd, .ptr 1 1 1, .d y, J (p.length : Int), No, U, U, .tu [.d qd, .d rd], .ptr 0 0 1, .d x, .ptr 1 1 1, .d y, .tu [.d qd, .d rd], .d qd, .d rd, .ptr 0 0 0, Yes, Yes, .d rd, J (lr.length : Int), Yes, Yes, .d qd, .own 4 4 0 1 1 (some 1)] ++ us 14, ⟨[.row [Yes, .d x] 0 .ow none, .row [boolA t, .d y] 1 .ow none, .row [No, .d (.v (.slice none 0 0))] 2 .ow none, .row [No, .d (.v (.slice none 0 0))] 3 .ow none, .row [intA .u32 1] 4 .ow none], 5⟩⟩) (fun cf => by kernel_rfl) ?_
      obtain ⟨y7, hy7, gy7⟩ := g_added w1 (ws_sl false [1]) o1 (ok_cons (by decide) ok_nil) (by omega) (by decide)
      refine rs_frz (g := 62) (bs := [.d qd, .d (.sl false 1 [.v (.int .u32 1)])]) (ow := true) (r := .d y7) (by kernel_rfl) (gy7) fun m1 _ hA => ?_
      rcases hA [.d qd, .own 4 4 0 1 1 (some 1)] (by kernel_rfl) with rfl | rfl
      ·
        refine rs_alu [(7, .d y7)] (fun cf => by kernel_rfl) ?_
        refine ev_reg (by kernel_rfl) ?_
        refine rs_up 3 [(33, .ptr 1 1 1), (34, .d y), (35, .d rd)] (fun cf => by kernel_rfl) ?_
        obtain ⟨y8, hy8, gy8⟩ := g_taken hy w2 hb o2 (by omega)
        refine rs_cp 63 [.d y, .d rd] false (some 36) (.d y8) (by kernel_rfl) (gy8) (by kernel_rfl) ?_
        refine rs_alu [(8, .d y8)] (fun cf => by kernel_rfl) ?_
        refine ev_seq ?_
        refine ev_reg (by kernel_rfl) ?_
        refine rs_up 6 [(37, .ptr 0 0 0), (38, Yes), (39, .ptr 1 1 0), (40, boolA t), (41, boolA (!(true == t))), (42, .d y7)] (fun cf => by kernel_rfl) ?_
        obtain ⟨y9, hy9, gy9⟩ := g_made (s := (!(true == t))) hy7 (by have := addL_len lq [1]; simp at this; omega)
        refine rs_cp 47 [boolA (!(true == t)), .d y7] false (some 43) (.ag [boolA ((!(true == t)) && decide ((((trimL (addL lq [1])).length : Nat) : Int) > 0)), .d y9]) (by kernel_rfl) (gy9) (by kernel_rfl) ?_
        refine rs_up 1 [(44, .d y8)] (fun cf => by kernel_rfl) ?_
        obtain ⟨y10, hy10, gy10⟩ := g_made (s := false) hy8 (by have := subL_len p lr; omega)
        refine rs_cp 47 [No, .d y8] false (some 45) (.ag [boolA (false && decide ((((trimL (subL p lr)).length : Nat) : Int) > 0)), .d y10]) (by kernel_rfl) (gy10) (by kernel_rfl) ?_
        refine rs_cu (fun m9 => storeA Try.cx 34 m9 (.ptr 2 2 0) (.ag [boolA ((!(true == t)) && decide ((((trimL (addL lq [1])).length : Nat) : Int) > 0)), .d y9])) none ⟨[.row [Yes, .d x] 0 .ow none, .row [boolA t, .d y] 1 .ow none, .row [boolA ((!(true == t)) && decide ((((trimL (addL lq [1])).length : Nat) : Int) > 0)), .d y9] 2 .ow none, .row [No, .d (.v (.slice none 0 0))] 3 .ow none, .row [intA .u32 1] 4 .fz none], 5⟩ (fun cf => by kernel_rfl) (store_int hy9 rfl) ?_
        refine rs_cu (fun m9 => storeA Try.cx 34 m9 (.ptr 3 3 0) (.ag [boolA (false && decide ((((trimL (subL p lr)).length : Nat) : Int) > 0)), .d y10])) none ⟨[.row [Yes, .d x] 0 .ow none, .row [boolA t, .d y] 1 .ow none, .row [boolA ((!(true == t)) && decide ((((trimL (addL lq [1])).length : Nat) : Int) > 0)), .d y9] 2 .ow none, .row [boolA (false && decide ((((trimL (subL p lr)).length : Nat) : Int) > 0)), .d y10] 3 .ow none, .row [intA .u32 1] 4 .fz none], 5⟩ (fun cf => by kernel_rfl) (store_int hy10 rfl) ?_
        refine rs_all (s1 := ⟨[.ag [Yes, .d x], .ag [boolA t, .d y], .ptr 0 0 0, .ptr 1 1 0, .ptr 2 2 0, .ptr 3 3 0, J 0, .d y7, .d y8, .ptr 1 1 1, .d y, J (p.length : Int), No, U, U, .tu [.d qd, .d rd], .ptr 0 0 1, .d x, .ptr 1 1 1, .d y, .tu [.d qd, .d rd], .d qd, .d rd, .ptr 0 0 0, Yes, Yes, .d rd, J (lr.length : Int), Yes, Yes, .d qd, .own 4 4 0 1 1 (some 1), .d y7, .ptr 1 1 1, .d y, .d rd, .d y8, .ptr 0 0 0, Yes, .ptr 1 1 0, boolA t, boolA (!(true == t)), .d y7, .ag [boolA ((!(true == t)) && decide ((((trimL (addL lq [1])).length : Nat) : Int) > 0)), .d y9], .d y8, .ag [boolA (false && decide ((((trimL (subL p lr)).length : Nat) : Int) > 0)), .d y10]], ⟨[.row [Yes, .d x] 0 .ow none, .row [boolA t, .d y] 1 .ow none, .row [boolA ((!(true == t)) && decide ((((trimL (addL lq [1])).length : Nat) : Int) > 0)), .d y9] 2 .ow none, .row [boolA (false && decide ((((trimL (subL p lr)).length : Nat) : Int) > 0)), .d y10] 3 .ow none, .row [intA .u32 1] 4 .fz none], 5⟩⟩) (fun cf => by kernel_rfl) ?_
        refine ev_ret ?_
        exact ⟨((((!(true == t)) && decide ((((trimL (addL lq [1])).length : Nat) : Int) > 0)), y9), ((false && decide ((((trimL (subL p lr)).length : Nat) : Int) > 0)), y10)), ⟨⟨_, made_iv (s := (!(true == t))) hy9 (addL_ok lq [1]) (dm_all (q := val (addL lq [1])) (r := val (subL p lr)) hn hm2 hB (.inl ⟨rfl, hr0, by rw [addL_val o1 (ok_cons (by decide) ok_nil), v1]; rfl, by rw [subL_val' hb o2 n2 (by rw [v2]; exact Nat.le_of_lt (Nat.mod_lt _ hB)), v2]⟩)).1⟩, ⟨_, made_iv (s := false) hy10 (subL_ok p lr) (dm_all (q := val (addL lq [1])) (r := val (subL p lr)) hn hm2 hB (.inl ⟨rfl, hr0, by rw [addL_val o1 (ok_cons (by decide) ok_nil), v1]; rfl, by rw [subL_val' hb o2 n2 (by rw [v2]; exact Nat.le_of_lt (Nat.mod_lt _ hB)), v2]⟩)).2⟩⟩, .inr rfl, .tu [.ag [boolA ((!(true == t)) && decide ((((trimL (addL lq [1])).length : Nat) : Int) > 0)), .d y9], .ag [boolA (false && decide ((((trimL (subL p lr)).length : Nat) : Int) > 0)), .d y10], J 0], by kernel_rfl, by kernel_rfl⟩
      ·
        refine rs_alu [(7, .d y7)] (fun cf => by kernel_rfl) ?_
        refine ev_reg (by kernel_rfl) ?_
        refine rs_up 3 [(33, .ptr 1 1 1), (34, .d y), (35, .d rd)] (fun cf => by kernel_rfl) ?_
        obtain ⟨y11, hy11, gy11⟩ := g_taken hy w2 hb o2 (by omega)
        refine rs_cp 63 [.d y, .d rd] false (some 36) (.d y11) (by kernel_rfl) (gy11) (by kernel_rfl) ?_
        refine rs_alu [(8, .d y11)] (fun cf => by kernel_rfl) ?_
        refine ev_seq ?_
        refine ev_reg (by kernel_rfl) ?_
        refine rs_up 6 [(37, .ptr 0 0 0), (38, Yes), (39, .ptr 1 1 0), (40, boolA t), (41, boolA (!(true == t))), (42, .d y7)] (fun cf => by kernel_rfl) ?_
        obtain ⟨y12, hy12, gy12⟩ := g_made (s := (!(true == t))) hy7 (by have := addL_len lq [1]; simp at this; omega)
        refine rs_cp 47 [boolA (!(true == t)), .d y7] false (some 43) (.ag [boolA ((!(true == t)) && decide ((((trimL (addL lq [1])).length : Nat) : Int) > 0)), .d y12]) (by kernel_rfl) (gy12) (by kernel_rfl) ?_
        refine rs_up 1 [(44, .d y11)] (fun cf => by kernel_rfl) ?_
        obtain ⟨y13, hy13, gy13⟩ := g_made (s := false) hy11 (by have := subL_len p lr; omega)
        refine rs_cp 47 [No, .d y11] false (some 45) (.ag [boolA (false && decide ((((trimL (subL p lr)).length : Nat) : Int) > 0)), .d y13]) (by kernel_rfl) (gy13) (by kernel_rfl) ?_
        refine rs_cu (fun m9 => storeA Try.cx 34 m9 (.ptr 2 2 0) (.ag [boolA ((!(true == t)) && decide ((((trimL (addL lq [1])).length : Nat) : Int) > 0)), .d y12])) none ⟨[.row [Yes, .d x] 0 .ow none, .row [boolA t, .d y] 1 .ow none, .row [boolA ((!(true == t)) && decide ((((trimL (addL lq [1])).length : Nat) : Int) > 0)), .d y12] 2 .ow none, .row [No, .d (.v (.slice none 0 0))] 3 .ow none, .row [intA .u32 1] 4 .ow none], 5⟩ (fun cf => by kernel_rfl) (store_int hy12 rfl) ?_
        refine rs_cu (fun m9 => storeA Try.cx 34 m9 (.ptr 3 3 0) (.ag [boolA (false && decide ((((trimL (subL p lr)).length : Nat) : Int) > 0)), .d y13])) none ⟨[.row [Yes, .d x] 0 .ow none, .row [boolA t, .d y] 1 .ow none, .row [boolA ((!(true == t)) && decide ((((trimL (addL lq [1])).length : Nat) : Int) > 0)), .d y12] 2 .ow none, .row [boolA (false && decide ((((trimL (subL p lr)).length : Nat) : Int) > 0)), .d y13] 3 .ow none, .row [intA .u32 1] 4 .ow none], 5⟩ (fun cf => by kernel_rfl) (store_int hy13 rfl) ?_
        refine rs_all (s1 := ⟨[.ag [Yes, .d x], .ag [boolA t, .d y], .ptr 0 0 0, .ptr 1 1 0, .ptr 2 2 0, .ptr 3 3 0, J 0, .d y7, .d y11, .ptr 1 1 1, .d y, J (p.length : Int), No, U, U, .tu [.d qd, .d rd], .ptr 0 0 1, .d x, .ptr 1 1 1, .d y, .tu [.d qd, .d rd], .d qd, .d rd, .ptr 0 0 0, Yes, Yes, .d rd, J (lr.length : Int), Yes, Yes, .d qd, .own 4 4 0 1 1 (some 1), .d y7, .ptr 1 1 1, .d y, .d rd, .d y11, .ptr 0 0 0, Yes, .ptr 1 1 0, boolA t, boolA (!(true == t)), .d y7, .ag [boolA ((!(true == t)) && decide ((((trimL (addL lq [1])).length : Nat) : Int) > 0)), .d y12], .d y11, .ag [boolA (false && decide ((((trimL (subL p lr)).length : Nat) : Int) > 0)), .d y13]], ⟨[.row [Yes, .d x] 0 .ow none, .row [boolA t, .d y] 1 .ow none, .row [boolA ((!(true == t)) && decide ((((trimL (addL lq [1])).length : Nat) : Int) > 0)), .d y12] 2 .ow none, .row [boolA (false && decide ((((trimL (subL p lr)).length : Nat) : Int) > 0)), .d y13] 3 .ow none, .row [intA .u32 1] 4 .ow none], 5⟩⟩) (fun cf => by kernel_rfl) ?_
        refine ev_ret ?_
        exact ⟨((((!(true == t)) && decide ((((trimL (addL lq [1])).length : Nat) : Int) > 0)), y12), ((false && decide ((((trimL (subL p lr)).length : Nat) : Int) > 0)), y13)), ⟨⟨_, made_iv (s := (!(true == t))) hy12 (addL_ok lq [1]) (dm_all (q := val (addL lq [1])) (r := val (subL p lr)) hn hm2 hB (.inl ⟨rfl, hr0, by rw [addL_val o1 (ok_cons (by decide) ok_nil), v1]; rfl, by rw [subL_val' hb o2 n2 (by rw [v2]; exact Nat.le_of_lt (Nat.mod_lt _ hB)), v2]⟩)).1⟩, ⟨_, made_iv (s := false) hy13 (subL_ok p lr) (dm_all (q := val (addL lq [1])) (r := val (subL p lr)) hn hm2 hB (.inl ⟨rfl, hr0, by rw [addL_val o1 (ok_cons (by decide) ok_nil), v1]; rfl, by rw [subL_val' hb o2 n2 (by rw [v2]; exact Nat.le_of_lt (Nat.mod_lt _ hB)), v2]⟩)).2⟩⟩, .inr rfl, .tu [.ag [boolA ((!(true == t)) && decide ((((trimL (addL lq [1])).length : Nat) : Int) > 0)), .d y12], .ag [boolA (false && decide ((((trimL (subL p lr)).length : Nat) : Int) > 0)), .d y13], J 0], by kernel_rfl, by kernel_rfl⟩

end Go.Proofs.Ytgkjdfojogemhaa.W
