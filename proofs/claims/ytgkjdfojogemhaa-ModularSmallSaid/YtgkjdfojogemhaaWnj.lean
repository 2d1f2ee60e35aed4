/-
  The program: quotients of integers by a number of one word; residues. Made by program. Conditions: none.
-/
import Derived.Test.YtgkjdfojogemhaaWni
set_option maxRecDepth 100000
set_option maxHeartbeats 20000000
set_option linter.unusedSimpArgs false
set_option linter.unusedVariables false
namespace Go.Proofs.Ytgkjdfojogemhaa.W
open Go.Am
theorem p_divmod1 {n m : Int} {s t : Bool} {x y : D} {l p : List Nat} (h : Iv n s x l) (hl : l.length < 40000000) (k : Iv m t y p) (hm : p.length < 40000000) (hlp : p.length = 1) (hm0 : m ≠ 0) : ∃ res : (Bool × D) × (Bool × D), (fun (r : (Bool × D) × (Bool × D)) => (∃ l, Iv (n / m) r.1.1 r.1.2 l) ∧ (∃ l, Iv (n % m) r.2.1 r.2.2 l)) res ∧ Gets Try.cx 52 [.ag [boolA s, .d x], .ag [boolA t, .d y]] ((fun (r : (Bool × D) × (Bool × D)) => .tu [.ag [boolA r.1.1, .d r.1.2], .ag [boolA r.2.1, .d r.2.2], J 0]) res) := by
  obtain ⟨hx, ha, na, hn, hs⟩ := h
  obtain ⟨hy, hb, nb, hm2, ht⟩ := k
  have hB : 0 < val p := Nat.pos_of_ne_zero fun e => hm0 (by rw [hm2, e]; cases t <;> rfl)
  have hp0 : ((p.length : Int) == 0) = false := by simp only [beq_eq_false_iff_ne, ne_eq]; omega
  refine gets_some (fn := Try.f52) (fun (r : (Bool × D) × (Bool × D)) => (∃ l, Iv (n / m) r.1.1 r.1.2 l) ∧ (∃ l, Iv (n % m) r.2.1 r.2.2 l)) (fun (r : (Bool × D) × (Bool × D)) => .tu [.ag [boolA r.1.1, .d r.1.2], .ag [boolA r.2.1, .d r.2.2], J 0]) (by kernel_rfl) rfl ?_
  show EvK _ _ _ ⟨[.ag [boolA s, .d x], .ag [boolA t, .d y]] ++ us 44, ⟨[], 0⟩⟩ _
  refine ev_seq ?_
  refine ev_reg (by kernel_rfl) ?_
  refine rs_all (s1 := ⟨[.ag [boolA s, .d x], .ag [boolA t, .d y], .ptr 0 0 0, .ptr 1 1 0, .ptr 2 2 0, .ptr 3 3 0, J 0] ++ us 39, ⟨[.row [boolA s, .d x] 0 .ow none, .row [boolA t, .d y] 1 .ow none, .row [No, .d (.v (.slice none 0 0))] 2 .ow none, .row [No, .d (.v (.slice none 0 0))] 3 .ow none], 4⟩⟩) (fun cf => by kernel_rfl) ?_
  refine ev_seq ?_
  refine ev_reg (by kernel_rfl) ?_
  refine rs_alu [(7, .d y), (10, .ptr 1 1 1), (11, .d y)] (fun cf => by kernel_rfl) ?_
  refine ev_seq ?_
  refine ev_seq ?_
  refine ev_reg (by kernel_rfl) ?_
  refine rs_up 1 [(12, .d y)] (fun cf => by kernel_rfl) ?_
  refine rs_cl (fun m9 => lenA Try.cx 83 m9 (.d y)) (some 13) (p.length) (fun cf => by kernel_rfl) (len_wsN hy) ?_
  refine rs_up 1 [(14, boolA ((p.length : Int) == 0))] (fun cf => by kernel_rfl) ?_
  rw [hp0]
  refine rs_alu [] (fun cf => by kernel_rfl) ?_
  refine ev_false (by kernel_rfl) ?_
  refine ev_skip ?_
  refine ev_seq ?_
  refine ev_reg (by kernel_rfl) ?_
  refine rs_up 3 [(18, .ptr 0 0 1), (19, .d x), (20, .d y)] (fun cf => by kernel_rfl) ?_
  obtain ⟨⟨qd, rd⟩, ⟨lq, lr, w1, w2, o1, o2, n1, n2, v1, v2⟩, gdv⟩ := p_div1 hx hy ha hb na nb hlp (by omega)
  rw [← val_one hlp] at v1 v2
  have hlq : lq.length ≤ l.length := nrm_len n1 (by rw [v1]; exact Nat.lt_of_le_of_lt (Nat.div_le_self _ _) (val_lt ha))
  have hlr : lr.length ≤ p.length := nrm_len n2 (by rw [v2]; exact Nat.lt_trans (Nat.mod_lt _ hB) (val_lt hb))
  have hz2 := len_pos_iff n2
  refine rs_cp 75 [.d x, .d y] false (some 21) (.tu [.d qd, .d rd]) (by kernel_rfl) (gdv) (by kernel_rfl) ?_
  refine rs_alu [(8, .d qd), (9, .d rd), (17, .tu [.d qd, .d rd]), (22, .d qd), (23, .d rd)] (fun cf => by kernel_rfl) ?_
  refine ev_seq ?_
  refine ev_seq ?_
  refine ev_reg (by kernel_rfl) ?_
  refine rs_up 3 [(24, .ptr 0 0 0), (25, boolA s), (26, boolA s)] (fun cf => by kernel_rfl) ?_
  rcases hb1 : (s : Bool) with _ | _
  ·
    subst hb1
    have hcase : (false : Bool) = false ∨ val l % val p = 0 := .inl rfl
    refine rs_alu [(30, No)] (fun cf => by kernel_rfl) ?_
    refine ev_false (by kernel_rfl) ?_
    refine ev_skip ?_
    refine ev_seq ?_
    refine ev_reg (by kernel_rfl) ?_
    refine rs_up 6 [(37, .d qd), (38, .ptr 0 0 0), (39, No), (40, .ptr 1 1 0), (41, boolA t), (42, boolA (!(false == t)))] (fun cf => by kernel_rfl) ?_
    obtain ⟨y2, hy2, gy2⟩ := g_signed (s := (!(false == t))) w1 (by omega)
    refine rs_cp 69 [.d qd, boolA (!(false == t))] false (some 43) (.ag [boolA ((!(false == t)) && decide ((((trimL lq).length : Nat) : Int) > 0)), .d y2]) (by kernel_rfl) (gy2) (by kernel_rfl) ?_
    refine rs_up 1 [(44, .d rd)] (fun cf => by kernel_rfl) ?_
    obtain ⟨y3, hy3, gy3⟩ := g_signed (s := false) w2 (by omega)
    refine rs_cp 69 [.d rd, No] false (some 45) (.ag [boolA (false && decide ((((trimL lr).length : Nat) : Int) > 0)), .d y3]) (by kernel_rfl) (gy3) (by kernel_rfl) ?_
    refine rs_cu (fun m9 => storeA Try.cx 34 m9 (.ptr 2 2 0) (.ag [boolA ((!(false == t)) && decide ((((trimL lq).length : Nat) : Int) > 0)), .d y2])) none ⟨[.row [No, .d x] 0 .ow none, .row [boolA t, .d y] 1 .ow none, .row [boolA ((!(false == t)) && decide ((((trimL lq).length : Nat) : Int) > 0)), .d y2] 2 .ow none, .row [No, .d (.v (.slice none 0 0))] 3 .ow none], 4⟩ (fun cf => by kernel_rfl) (store_int hy2 rfl) ?_
    refine rs_cu (fun m9 => storeA Try.cx 34 m9 (.ptr 3 3 0) (.ag [boolA (false && decide ((((trimL lr).length : Nat) : Int) > 0)), .d y3])) none ⟨[.row [No, .d x] 0 .ow none, .row [boolA t, .d y] 1 .ow none, .row [boolA ((!(false == t)) && decide ((((trimL lq).length : Nat) : Int) > 0)), .d y2] 2 .ow none, .row [boolA (false && decide ((((trimL lr).length : Nat) : Int) > 0)), .d y3] 3 .ow none], 4⟩ (fun cf => by kernel_rfl) (store_int hy3 rfl) ?_
    refine rs_all (s1 := ⟨[.ag [No, .d x], .ag [boolA t, .d y], .ptr 0 0 0, .ptr 1 1 0, .ptr 2 2 0, .ptr 3 3 0, J 0, .d y, .d qd, .d rd, .ptr 1 1 1, .d y, .d y, J (p.length : Int), No, U, U, .tu [.d qd, .d rd], .ptr 0 0 1, .d x, .d y, .tu [.d qd, .d rd], .d qd, .d rd, .ptr 0 0 0, No, No] ++ us 3 ++ [No] ++ us 6 ++ [.d qd, .ptr 0 0 0, No, .ptr 1 1 0, boolA t, boolA (!(false == t)), .ag [boolA ((!(false == t)) && decide ((((trimL lq).length : Nat) : Int) > 0)), .d y2], .d rd, .ag [boolA (false && decide ((((trimL lr).length : Nat) : Int) > 0)), .d y3]], ⟨[.row [No, .d x] 0 .ow none, .row [boolA t, .d y] 1 .ow none, .row [boolA ((!(false == t)) && decide ((((trimL lq).length : Nat) : Int) > 0)), .d y2] 2 .ow none, .row [boolA (false && decide ((((trimL lr).length : Nat) : Int) > 0)), .d y3] 3 .ow none], 4⟩⟩) (fun cf => by kernel_rfl) ?_
    refine ev_ret ?_
    exact ⟨((((!(false == t)) && decide ((((trimL lq).length : Nat) : Int) > 0)), y2), ((false && decide ((((trimL lr).length : Nat) : Int) > 0)), y3)), ⟨⟨_, made_iv (s := (!(false == t))) hy2 o1 (dm_all (q := val (lq)) (r := val (lr)) hn hm2 hB (.inr ⟨hcase, v1, v2⟩)).1⟩, ⟨_, made_iv (s := false) hy3 o2 (dm_all (q := val (lq)) (r := val (lr)) hn hm2 hB (.inr ⟨hcase, v1, v2⟩)).2⟩⟩, .inr rfl, .tu [.ag [boolA ((!(false == t)) && decide ((((trimL lq).length : Nat) : Int) > 0)), .d y2], .ag [boolA (false && decide ((((trimL lr).length : Nat) : Int) > 0)), .d y3], J 0], by kernel_rfl, by kernel_rfl⟩
  ·
    subst hb1
    refine rs_up 1 [(27, .d rd)] (fun cf => by kernel_rfl) ?_
    refine rs_cl (fun m9 => lenA Try.cx 83 m9 (.d rd)) (some 28) (lr.length) (fun cf => by kernel_rfl) (len_wsN w2) ?_
    refine rs_alu [(29, boolA (decide ((lr.length : Int) > 0))), (30, boolA (decide ((lr.length : Int) > 0)))] (fun cf => by kernel_rfl) ?_
    rcases hb4 : ((decide ((lr.length : Int) > 0)) : Bool) with _ | _
    ·
      have hb4' := of_decide_eq_false hb4
      have hcase : (true : Bool) = false ∨ val l % val p = 0 := .inr (by rw [← v2]; exact hz2.mp (by omega))
      refine ev_false (by kernel_rfl) ?_
      refine ev_skip ?_
      refine ev_seq ?_
      refine ev_reg (by kernel_rfl) ?_
      refine rs_up 6 [(37, .d qd), (38, .ptr 0 0 0), (39, Yes), (40, .ptr 1 1 0), (41, boolA t), (42, boolA (!(true == t)))] (fun cf => by kernel_rfl) ?_
      obtain ⟨y5, hy5, gy5⟩ := g_signed (s := (!(true == t))) w1 (by omega)
      refine rs_cp 69 [.d qd, boolA (!(true == t))] false (some 43) (.ag [boolA ((!(true == t)) && decide ((((trimL lq).length : Nat) : Int) > 0)), .d y5]) (by kernel_rfl) (gy5) (by kernel_rfl) ?_
      refine rs_up 1 [(44, .d rd)] (fun cf => by kernel_rfl) ?_
      obtain ⟨y6, hy6, gy6⟩ := g_signed (s := false) w2 (by omega)
      refine rs_cp 69 [.d rd, No] false (some 45) (.ag [boolA (false && decide ((((trimL lr).length : Nat) : Int) > 0)), .d y6]) (by kernel_rfl) (gy6) (by kernel_rfl) ?_
      refine rs_cu (fun m9 => storeA Try.cx 34 m9 (.ptr 2 2 0) (.ag [boolA ((!(true == t)) && decide ((((trimL lq).length : Nat) : Int) > 0)), .d y5])) none ⟨[.row [Yes, .d x] 0 .ow none, .row [boolA t, .d y] 1 .ow none, .row [boolA ((!(true == t)) && decide ((((trimL lq).length : Nat) : Int) > 0)), .d y5] 2 .ow none, .row [No, .d (.v (.slice none 0 0))] 3 .ow none], 4⟩ (fun cf => by kernel_rfl) (store_int hy5 rfl) ?_
      refine rs_cu (fun m9 => storeA Try.cx 34 m9 (.ptr 3 3 0) (.ag [boolA (false && decide ((((trimL lr).length : Nat) : Int) > 0)), .d y6])) none ⟨[.row [Yes, .d x] 0 .ow none, .row [boolA t, .d y] 1 .ow none, .row [boolA ((!(true == t)) && decide ((((trimL lq).length : Nat) : Int) > 0)), .d y5] 2 .ow none, .row [boolA (false && decide ((((trimL lr).length : Nat) : Int) > 0)), .d y6] 3 .ow none], 4⟩ (fun cf => by kernel_rfl) (store_int hy6 rfl) ?_
      refine rs_all (s1 := ⟨[.ag [Yes, .d x], .ag [boolA t, .d y], .ptr 0 0 0, .ptr 1 1 0, .ptr 2 2 0, .ptr 3 3 0, J 0, .d y, .d qd, .d rd, .ptr 1 1 1, .d y, .d y, J (p.length : Int), No, U, U, .tu [.d qd, .d rd], .ptr 0 0 1, .d x, .d y, .tu [.d qd, .d rd], .d qd, .d rd, .ptr 0 0 0, Yes, Yes, .d rd, J (lr.length : Int), No, No] ++ us 6 ++ [.d qd, .ptr 0 0 0, Yes, .ptr 1 1 0, boolA t, boolA (!(true == t)), .ag [boolA ((!(true == t)) && decide ((((trimL lq).length : Nat) : Int) > 0)), .d y5], .d rd, .ag [boolA (false && decide ((((trimL lr).length : Nat) : Int) > 0)), .d y6]], ⟨[.row [Yes, .d x] 0 .ow none, .row [boolA t, .d y] 1 .ow none, .row [boolA ((!(true == t)) && decide ((((trimL lq).length : Nat) : Int) > 0)), .d y5] 2 .ow none, .row [boolA (false && decide ((((trimL lr).length : Nat) : Int) > 0)), .d y6] 3 .ow none], 4⟩⟩) (fun cf => by kernel_rfl) ?_
      refine ev_ret ?_
      exact ⟨((((!(true == t)) && decide ((((trimL lq).length : Nat) : Int) > 0)), y5), ((false && decide ((((trimL lr).length : Nat) : Int) > 0)), y6)), ⟨⟨_, made_iv (s := (!(true == t))) hy5 o1 (dm_all (q := val (lq)) (r := val (lr)) hn hm2 hB (.inr ⟨hcase, v1, v2⟩)).1⟩, ⟨_, made_iv (s := false) hy6 o2 (dm_all (q := val (lq)) (r := val (lr)) hn hm2 hB (.inr ⟨hcase, v1, v2⟩)).2⟩⟩, .inr rfl, .tu [.ag [boolA ((!(true == t)) && decide ((((trimL lq).length : Nat) : Int) > 0)), .d y5], .ag [boolA (false && decide ((((trimL lr).length : Nat) : Int) > 0)), .d y6], J 0], by kernel_rfl, by kernel_rfl⟩
    ·
      have hb4' := of_decide_eq_true hb4
      have hr0 : val l % val p ≠ 0 := by rw [← v2]; intro h0; have := hz2.mpr h0; omega
      refine ev_true (by kernel_rfl) ?_
      refine ev_reg (by kernel_rfl) ?_
      refine rs_up 1 [(31, .d qd)] (fun cf => by kernel_rfl) ?_
      obtain ⟨y7, hy7, gy7⟩ := g_natural (n := 1) (by omega)
      refine rs_cp 68 [intA .u64 1] false (some 32) (.d y7) (by kernel_rfl) (gy7) (by kernel_rfl) ?_
      obtain ⟨y8, hy8, gy8⟩ := p_add w1 hy7 o1 (ok_words (by omega)) (by omega) (by have := words_len (n := 1) (by omega); omega)
      refine rs_cp 70 [.d qd, .d y7] false (some 33) (.d y8) (by kernel_rfl) (gy8) (by kernel_rfl) ?_
      refine rs_up 2 [(34, .d y), (35, .d rd)] (fun cf => by kernel_rfl) ?_
      obtain ⟨y9, hy9, gy9⟩ := p_sub hy w2 hb o2 (by omega)
      refine rs_cp 72 [.d y, .d rd] false (some 36) (.d y9) (by kernel_rfl) (gy9) (by kernel_rfl) ?_
      refine rs_alu [(8, .d y8), (9, .d y9)] (fun cf => by kernel_rfl) ?_
      refine ev_seq ?_
      refine ev_reg (by kernel_rfl) ?_
      refine rs_up 6 [(37, .d y8), (38, .ptr 0 0 0), (39, Yes), (40, .ptr 1 1 0), (41, boolA t), (42, boolA (!(true == t)))] (fun cf => by kernel_rfl) ?_
      obtain ⟨y10, hy10, gy10⟩ := g_signed (s := (!(true == t))) hy8 (by have := addL_len lq (wordsL 1); have := words_len (n := 1) (by omega); omega)
      refine rs_cp 69 [.d y8, boolA (!(true == t))] false (some 43) (.ag [boolA ((!(true == t)) && decide ((((trimL (addL lq (wordsL 1))).length : Nat) : Int) > 0)), .d y10]) (by kernel_rfl) (gy10) (by kernel_rfl) ?_
      refine rs_up 1 [(44, .d y9)] (fun cf => by kernel_rfl) ?_
      obtain ⟨y11, hy11, gy11⟩ := g_signed (s := false) hy9 (by have := subL_len p lr; omega)
      refine rs_cp 69 [.d y9, No] false (some 45) (.ag [boolA (false && decide ((((trimL (subL p lr)).length : Nat) : Int) > 0)), .d y11]) (by kernel_rfl) (gy11) (by kernel_rfl) ?_
      refine rs_cu (fun m9 => storeA Try.cx 34 m9 (.ptr 2 2 0) (.ag [boolA ((!(true == t)) && decide ((((trimL (addL lq (wordsL 1))).length : Nat) : Int) > 0)), .d y10])) none ⟨[.row [Yes, .d x] 0 .ow none, .row [boolA t, .d y] 1 .ow none, .row [boolA ((!(true == t)) && decide ((((trimL (addL lq (wordsL 1))).length : Nat) : Int) > 0)), .d y10] 2 .ow none, .row [No, .d (.v (.slice none 0 0))] 3 .ow none], 4⟩ (fun cf => by kernel_rfl) (store_int hy10 rfl) ?_
      refine rs_cu (fun m9 => storeA Try.cx 34 m9 (.ptr 3 3 0) (.ag [boolA (false && decide ((((trimL (subL p lr)).length : Nat) : Int) > 0)), .d y11])) none ⟨[.row [Yes, .d x] 0 .ow none, .row [boolA t, .d y] 1 .ow none, .row [boolA ((!(true == t)) && decide ((((trimL (addL lq (wordsL 1))).length : Nat) : Int) > 0)), .d y10] 2 .ow none, .row [boolA (false && decide ((((trimL (subL p lr)).length : Nat) : Int) > 0)), .d y11] 3 .ow none], 4⟩ (fun cf => by kernel_rfl) (store_int hy11 rfl) ?_
      refine rs_all (s1 := ⟨[.ag [Yes, .d x], .ag [boolA t, .d y], .ptr 0 0 0, .ptr 1 1 0, .ptr 2 2 0, .ptr 3 3 0, J 0, .d y, .d y8, .d y9, .ptr 1 1 1, .d y, .d y, J (p.length : Int), No, U, U, .tu [.d qd, .d rd], .ptr 0 0 1, .d x, .d y, .tu [.d qd, .d rd], .d qd, .d rd, .ptr 0 0 0, Yes, Yes, .d rd, J (lr.length : Int), Yes, Yes, .d qd, .d y7, .d y8, .d y, .d rd, .d y9, .d y8, .ptr 0 0 0, Yes, .ptr 1 1 0, boolA t, boolA (!(true == t)), .ag [boolA ((!(true == t)) && decide ((((trimL (addL lq (wordsL 1))).length : Nat) : Int) > 0)), .d y10], .d y9, .ag [boolA (false && decide ((((trimL (subL p lr)).length : Nat) : Int) > 0)), .d y11]], ⟨[.row [Yes, .d x] 0 .ow none, .row [boolA t, .d y] 1 .ow none, .row [boolA ((!(true == t)) && decide ((((trimL (addL lq (wordsL 1))).length : Nat) : Int) > 0)), .d y10] 2 .ow none, .row [boolA (false && decide ((((trimL (subL p lr)).length : Nat) : Int) > 0)), .d y11] 3 .ow none], 4⟩⟩) (fun cf => by kernel_rfl) ?_
      refine ev_ret ?_
      exact ⟨((((!(true == t)) && decide ((((trimL (addL lq (wordsL 1))).length : Nat) : Int) > 0)), y10), ((false && decide ((((trimL (subL p lr)).length : Nat) : Int) > 0)), y11)), ⟨⟨_, made_iv (s := (!(true == t))) hy10 (addL_ok lq (wordsL 1)) (dm_all (q := val (addL lq (wordsL 1))) (r := val (subL p lr)) hn hm2 hB (.inl ⟨rfl, hr0, by rw [addL_val o1 (ok_words (by decide)), val_words, v1], by rw [subL_val' hb o2 n2 (by rw [v2]; exact Nat.le_of_lt (Nat.mod_lt _ hB)), v2]⟩)).1⟩, ⟨_, made_iv (s := false) hy11 (subL_ok p lr) (dm_all (q := val (addL lq (wordsL 1))) (r := val (subL p lr)) hn hm2 hB (.inl ⟨rfl, hr0, by rw [addL_val o1 (ok_words (by decide)), val_words, v1], by rw [subL_val' hb o2 n2 (by rw [v2]; exact Nat.le_of_lt (Nat.mod_lt _ hB)), v2]⟩)).2⟩⟩, .inr rfl, .tu [.ag [boolA ((!(true == t)) && decide ((((trimL (addL lq (wordsL 1))).length : Nat) : Int) > 0)), .d y10], .ag [boolA (false && decide ((((trimL (subL p lr)).length : Nat) : Int) > 0)), .d y11], J 0], by kernel_rfl, by kernel_rfl⟩
end Go.Proofs.Ytgkjdfojogemhaa.W
