/-
  The program: integers: signs, sums, products, comparison. Made by program. Conditions: none.
-/
import Derived.Test.YtgkjdfojogemhaaWsa
set_option maxRecDepth 100000
set_option maxHeartbeats 20000000
set_option linter.unusedSimpArgs false
set_option linter.unusedVariables false
namespace Go.Proofs.Ytgkjdfojogemhaa.W
open Go.Am
theorem p_neg {n : Int} {s : Bool} {x : D} {l : List Nat} (h : Iv n s x l) (hl : l.length < 40000000) : ∃ res : Bool × D, (fun (r : Bool × D) => ∃ l, Iv (-n) r.1 r.2 l) res ∧ Gets Try.cx 57 [.ag [boolA s, .d x]] ((fun (r : Bool × D) => .ag [boolA r.1, .d r.2]) res) := by
  obtain ⟨hx, ha, na, hn, hs⟩ := h
  refine gets_some (fn := Try.f57) (fun (r : Bool × D) => ∃ l, Iv (-n) r.1 r.2 l) (fun (r : Bool × D) => .ag [boolA r.1, .d r.2]) (by kernel_rfl) rfl ?_
  show EvK _ _ _ ⟨[.ag [boolA s, .d x]] ++ us 8, ⟨[], 0⟩⟩ _
  refine ev_seq ?_
  refine ev_reg (by kernel_rfl) ?_
  refine rs_all (s1 := ⟨[.ag [boolA s, .d x], .ptr 0 0 0, .ptr 1 1 0] ++ us 6, ⟨[.row [boolA s, .d x] 0 .ow none, .row [No, .d (.v (.slice none 0 0))] 1 .ow none], 2⟩⟩) (fun cf => by kernel_rfl) ?_
  refine ev_seq ?_
  refine ev_reg (by kernel_rfl) ?_
  refine rs_up 5 [(3, .ptr 0 0 1), (4, .d x), (5, .ptr 0 0 0), (6, boolA s), (7, boolA (!s))] (fun cf => by kernel_rfl) ?_
  obtain ⟨y1, hy1, gy1⟩ := g_signed (s := (!s)) hx (by omega)
  refine rs_cp 69 [.d x, boolA (!s)] false (some 8) (.ag [boolA ((!s) && decide ((((trimL l).length : Nat) : Int) > 0)), .d y1]) (by kernel_rfl) (gy1) (by kernel_rfl) ?_
  refine rs_cu (fun m9 => storeA Try.cx 34 m9 (.ptr 1 1 0) (.ag [boolA ((!s) && decide ((((trimL l).length : Nat) : Int) > 0)), .d y1])) none ⟨[.row [boolA s, .d x] 0 .ow none, .row [boolA ((!s) && decide ((((trimL l).length : Nat) : Int) > 0)), .d y1] 1 .ow none], 2⟩ (fun cf => by kernel_rfl) (store_int hy1 rfl) ?_
  refine rs_all (s1 := ⟨[.ag [boolA s, .d x], .ptr 0 0 0, .ptr 1 1 0, .ptr 0 0 1, .d x, .ptr 0 0 0, boolA s, boolA (!s), .ag [boolA ((!s) && decide ((((trimL l).length : Nat) : Int) > 0)), .d y1]], ⟨[.row [boolA s, .d x] 0 .ow none, .row [boolA ((!s) && decide ((((trimL l).length : Nat) : Int) > 0)), .d y1] 1 .ow none], 2⟩⟩) (fun cf => by kernel_rfl) ?_
  refine ev_ret ?_
  exact ⟨(((!s) && decide ((((trimL l).length : Nat) : Int) > 0)), y1), ⟨_, made_iv (s := (!s)) hy1 ha (by rw [hn]; cases s <;> simp)⟩, .inr rfl, .ag [boolA ((!s) && decide ((((trimL l).length : Nat) : Int) > 0)), .d y1], by kernel_rfl, by kernel_rfl⟩
theorem p_sign {n : Int} {s : Bool} {x : D} {l : List Nat} (h : Iv n s x l) (hl : l.length < 40000000) : Gets Try.cx 51 [.ag [boolA s, .d x]] (J (Int.sign n)) := by
  obtain ⟨hx, ha, na, hn, hs⟩ := h
  refine gets_of (fn := Try.f51) (by kernel_rfl) rfl ?_
  show EvK _ _ _ ⟨[.ag [boolA s, .d x]] ++ us 8, ⟨[], 0⟩⟩ _
  refine ev_seq ?_
  refine ev_reg (by kernel_rfl) ?_
  refine rs_all (s1 := ⟨[.ag [boolA s, .d x], .ptr 0 0 0, J 0] ++ us 6, ⟨[.row [boolA s, .d x] 0 .ow none], 1⟩⟩) (fun cf => by kernel_rfl) ?_
  refine ev_seq ?_
  refine ev_seq ?_
  refine ev_reg (by kernel_rfl) ?_
  refine rs_alu [(3, .ptr 0 0 0), (4, boolA s)] (fun cf => by kernel_rfl) ?_
  rcases hb1 : (s : Bool) with _ | _
  ·
    refine ev_false (by kernel_rfl) ?_
    refine ev_skip ?_
    refine ev_seq ?_
    refine ev_reg (by kernel_rfl) ?_
    refine rs_up 2 [(5, .ptr 0 0 1), (6, .d x)] (fun cf => by kernel_rfl) ?_
    refine rs_cl (fun m9 => lenA Try.cx 32 m9 (.d x)) (some 7) (l.length) (fun cf => by kernel_rfl) (len_ws hx) ?_
    refine rs_up 1 [(8, J (if 1 < (l.length : Int) then 1 else (l.length : Int)))] (fun cf => by kernel_rfl) ?_
    rw [(show (if 1 < (l.length : Int) then 1 else (l.length : Int)) = min (l.length : Int) 1 by split <;> omega)]
    refine rs_all (s1 := ⟨[.ag [No, .d x], .ptr 0 0 0, J (min (l.length : Int) 1), .ptr 0 0 0, No, .ptr 0 0 1, .d x, J (l.length : Int), J (min (l.length : Int) 1)], ⟨[.row [No, .d x] 0 .ow none], 1⟩⟩) (fun cf => by kernel_rfl) ?_
    refine ev_ret ?_
    refine leaf (r0 := J (min (l.length : Int) 1)) (r1 := J (min (l.length : Int) 1)) (.inr rfl) (by kernel_rfl) (by kernel_rfl) ?_
    have e : Int.sign n = min (l.length : Int) 1 := by
      have hz := len_pos_iff na
      rw [hn]
      simp only [*, cond_false]
      by_cases h0 : l.length = 0
      · rw [hz.mp h0, h0]; rfl
      · rw [Int.sign_eq_one_of_pos (by have := fun e => h0 (hz.mpr e); omega)]; omega
    rw [e]
  ·
    refine ev_true (by kernel_rfl) ?_
    refine ev_seq ?_
    refine ev_reg (by kernel_rfl) ?_
    refine rs_all (s1 := ⟨[.ag [Yes, .d x], .ptr 0 0 0, J (-1), .ptr 0 0 0, Yes] ++ us 4, ⟨[.row [Yes, .d x] 0 .ow none], 1⟩⟩) (fun cf => by kernel_rfl) ?_
    refine ev_ret ?_
    refine leaf (r0 := J (-1)) (r1 := J (-1)) (.inr rfl) (by kernel_rfl) (by kernel_rfl) ?_
    have e : Int.sign n = -1 := Int.sign_eq_neg_one_of_neg (by rw [hn]; have := hs (by assumption); simp only [*, cond_true]; omega)
    rw [e]
theorem p_imul {n m : Int} {s t : Bool} {x y : D} {l p : List Nat} (h : Iv n s x l) (hl : l.length < 40000000) (k : Iv m t y p) (hm : p.length < 40000000) : ∃ res : Bool × D, (fun (r : Bool × D) => ∃ l, Iv (n * m) r.1 r.2 l) res ∧ Gets Try.cx 46 [.ag [boolA s, .d x], .ag [boolA t, .d y]] ((fun (r : Bool × D) => .ag [boolA r.1, .d r.2]) res) := by
  obtain ⟨hx, ha, na, hn, hs⟩ := h
  obtain ⟨hy, hb, nb, hm2, ht⟩ := k
  refine gets_some (fn := Try.f46) (fun (r : Bool × D) => ∃ l, Iv (n * m) r.1 r.2 l) (fun (r : Bool × D) => .ag [boolA r.1, .d r.2]) (by kernel_rfl) rfl ?_
  show EvK _ _ _ ⟨[.ag [boolA s, .d x], .ag [boolA t, .d y]] ++ us 14, ⟨[], 0⟩⟩ _
  refine ev_seq ?_
  refine ev_reg (by kernel_rfl) ?_
  refine rs_alm [(2, .ptr 0 0 0), (3, .ptr 1 1 0), (4, .ptr 2 2 0)] ⟨[.row [boolA s, .d x] 0 .ow none, .row [boolA t, .d y] 1 .ow none, .row [No, .d (.v (.slice none 0 0))] 2 .ow none], 3⟩ (fun cf => by kernel_rfl) ?_
  refine ev_seq ?_
  refine ev_reg (by kernel_rfl) ?_
  refine rs_up 4 [(5, .ptr 0 0 1), (6, .d x), (7, .ptr 1 1 1), (8, .d y)] (fun cf => by kernel_rfl) ?_
  obtain ⟨y1, hy1, gy1⟩ := p_mul hx hy ha hb (by omega) (by omega)
  refine rs_cp 73 [.d x, .d y] false (some 9) (.d y1) (by kernel_rfl) (gy1) (by kernel_rfl) ?_
  refine rs_up 5 [(10, .ptr 0 0 0), (11, boolA s), (12, .ptr 1 1 0), (13, boolA t), (14, boolA (!(s == t)))] (fun cf => by kernel_rfl) ?_
  obtain ⟨y2, hy2, gy2⟩ := g_signed (s := (!(s == t))) hy1 (by have := timesL_len l p; omega)
  refine rs_cp 69 [.d y1, boolA (!(s == t))] false (some 15) (.ag [boolA ((!(s == t)) && decide ((((trimL (timesL l p)).length : Nat) : Int) > 0)), .d y2]) (by kernel_rfl) (gy2) (by kernel_rfl) ?_
  refine rs_cu (fun m9 => storeA Try.cx 34 m9 (.ptr 2 2 0) (.ag [boolA ((!(s == t)) && decide ((((trimL (timesL l p)).length : Nat) : Int) > 0)), .d y2])) none ⟨[.row [boolA s, .d x] 0 .ow none, .row [boolA t, .d y] 1 .ow none, .row [boolA ((!(s == t)) && decide ((((trimL (timesL l p)).length : Nat) : Int) > 0)), .d y2] 2 .ow none], 3⟩ (fun cf => by kernel_rfl) (store_int hy2 rfl) ?_
  refine rs_all (s1 := ⟨[.ag [boolA s, .d x], .ag [boolA t, .d y], .ptr 0 0 0, .ptr 1 1 0, .ptr 2 2 0, .ptr 0 0 1, .d x, .ptr 1 1 1, .d y, .d y1, .ptr 0 0 0, boolA s, .ptr 1 1 0, boolA t, boolA (!(s == t)), .ag [boolA ((!(s == t)) && decide ((((trimL (timesL l p)).length : Nat) : Int) > 0)), .d y2]], ⟨[.row [boolA s, .d x] 0 .ow none, .row [boolA t, .d y] 1 .ow none, .row [boolA ((!(s == t)) && decide ((((trimL (timesL l p)).length : Nat) : Int) > 0)), .d y2] 2 .ow none], 3⟩⟩) (fun cf => by kernel_rfl) ?_
  refine ev_ret ?_
  exact ⟨(((!(s == t)) && decide ((((trimL (timesL l p)).length : Nat) : Int) > 0)), y2), ⟨_, made_iv (s := (!(s == t))) hy2 (timesL_ok ha hb) (by rw [hn, hm2, timesL_val]; cases s <;> cases t <;> simp [Int.neg_mul, Int.mul_neg])⟩, .inr rfl, .ag [boolA ((!(s == t)) && decide ((((trimL (timesL l p)).length : Nat) : Int) > 0)), .d y2], by kernel_rfl, by kernel_rfl⟩
theorem p_iadd {n m : Int} {s t : Bool} {x y : D} {l p : List Nat} (h : Iv n s x l) (hl : l.length < 40000000) (k : Iv m t y p) (hm : p.length < 40000000) : ∃ res : Bool × D, (fun (r : Bool × D) => ∃ l, Iv (n + m) r.1 r.2 l) res ∧ Gets Try.cx 45 [.ag [boolA s, .d x], .ag [boolA t, .d y]] ((fun (r : Bool × D) => .ag [boolA r.1, .d r.2]) res) := by
  obtain ⟨hx, ha, na, hn, hs⟩ := h
  obtain ⟨hy, hb, nb, hm2, ht⟩ := k
  have hc := cmpL_val ha hb na nb
  refine gets_some (fn := Try.f45) (fun (r : Bool × D) => ∃ l, Iv (n + m) r.1 r.2 l) (fun (r : Bool × D) => .ag [boolA r.1, .d r.2]) (by kernel_rfl) rfl ?_
  show EvK _ _ _ ⟨[.ag [boolA s, .d x], .ag [boolA t, .d y]] ++ us 38, ⟨[], 0⟩⟩ _
  refine ev_seq ?_
  refine ev_reg (by kernel_rfl) ?_
  refine rs_alm [(2, .ptr 0 0 0), (3, .ptr 1 1 0), (4, .ptr 2 2 0)] ⟨[.row [boolA s, .d x] 0 .ow none, .row [boolA t, .d y] 1 .ow none, .row [No, .d (.v (.slice none 0 0))] 2 .ow none], 3⟩ (fun cf => by kernel_rfl) ?_
  refine ev_seq ?_
  refine ev_reg (by kernel_rfl) ?_
  refine rs_alu [(5, .d x), (6, .d y), (7, .ptr 0 0 1), (8, .d x), (9, .ptr 1 1 1), (10, .d y)] (fun cf => by kernel_rfl) ?_
  refine ev_seq ?_
  refine ev_block ?_
  refine ev_seq ?_
  refine ev_reg (by kernel_rfl) ?_
  refine rs_alu [(11, boolA (s == t)), (12, .ptr 0 0 0), (13, boolA s), (14, .ptr 1 1 0), (15, boolA t), (16, boolA (s == t))] (fun cf => by kernel_rfl) ?_
  rcases hb1 : ((s == t) : Bool) with _ | _
  ·
    have hb1' := bne_of hb1
    refine ev_false (by kernel_rfl) ?_
    refine ev_seq ?_
    refine ev_reg (by kernel_rfl) ?_
    refine rs_up 2 [(24, .d x), (25, .d y)] (fun cf => by kernel_rfl) ?_
    refine rs_cp 71 [.d x, .d y] false (some 26) (J (cmpL l p)) (by kernel_rfl) (p_cmp hx hy (by omega)) (by kernel_rfl) ?_
    refine rs_alu [(23, boolA (decide ((cmpL l p) < 0))), (27, boolA (decide ((cmpL l p) < 0)))] (fun cf => by kernel_rfl) ?_
    rcases hb2 : ((decide ((cmpL l p) < 0)) : Bool) with _ | _
    ·
      have hb2' := of_decide_eq_false hb2
      refine ev_false (by kernel_rfl) ?_
      refine ev_skip ?_
      refine ev_seq ?_
      refine ev_reg (by kernel_rfl) ?_
      refine rs_up 2 [(34, .d x), (35, .d y)] (fun cf => by kernel_rfl) ?_
      obtain ⟨y3, hy3, gy3⟩ := p_sub hx hy ha hb (by omega)
      refine rs_cp 72 [.d x, .d y] false (some 36) (.d y3) (by kernel_rfl) (gy3) (by kernel_rfl) ?_
      refine rs_up 2 [(37, .ptr 0 0 0), (38, boolA s)] (fun cf => by kernel_rfl) ?_
      obtain ⟨y4, hy4, gy4⟩ := g_signed (s := s) hy3 (by have := subL_len l p; omega)
      refine rs_cp 69 [.d y3, boolA s] false (some 39) (.ag [boolA (s && decide ((((trimL (subL l p)).length : Nat) : Int) > 0)), .d y4]) (by kernel_rfl) (gy4) (by kernel_rfl) ?_
      refine rs_cu (fun m9 => storeA Try.cx 34 m9 (.ptr 2 2 0) (.ag [boolA (s && decide ((((trimL (subL l p)).length : Nat) : Int) > 0)), .d y4])) none ⟨[.row [boolA s, .d x] 0 .ow none, .row [boolA t, .d y] 1 .ow none, .row [boolA (s && decide ((((trimL (subL l p)).length : Nat) : Int) > 0)), .d y4] 2 .ow none], 3⟩ (fun cf => by kernel_rfl) (store_int hy4 rfl) ?_
      refine rs_all (s1 := ⟨[.ag [boolA s, .d x], .ag [boolA t, .d y], .ptr 0 0 0, .ptr 1 1 0, .ptr 2 2 0, .d x, .d y, .ptr 0 0 1, .d x, .ptr 1 1 1, .d y, No, .ptr 0 0 0, boolA s, .ptr 1 1 0, boolA t, No] ++ us 6 ++ [No, .d x, .d y, J (cmpL l p), No] ++ us 6 ++ [.d x, .d y, .d y3, .ptr 0 0 0, boolA s, .ag [boolA (s && decide ((((trimL (subL l p)).length : Nat) : Int) > 0)), .d y4]], ⟨[.row [boolA s, .d x] 0 .ow none, .row [boolA t, .d y] 1 .ow none, .row [boolA (s && decide ((((trimL (subL l p)).length : Nat) : Int) > 0)), .d y4] 2 .ow none], 3⟩⟩) (fun cf => by kernel_rfl) ?_
      refine ev_ret ?_
      exact ⟨((s && decide ((((trimL (subL l p)).length : Nat) : Int) > 0)), y4), ⟨_, made_iv (s := s) hy4 (subL_ok l p) (add_more hn hm2 (by assumption) (subL_val' ha hb nb (by rcases hc with h | h | h <;> omega)) (by rcases hc with h | h | h <;> omega))⟩, .inr rfl, .ag [boolA (s && decide ((((trimL (subL l p)).length : Nat) : Int) > 0)), .d y4], by kernel_rfl, by kernel_rfl⟩
    ·
      have hb2' := of_decide_eq_true hb2
      refine ev_true (by kernel_rfl) ?_
      refine ev_seq ?_
      refine ev_reg (by kernel_rfl) ?_
      refine rs_up 2 [(28, .d y), (29, .d x)] (fun cf => by kernel_rfl) ?_
      obtain ⟨y5, hy5, gy5⟩ := p_sub hy hx hb ha (by omega)
      refine rs_cp 72 [.d y, .d x] false (some 30) (.d y5) (by kernel_rfl) (gy5) (by kernel_rfl) ?_
      refine rs_up 2 [(31, .ptr 1 1 0), (32, boolA t)] (fun cf => by kernel_rfl) ?_
      obtain ⟨y6, hy6, gy6⟩ := g_signed (s := t) hy5 (by have := subL_len p l; omega)
      refine rs_cp 69 [.d y5, boolA t] false (some 33) (.ag [boolA (t && decide ((((trimL (subL p l)).length : Nat) : Int) > 0)), .d y6]) (by kernel_rfl) (gy6) (by kernel_rfl) ?_
      refine rs_cu (fun m9 => storeA Try.cx 34 m9 (.ptr 2 2 0) (.ag [boolA (t && decide ((((trimL (subL p l)).length : Nat) : Int) > 0)), .d y6])) none ⟨[.row [boolA s, .d x] 0 .ow none, .row [boolA t, .d y] 1 .ow none, .row [boolA (t && decide ((((trimL (subL p l)).length : Nat) : Int) > 0)), .d y6] 2 .ow none], 3⟩ (fun cf => by kernel_rfl) (store_int hy6 rfl) ?_
      refine rs_all (s1 := ⟨[.ag [boolA s, .d x], .ag [boolA t, .d y], .ptr 0 0 0, .ptr 1 1 0, .ptr 2 2 0, .d x, .d y, .ptr 0 0 1, .d x, .ptr 1 1 1, .d y, No, .ptr 0 0 0, boolA s, .ptr 1 1 0, boolA t, No] ++ us 6 ++ [Yes, .d x, .d y, J (cmpL l p), Yes, .d y, .d x, .d y5, .ptr 1 1 0, boolA t, .ag [boolA (t && decide ((((trimL (subL p l)).length : Nat) : Int) > 0)), .d y6]] ++ us 6, ⟨[.row [boolA s, .d x] 0 .ow none, .row [boolA t, .d y] 1 .ow none, .row [boolA (t && decide ((((trimL (subL p l)).length : Nat) : Int) > 0)), .d y6] 2 .ow none], 3⟩⟩) (fun cf => by kernel_rfl) ?_
      refine ev_ret ?_
      exact ⟨((t && decide ((((trimL (subL p l)).length : Nat) : Int) > 0)), y6), ⟨_, made_iv (s := t) hy6 (subL_ok p l) (add_less hn hm2 (by assumption) (subL_val' hb ha na (by rcases hc with h | h | h <;> omega)) (by rcases hc with h | h | h <;> omega))⟩, .inr rfl, .ag [boolA (t && decide ((((trimL (subL p l)).length : Nat) : Int) > 0)), .d y6], by kernel_rfl, by kernel_rfl⟩
  ·
    have hb1' := eq_of_beq hb1
    refine ev_true (by kernel_rfl) ?_
    refine ev_seq ?_
    refine ev_reg (by kernel_rfl) ?_
    refine rs_up 2 [(17, .d x), (18, .d y)] (fun cf => by kernel_rfl) ?_
    obtain ⟨y7, hy7, gy7⟩ := p_add hx hy ha hb (by omega) (by omega)
    refine rs_cp 70 [.d x, .d y] false (some 19) (.d y7) (by kernel_rfl) (gy7) (by kernel_rfl) ?_
    refine rs_up 2 [(20, .ptr 0 0 0), (21, boolA s)] (fun cf => by kernel_rfl) ?_
    obtain ⟨y8, hy8, gy8⟩ := g_signed (s := s) hy7 (by have := addL_len l p; omega)
    refine rs_cp 69 [.d y7, boolA s] false (some 22) (.ag [boolA (s && decide ((((trimL (addL l p)).length : Nat) : Int) > 0)), .d y8]) (by kernel_rfl) (gy8) (by kernel_rfl) ?_
    refine rs_cu (fun m9 => storeA Try.cx 34 m9 (.ptr 2 2 0) (.ag [boolA (s && decide ((((trimL (addL l p)).length : Nat) : Int) > 0)), .d y8])) none ⟨[.row [boolA s, .d x] 0 .ow none, .row [boolA t, .d y] 1 .ow none, .row [boolA (s && decide ((((trimL (addL l p)).length : Nat) : Int) > 0)), .d y8] 2 .ow none], 3⟩ (fun cf => by kernel_rfl) (store_int hy8 rfl) ?_
    refine rs_all (s1 := ⟨[.ag [boolA s, .d x], .ag [boolA t, .d y], .ptr 0 0 0, .ptr 1 1 0, .ptr 2 2 0, .d x, .d y, .ptr 0 0 1, .d x, .ptr 1 1 1, .d y, Yes, .ptr 0 0 0, boolA s, .ptr 1 1 0, boolA t, Yes, .d x, .d y, .d y7, .ptr 0 0 0, boolA s, .ag [boolA (s && decide ((((trimL (addL l p)).length : Nat) : Int) > 0)), .d y8]] ++ us 17, ⟨[.row [boolA s, .d x] 0 .ow none, .row [boolA t, .d y] 1 .ow none, .row [boolA (s && decide ((((trimL (addL l p)).length : Nat) : Int) > 0)), .d y8] 2 .ow none], 3⟩⟩) (fun cf => by kernel_rfl) ?_
    refine ev_ret ?_
    exact ⟨((s && decide ((((trimL (addL l p)).length : Nat) : Int) > 0)), y8), ⟨_, made_iv (s := s) hy8 (addL_ok l p) (add_same hn hm2 (by assumption) (addL_val ha hb))⟩, .inr rfl, .ag [boolA (s && decide ((((trimL (addL l p)).length : Nat) : Int) > 0)), .d y8], by kernel_rfl, by kernel_rfl⟩
theorem p_cmp_sign {a b : Int} (n m : Int) (ha : a = Int.sign n) (hb : b = Int.sign m) : Gets Try.cx 78 [J a, J b] (J (cmpZ a b)) := by
  have key : ∀ a b : Int, (a = -1 ∨ a = 0 ∨ a = 1) → (b = -1 ∨ b = 0 ∨ b = 1) → Gets Try.cx 78 [J a, J b] (J (cmpZ a b)) := by
    intro a b h1 h2
    rcases h1 with rfl | rfl | rfl <;> rcases h2 with rfl | rfl | rfl <;> exact gets_run 30 (by kernel_rfl)
  have hs : ∀ n : Int, Int.sign n = -1 ∨ Int.sign n = 0 ∨ Int.sign n = 1 := fun n => by
    rcases Int.lt_trichotomy n 0 with h | h | h
    · exact .inl (Int.sign_eq_neg_one_of_neg h)
    · subst h; exact .inr (.inl rfl)
    · exact .inr (.inr (Int.sign_eq_one_of_pos h))
  subst ha hb
  exact key _ _ (hs n) (hs m)
theorem iv_neg_lt {n : Int} {s : Bool} {x : D} {l : List Nat} (h : Iv n s x l) : (s = true → n < 0) ∧ (s = false → 0 ≤ n) := by
  obtain ⟨_, _, _, hn, h0⟩ := h
  refine ⟨fun e => ?_, fun e => ?_⟩
  · have := h0 e
    rw [e] at hn
    simp only [cond_true] at hn
    omega
  · rw [e] at hn
    simp only [cond_false] at hn
    omega
theorem sgn_nonneg {n : Int} (h : 0 ≤ n) : 0 ≤ Int.sign n := by
  rcases Int.lt_trichotomy n 0 with h1 | h1 | h1
  · omega
  · subst h1; decide
  · rw [Int.sign_eq_one_of_pos h1]; decide
theorem cmpZ_sign {n m : Int} (h : (n < 0 ∧ 0 ≤ m) ∨ (0 ≤ n ∧ m < 0)) : cmpZ (Int.sign n) (Int.sign m) = cmpZ n m := by
  unfold cmpZ
  rcases h with ⟨h1, h2⟩ | ⟨h1, h2⟩
  · rw [Int.sign_eq_neg_one_of_neg h1, if_pos (by have := sgn_nonneg h2; omega), if_pos (by omega)]
  · rw [Int.sign_eq_neg_one_of_neg h2, if_neg (by have := sgn_nonneg h1; omega), if_pos (by have := sgn_nonneg h1; omega), if_neg (by omega), if_pos (by omega)]
theorem cmpZ_same {n m : Int} {s : Bool} {a b : Nat} {c : Int} (hn : n = (bif s then -(a : Int) else (a : Int))) (hm : m = (bif s then -(b : Int) else (b : Int))) (hc : c = cmpZ ((bif s then b else a : Nat) : Int) ((bif s then a else b : Nat) : Int)) : c = cmpZ n m := by
  subst hn hm
  rw [hc]
  cases s <;> simp only [cond_true, cond_false, cmpZ] <;> split <;> split <;> (try split) <;> omega
theorem cmpL_Z {a b : List Nat} (ha : Ok a) (hb : Ok b) (na : Nrm a) (nb : Nrm b) : cmpL a b = cmpZ (val a) (val b) := by
  unfold cmpZ
  rcases cmpL_val ha hb na nb with h | h | h <;> rw [h.1] <;> split <;> (try split) <;> omega
theorem p_icmp {n m : Int} {s t : Bool} {x y : D} {l p : List Nat} (h : Iv n s x l) (hl : l.length < 40000000) (k : Iv m t y p) (hm : p.length < 40000000) : Gets Try.cx 56 [.ag [boolA s, .d x], .ag [boolA t, .d y]] (J (cmpZ n m)) := by
  have h9 := h
  have k9 := k
  obtain ⟨hx, ha, na, hn, hs⟩ := h9
  obtain ⟨hy, hb, nb, hm2, ht⟩ := k9
  refine gets_of (fn := Try.f56) (by kernel_rfl) rfl ?_
  show EvK _ _ _ ⟨[.ag [boolA s, .d x], .ag [boolA t, .d y]] ++ us 22, ⟨[], 0⟩⟩ _
  refine ev_seq ?_
  refine ev_reg (by kernel_rfl) ?_
  refine rs_alm [(2, .ptr 0 0 0), (3, .ptr 1 1 0), (4, J 0)] ⟨[.row [boolA s, .d x] 0 .ow none, .row [boolA t, .d y] 1 .ow none], 2⟩ (fun cf => by kernel_rfl) ?_
  refine ev_seq ?_
  refine ev_seq ?_
  refine ev_reg (by kernel_rfl) ?_
  refine rs_alu [(5, .ptr 0 0 0), (6, boolA s), (7, .ptr 1 1 0), (8, boolA t), (9, boolA (!(s == t)))] (fun cf => by kernel_rfl) ?_
  rcases hb1 : ((!(s == t)) : Bool) with _ | _
  ·
    refine ev_false (by kernel_rfl) ?_
    refine ev_skip ?_
    refine ev_seq ?_
    refine ev_seq ?_
    refine ev_reg (by kernel_rfl) ?_
    refine rs_alu [(15, .ptr 0 0 0), (16, boolA s)] (fun cf => by kernel_rfl) ?_
    rcases hb2 : (s : Bool) with _ | _
    ·
      refine ev_false (by kernel_rfl) ?_
      refine ev_skip ?_
      refine ev_seq ?_
      refine ev_reg (by kernel_rfl) ?_
      refine rs_up 4 [(19, .ptr 0 0 1), (20, .d x), (21, .ptr 1 1 1), (22, .d y)] (fun cf => by kernel_rfl) ?_
      refine rs_cp 71 [.d x, .d y] false (some 23) (J (cmpL l p)) (by kernel_rfl) (p_cmp hx hy (by omega)) (by kernel_rfl) ?_
      refine rs_all (s1 := ⟨[.ag [No, .d x], .ag [boolA t, .d y], .ptr 0 0 0, .ptr 1 1 0, J (cmpL l p), .ptr 0 0 0, No, .ptr 1 1 0, boolA t, No] ++ us 5 ++ [.ptr 0 0 0, No, U, U, .ptr 0 0 1, .d x, .ptr 1 1 1, .d y, J (cmpL l p)], ⟨[.row [No, .d x] 0 .ow none, .row [boolA t, .d y] 1 .ow none], 2⟩⟩) (fun cf => by kernel_rfl) ?_
      refine ev_ret ?_
      refine leaf (r0 := J (cmpL l p)) (r1 := J (cmpL l p)) (.inr rfl) (by kernel_rfl) (by kernel_rfl) ?_
      have e : s = t := by cases s <;> cases t <;> simp_all
      subst e
      exact congrArg J (cmpZ_same hn hm2 (by rw [cmpL_Z ha hb na nb]; simp only [*, cond_true, cond_false]))
    ·
      refine ev_true (by kernel_rfl) ?_
      refine ev_reg (by kernel_rfl) ?_
      refine rs_up 2 [(17, .ag [boolA t, .d y]), (18, .ag [Yes, .d x])] (fun cf => by kernel_rfl) ?_
      refine rs_cu (fun m9 => storeA Try.cx 34 m9 (.ptr 0 0 0) (.ag [boolA t, .d y])) none ⟨[.row [boolA t, .d y] 0 .ow none, .row [boolA t, .d y] 1 .ow none], 2⟩ (fun cf => by kernel_rfl) (store_int hy rfl) ?_
      refine rs_cu (fun m9 => storeA Try.cx 34 m9 (.ptr 1 1 0) (.ag [Yes, .d x])) none ⟨[.row [boolA t, .d y] 0 .ow none, .row [Yes, .d x] 1 .ow none], 2⟩ (fun cf => by kernel_rfl) (store_int hx rfl) ?_
      refine rs_alu [] (fun cf => by kernel_rfl) ?_
      refine ev_seq ?_
      refine ev_reg (by kernel_rfl) ?_
      refine rs_up 4 [(19, .ptr 0 0 1), (20, .d y), (21, .ptr 1 1 1), (22, .d x)] (fun cf => by kernel_rfl) ?_
      refine rs_cp 71 [.d y, .d x] false (some 23) (J (cmpL p l)) (by kernel_rfl) (p_cmp hy hx (by omega)) (by kernel_rfl) ?_
      refine rs_all (s1 := ⟨[.ag [Yes, .d x], .ag [boolA t, .d y], .ptr 0 0 0, .ptr 1 1 0, J (cmpL p l), .ptr 0 0 0, Yes, .ptr 1 1 0, boolA t, No] ++ us 5 ++ [.ptr 0 0 0, Yes, .ag [boolA t, .d y], .ag [Yes, .d x], .ptr 0 0 1, .d y, .ptr 1 1 1, .d x, J (cmpL p l)], ⟨[.row [boolA t, .d y] 0 .ow none, .row [Yes, .d x] 1 .ow none], 2⟩⟩) (fun cf => by kernel_rfl) ?_
      refine ev_ret ?_
      refine leaf (r0 := J (cmpL p l)) (r1 := J (cmpL p l)) (.inr rfl) (by kernel_rfl) (by kernel_rfl) ?_
      have e : s = t := by cases s <;> cases t <;> simp_all
      subst e
      exact congrArg J (cmpZ_same hn hm2 (by rw [cmpL_Z hb ha nb na]; simp only [*, cond_true, cond_false]))
  ·
    refine ev_true (by kernel_rfl) ?_
    refine ev_seq ?_
    refine ev_reg (by kernel_rfl) ?_
    refine rs_up 1 [(10, .ag [boolA s, .d x])] (fun cf => by kernel_rfl) ?_
    refine rs_cp 51 [.ag [boolA s, .d x]] false (some 11) (J (Int.sign n)) (by kernel_rfl) (p_sign h (by omega)) (by kernel_rfl) ?_
    refine rs_up 1 [(12, .ag [boolA t, .d y])] (fun cf => by kernel_rfl) ?_
    refine rs_cp 51 [.ag [boolA t, .d y]] false (some 13) (J (Int.sign m)) (by kernel_rfl) (p_sign k (by omega)) (by kernel_rfl) ?_
    refine rs_cp 78 [J (Int.sign n), J (Int.sign m)] false (some 14) (J (cmpZ (Int.sign n) (Int.sign m))) (by kernel_rfl) (p_cmp_sign n m rfl rfl) (by kernel_rfl) ?_
    refine rs_all (s1 := ⟨[.ag [boolA s, .d x], .ag [boolA t, .d y], .ptr 0 0 0, .ptr 1 1 0, J (cmpZ (Int.sign n) (Int.sign m)), .ptr 0 0 0, boolA s, .ptr 1 1 0, boolA t, Yes, .ag [boolA s, .d x], J (Int.sign n), .ag [boolA t, .d y], J (Int.sign m), J (cmpZ (Int.sign n) (Int.sign m))] ++ us 9, ⟨[.row [boolA s, .d x] 0 .ow none, .row [boolA t, .d y] 1 .ow none], 2⟩⟩) (fun cf => by kernel_rfl) ?_
    refine ev_ret ?_
    refine leaf (r0 := J (cmpZ (Int.sign n) (Int.sign m))) (r1 := J (cmpZ (Int.sign n) (Int.sign m))) (.inr rfl) (by kernel_rfl) (by kernel_rfl) ?_
    exact congrArg J (cmpZ_sign (by have h1 := iv_neg_lt h; have h2 := iv_neg_lt k; revert h1 h2; cases s <;> cases t <;> simp_all))
end Go.Proofs.Ytgkjdfojogemhaa.W
