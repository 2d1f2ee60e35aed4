/-
  The reference: integers. Made by program. Conditions: none.
-/
import Derived.Test.YtgkjdfojogemhaaWdi
set_option maxRecDepth 100000
set_option maxHeartbeats 20000000
set_option linter.unusedSimpArgs false
set_option linter.unusedVariables false
namespace Go.Proofs.Ytgkjdfojogemhaa.W
open Go.Am


/-- The sign and the words of an integer. -/
def Iv (n : Int) (s : Bool) (x : D) (l : List Nat) : Prop := Ws l x ∧ Ok l ∧ Nrm l ∧ n = (bif s then -(val l : Int) else (val l : Int)) ∧ (s = true → val l ≠ 0)

theorem len_pos_iff {l : List Nat} (h : Nrm l) : l.length = 0 ↔ val l = 0 := by
  constructor
  · intro e; rw [List.eq_nil_of_length_eq_zero e]; rfl
  · intro e
    by_cases h0 : l = []
    · rw [h0]; rfl
    · have := val_pos h h0; omega
theorem made_iv {s : Bool} {l : List Nat} {y : D} {n : Int} (hW : Ws (trimL l) y) (ok : Ok l) (hn : n = (bif s then -(val l : Int) else (val l : Int))) : Iv n (s && decide ((((trimL l).length : Nat) : Int) > 0)) y (trimL l) := by
  have hv := val_trim l
  have hz := len_pos_iff (nrm_trim l)
  refine ⟨hW, ok_trim ok, nrm_trim l, ?_, ?_⟩
  · rw [hn, hv]
    cases s with
    | false => rfl
    | true =>
      by_cases h0 : (trimL l).length = 0
      · rw [show decide ((((trimL l).length : Nat) : Int) > 0) = false from decide_eq_false (by omega)]
        have := hz.mp h0
        rw [hv] at this
        simp [this]
      · rw [show decide ((((trimL l).length : Nat) : Int) > 0) = true from decide_eq_true (by omega)]
        rfl
  · intro h
    simp only [Bool.and_eq_true, decide_eq_true_eq] at h
    intro h0
    have := hz.mpr h0
    omega

theorem cellOk_ws {l : List Nat} {y : D} (h : Ws l y) : cellOk (.d y) = true := by
  rcases h with ⟨b, rfl⟩ | ⟨rfl, rfl⟩ <;> rfl
theorem build_int {m : Mem} {s : Bool} {l : List Nat} {y : D} (hy : Ws l y) : opA Try.cx (fun _ => false) [boolA s, .d y] m ⟨none, .build 34 #[(0, .tmp 0), (1, .tmp 1)], 0, "", #[], none⟩ = some (.ag [boolA s, .d y], m) := by
  rcases hy with ⟨b, rfl⟩ | ⟨rfl, rfl⟩ <;> kernel_rfl
theorem store_int {m : Mem} {h g : Nat} {s : Bool} {l : List Nat} {y : D} {c0 c1 : AV} (hy : Ws l y) (hr : m.b[h]? = some (.row [c0, c1] g .ow none)) : storeA Try.cx 34 m (.ptr h g 0) (.ag [boolA s, .d y]) = some ⟨m.b.set h (.row [boolA s, .d y] g .ow none), m.n⟩ := by
  have e : storeA Try.cx 34 m (.ptr h g 0) (.ag [boolA s, .d y]) = if [boolA s, .d y].length = 2 ∧ [boolA s, .d y].all cellOk = true then (match own? m h g with
    | some (cs, kid) => if 0 + 2 ≤ cs.length then some (m.write h g kid (over cs 0 [boolA s, .d y])) else none
    | none => none) else none := by kernel_rfl
  have ho : own? m h g = some ([c0, c1], none) := by simp [own?, hr]
  have hc : [boolA s, .d y].all cellOk = true := by
    simp only [List.all_cons, List.all_nil, cellOk_ws hy, Bool.and_true]
    rfl
  rw [e, if_pos ⟨rfl, hc⟩, ho]
  rfl

theorem g_made {s : Bool} {l : List Nat} {x : D} (hx : Ws l x) (hl : l.length < 100000000) : ∃ res : D, (fun y => Ws (trimL l) y) res ∧ Gets Try.cx 47 [boolA s, .d x] ((fun y => .ag [boolA (s && decide ((((trimL l).length : Nat) : Int) > 0)), .d y]) res) := by
  refine gets_some (fn := Try.f47) (fun y => Ws (trimL l) y) (fun y => .ag [boolA (s && decide ((((trimL l).length : Nat) : Int) > 0)), .d y]) (by kernel_rfl) rfl ?_
  show EvK _ _ _ ⟨[boolA s, .d x] ++ us 14, ⟨[], 0⟩⟩ _
  refine ev_seq ?_
  refine ev_reg (by kernel_rfl) ?_
  refine rs_all (s1 := ⟨[boolA s, .d x, U, U, .ptr 0 0 0] ++ us 11, ⟨[.row [No, .d (.v (.slice none 0 0))] 0 .ow none], 1⟩⟩) (fun cf => by kernel_rfl) ?_
  refine ev_seq ?_
  refine ev_reg (by kernel_rfl) ?_
  refine rs_up 1 [(6, .d x)] (fun cf => by kernel_rfl) ?_
  obtain ⟨y1, hy1, gy1⟩ := g_trim hx (by omega)
  refine rs_cp 74 [.d x] false (some 7) (.d y1) (by kernel_rfl) (gy1) (by kernel_rfl) ?_
  refine rs_alu [(5, .d y1)] (fun cf => by kernel_rfl) ?_
  refine ev_seq ?_
  refine ev_reg (by kernel_rfl) ?_
  refine rs_up 2 [(8, boolA s), (9, boolA s)] (fun cf => by kernel_rfl) ?_
  rcases hb2 : (s : Bool) with _ | _
  ·
    refine rs_up 5 [(13, No), (14, .d y1)] (fun cf => by kernel_rfl) ?_
    refine rs_co (fun m9 => opA Try.cx (fun _ => false) [boolA false, .d y1] m9 ⟨none, .build 34 #[(0, .tmp 0), (1, .tmp 1)], 0, "", #[], none⟩) (some 15) (.ag [No, .d y1]) ⟨[.row [No, .d (.v (.slice none 0 0))] 0 .ow none], 1⟩ (fun cf => by kernel_rfl) (build_int hy1) ?_
    refine rs_cu (fun m9 => storeA Try.cx 34 m9 (.ptr 0 0 0) (.ag [No, .d y1])) none ⟨[.row [No, .d y1] 0 .ow none], 1⟩ (fun cf => by kernel_rfl) (store_int hy1 rfl) ?_
    refine rs_all (s1 := ⟨[No, .d x, U, U, .ptr 0 0 0, .d y1, .d x, .d y1, No, No] ++ us 3 ++ [No, .d y1, .ag [No, .d y1]], ⟨[.row [No, .d y1] 0 .ow none], 1⟩⟩) (fun cf => by kernel_rfl) ?_
    refine ev_ret ?_
    exact ⟨y1, hy1, .inr rfl, .ag [No, .d y1], by kernel_rfl, by kernel_rfl⟩
  ·
    refine rs_up 1 [(10, .d y1)] (fun cf => by kernel_rfl) ?_
    refine rs_cl (fun m9 => lenA Try.cx 32 m9 (.d y1)) (some 11) ((trimL l).length) (fun cf => by kernel_rfl) (len_ws hy1) ?_
    refine rs_up 3 [(12, boolA (decide ((((trimL l).length : Nat) : Int) > 0))), (13, boolA (decide ((((trimL l).length : Nat) : Int) > 0))), (14, .d y1)] (fun cf => by kernel_rfl) ?_
    refine rs_co (fun m9 => opA Try.cx (fun _ => false) [boolA (decide ((((trimL l).length : Nat) : Int) > 0)), .d y1] m9 ⟨none, .build 34 #[(0, .tmp 0), (1, .tmp 1)], 0, "", #[], none⟩) (some 15) (.ag [boolA (decide ((((trimL l).length : Nat) : Int) > 0)), .d y1]) ⟨[.row [No, .d (.v (.slice none 0 0))] 0 .ow none], 1⟩ (fun cf => by kernel_rfl) (build_int hy1) ?_
    refine rs_cu (fun m9 => storeA Try.cx 34 m9 (.ptr 0 0 0) (.ag [boolA (decide ((((trimL l).length : Nat) : Int) > 0)), .d y1])) none ⟨[.row [boolA (decide ((((trimL l).length : Nat) : Int) > 0)), .d y1] 0 .ow none], 1⟩ (fun cf => by kernel_rfl) (store_int hy1 rfl) ?_
    refine rs_all (s1 := ⟨[Yes, .d x, U, U, .ptr 0 0 0, .d y1, .d x, .d y1, Yes, Yes, .d y1, J (((trimL l).length : Nat) : Int), boolA (decide ((((trimL l).length : Nat) : Int) > 0)), boolA (decide ((((trimL l).length : Nat) : Int) > 0)), .d y1, .ag [boolA (decide ((((trimL l).length : Nat) : Int) > 0)), .d y1]], ⟨[.row [boolA (decide ((((trimL l).length : Nat) : Int) > 0)), .d y1] 0 .ow none], 1⟩⟩) (fun cf => by kernel_rfl) ?_
    refine ev_ret ?_
    exact ⟨y1, hy1, .inr rfl, .ag [boolA (decide ((((trimL l).length : Nat) : Int) > 0)), .d y1], by kernel_rfl, by kernel_rfl⟩

theorem g_neg {n : Int} {s : Bool} {x : D} {l : List Nat} (h : Iv n s x l) (hl : l.length < 40000000) : ∃ res : Bool × D, (fun (r : Bool × D) => ∃ l, Iv (-n) r.1 r.2 l) res ∧ Gets Try.cx 35 [.ag [boolA s, .d x]] ((fun (r : Bool × D) => .ag [boolA r.1, .d r.2]) res) := by
  obtain ⟨hx, ha, na, hn, hs⟩ := h
  refine gets_some (fn := Try.f35) (fun (r : Bool × D) => ∃ l, Iv (-n) r.1 r.2 l) (fun (r : Bool × D) => .ag [boolA r.1, .d r.2]) (by kernel_rfl) rfl ?_
  show EvK _ _ _ ⟨[.ag [boolA s, .d x]] ++ us 8, ⟨[], 0⟩⟩ _
  refine ev_seq ?_
  refine ev_reg (by kernel_rfl) ?_
  refine rs_all (s1 := ⟨[.ag [boolA s, .d x], .ptr 0 0 0, .ptr 1 1 0] ++ us 6, ⟨[.row [boolA s, .d x] 0 .ow none, .row [No, .d (.v (.slice none 0 0))] 1 .ow none], 2⟩⟩) (fun cf => by kernel_rfl) ?_
  refine ev_seq ?_
  refine ev_reg (by kernel_rfl) ?_
  refine rs_up 5 [(3, .ptr 0 0 0), (4, boolA s), (5, boolA (!s)), (6, .ptr 0 0 1), (7, .d x)] (fun cf => by kernel_rfl) ?_
  obtain ⟨y1, hy1, gy1⟩ := g_made (s := (!s)) hx (by omega)
  refine rs_cp 47 [boolA (!s), .d x] false (some 8) (.ag [boolA ((!s) && decide ((((trimL l).length : Nat) : Int) > 0)), .d y1]) (by kernel_rfl) (gy1) (by kernel_rfl) ?_
  refine rs_cu (fun m9 => storeA Try.cx 34 m9 (.ptr 1 1 0) (.ag [boolA ((!s) && decide ((((trimL l).length : Nat) : Int) > 0)), .d y1])) none ⟨[.row [boolA s, .d x] 0 .ow none, .row [boolA ((!s) && decide ((((trimL l).length : Nat) : Int) > 0)), .d y1] 1 .ow none], 2⟩ (fun cf => by kernel_rfl) (store_int hy1 rfl) ?_
  refine rs_all (s1 := ⟨[.ag [boolA s, .d x], .ptr 0 0 0, .ptr 1 1 0, .ptr 0 0 0, boolA s, boolA (!s), .ptr 0 0 1, .d x, .ag [boolA ((!s) && decide ((((trimL l).length : Nat) : Int) > 0)), .d y1]], ⟨[.row [boolA s, .d x] 0 .ow none, .row [boolA ((!s) && decide ((((trimL l).length : Nat) : Int) > 0)), .d y1] 1 .ow none], 2⟩⟩) (fun cf => by kernel_rfl) ?_
  refine ev_ret ?_
  exact ⟨(((!s) && decide ((((trimL l).length : Nat) : Int) > 0)), y1), ⟨_, made_iv (s := (!s)) hy1 ha (by rw [hn]; cases s <;> simp)⟩, .inr rfl, .ag [boolA ((!s) && decide ((((trimL l).length : Nat) : Int) > 0)), .d y1], by kernel_rfl, by kernel_rfl⟩

theorem g_sign {n : Int} {s : Bool} {x : D} {l : List Nat} (h : Iv n s x l) (hl : l.length < 40000000) : Gets Try.cx 31 [.ag [boolA s, .d x]] (J (Int.sign n)) := by
  obtain ⟨hx, ha, na, hn, hs⟩ := h
  refine gets_of (fn := Try.f31) (by kernel_rfl) rfl ?_
  show EvK _ _ _ ⟨[.ag [boolA s, .d x]] ++ us 8, ⟨[], 0⟩⟩ _
  refine ev_seq ?_
  refine ev_reg (by kernel_rfl) ?_
  refine rs_all (s1 := ⟨[.ag [boolA s, .d x], .ptr 0 0 0, J 0] ++ us 6, ⟨[.row [boolA s, .d x] 0 .ow none], 1⟩⟩) (fun cf => by kernel_rfl) ?_
  refine ev_seq ?_
  refine ev_seq ?_
  refine ev_reg (by kernel_rfl) ?_
  refine rs_alu [(3, .ptr 0 0 0), (4, boolA s)] (fun cf => by kernel_rfl) ?_
  rcases hb1 : (s : Bool) with _ | _
  ·
    refine ev_false (by kernel_rfl) ?_
    refine ev_skip ?_
    refine ev_seq ?_
    refine ev_reg (by kernel_rfl) ?_
    refine rs_up 2 [(5, .ptr 0 0 1), (6, .d x)] (fun cf => by kernel_rfl) ?_
    refine rs_cl (fun m9 => lenA Try.cx 32 m9 (.d x)) (some 7) (l.length) (fun cf => by kernel_rfl) (len_ws hx) ?_
    refine rs_up 1 [(8, J (if 1 < (l.length : Int) then 1 else (l.length : Int)))] (fun cf => by kernel_rfl) ?_
    rw [(show (if 1 < (l.length : Int) then 1 else (l.length : Int)) = min (l.length : Int) 1 by split <;> omega)]
    refine rs_all (s1 := ⟨[.ag [No, .d x], .ptr 0 0 0, J (min (l.length : Int) 1), .ptr 0 0 0, No, .ptr 0 0 1, .d x, J (l.length : Int), J (min (l.length : Int) 1)], ⟨[.row [No, .d x] 0 .ow none], 1⟩⟩) (fun cf => by kernel_rfl) ?_
    refine ev_ret ?_
    refine leaf (r0 := J (min (l.length : Int) 1)) (r1 := J (min (l.length : Int) 1)) (.inr rfl) (by kernel_rfl) (by kernel_rfl) ?_
    have e : Int.sign n = min (l.length : Int) 1 := by
      have hz := len_pos_iff na
      rw [hn]
      simp only [*, cond_false]
      by_cases h0 : l.length = 0
      · rw [hz.mp h0, h0]; rfl
      · rw [Int.sign_eq_one_of_pos (by have := fun e => h0 (hz.mpr e); omega)]; omega
    rw [e]
  ·
    refine ev_true (by kernel_rfl) ?_
    refine ev_seq ?_
    refine ev_reg (by kernel_rfl) ?_
    refine rs_all (s1 := ⟨[.ag [Yes, .d x], .ptr 0 0 0, J (-1), .ptr 0 0 0, Yes] ++ us 4, ⟨[.row [Yes, .d x] 0 .ow none], 1⟩⟩) (fun cf => by kernel_rfl) ?_
    refine ev_ret ?_
    refine leaf (r0 := J (-1)) (r1 := J (-1)) (.inr rfl) (by kernel_rfl) (by kernel_rfl) ?_
    have e : Int.sign n = -1 := Int.sign_eq_neg_one_of_neg (by rw [hn]; have := hs (by assumption); simp only [*, cond_true]; omega)
    rw [e]

theorem g_mul {n m : Int} {s t : Bool} {x y : D} {l p : List Nat} (h : Iv n s x l) (hl : l.length < 40000000) (k : Iv m t y p) (hm : p.length < 40000000) : ∃ res : Bool × D, (fun (r : Bool × D) => ∃ l, Iv (n * m) r.1 r.2 l) res ∧ Gets Try.cx 28 [.ag [boolA s, .d x], .ag [boolA t, .d y]] ((fun (r : Bool × D) => .ag [boolA r.1, .d r.2]) res) := by
  obtain ⟨hx, ha, na, hn, hs⟩ := h
  obtain ⟨hy, hb, nb, hm2, ht⟩ := k
  refine gets_some (fn := Try.f28) (fun (r : Bool × D) => ∃ l, Iv (n * m) r.1 r.2 l) (fun (r : Bool × D) => .ag [boolA r.1, .d r.2]) (by kernel_rfl) rfl ?_
  show EvK _ _ _ ⟨[.ag [boolA s, .d x], .ag [boolA t, .d y]] ++ us 14, ⟨[], 0⟩⟩ _
  refine ev_seq ?_
  refine ev_reg (by kernel_rfl) ?_
  refine rs_alm [(2, .ptr 0 0 0), (3, .ptr 1 1 0), (4, .ptr 2 2 0)] ⟨[.row [boolA s, .d x] 0 .ow none, .row [boolA t, .d y] 1 .ow none, .row [No, .d (.v (.slice none 0 0))] 2 .ow none], 3⟩ (fun cf => by kernel_rfl) ?_
  refine ev_seq ?_
  refine ev_reg (by kernel_rfl) ?_
  refine rs_up 9 [(5, .ptr 0 0 0), (6, boolA s), (7, .ptr 1 1 0), (8, boolA t), (9, boolA (!(s == t))), (10, .ptr 0 0 1), (11, .d x), (12, .ptr 1 1 1), (13, .d y)] (fun cf => by kernel_rfl) ?_
  obtain ⟨y1, hy1, gy1⟩ := g_times hx hy ha hb (by omega) (by omega)
  refine rs_cp 49 [.d x, .d y] false (some 14) (.d y1) (by kernel_rfl) (gy1) (by kernel_rfl) ?_
  obtain ⟨y2, hy2, gy2⟩ := g_made (s := (!(s == t))) hy1 (by have := timesL_len l p; omega)
  refine rs_cp 47 [boolA (!(s == t)), .d y1] false (some 15) (.ag [boolA ((!(s == t)) && decide ((((trimL (timesL l p)).length : Nat) : Int) > 0)), .d y2]) (by kernel_rfl) (gy2) (by kernel_rfl) ?_
  refine rs_cu (fun m9 => storeA Try.cx 34 m9 (.ptr 2 2 0) (.ag [boolA ((!(s == t)) && decide ((((trimL (timesL l p)).length : Nat) : Int) > 0)), .d y2])) none ⟨[.row [boolA s, .d x] 0 .ow none, .row [boolA t, .d y] 1 .ow none, .row [boolA ((!(s == t)) && decide ((((trimL (timesL l p)).length : Nat) : Int) > 0)), .d y2] 2 .ow none], 3⟩ (fun cf => by kernel_rfl) (store_int hy2 rfl) ?_
  refine rs_all (s1 := ⟨[.ag [boolA s, .d x], .ag [boolA t, .d y], .ptr 0 0 0, .ptr 1 1 0, .ptr 2 2 0, .ptr 0 0 0, boolA s, .ptr 1 1 0, boolA t, boolA (!(s == t)), .ptr 0 0 1, .d x, .ptr 1 1 1, .d y, .d y1, .ag [boolA ((!(s == t)) && decide ((((trimL (timesL l p)).length : Nat) : Int) > 0)), .d y2]], ⟨[.row [boolA s, .d x] 0 .ow none, .row [boolA t, .d y] 1 .ow none, .row [boolA ((!(s == t)) && decide ((((trimL (timesL l p)).length : Nat) : Int) > 0)), .d y2] 2 .ow none], 3⟩⟩) (fun cf => by kernel_rfl) ?_
  refine ev_ret ?_
  exact ⟨(((!(s == t)) && decide ((((trimL (timesL l p)).length : Nat) : Int) > 0)), y2), ⟨_, made_iv (s := (!(s == t))) hy2 (timesL_ok ha hb) (by rw [hn, hm2, timesL_val]; cases s <;> cases t <;> simp [Int.neg_mul, Int.mul_neg])⟩, .inr rfl, .ag [boolA ((!(s == t)) && decide ((((trimL (timesL l p)).length : Nat) : Int) > 0)), .d y2], by kernel_rfl, by kernel_rfl⟩

theorem subL_val' {a b : List Nat} (ha : Ok a) (hb : Ok b) (nb : Nrm b) (h : val b ≤ val a) : val (subL a b) = val a - val b := subL_val ha hb (nrm_len nb (Nat.lt_of_le_of_lt h (val_lt ha))) h

theorem add_same {n m : Int} {s t : Bool} {a b c : Nat} (hn : n = (bif s then -(a : Int) else (a : Int))) (hm : m = (bif t then -(b : Int) else (b : Int))) (h : s = t) (hc : c = a + b) : n + m = (bif s then -(c : Int) else (c : Int)) := by
  subst h hc
  rw [hn, hm]
  cases s <;> simp only [cond_true, cond_false] <;> omega
theorem add_less {n m : Int} {s t : Bool} {a b c : Nat} (hn : n = (bif s then -(a : Int) else (a : Int))) (hm : m = (bif t then -(b : Int) else (b : Int))) (h : s ≠ t) (hc : c = b - a) (hl : a ≤ b) : n + m = (bif t then -(c : Int) else (c : Int)) := by
  subst hc
  rw [hn, hm]
  cases s <;> cases t <;> first | exact absurd rfl h | (simp only [cond_true, cond_false]; omega)
theorem add_more {n m : Int} {s t : Bool} {a b c : Nat} (hn : n = (bif s then -(a : Int) else (a : Int))) (hm : m = (bif t then -(b : Int) else (b : Int))) (h : s ≠ t) (hc : c = a - b) (hl : b ≤ a) : n + m = (bif s then -(c : Int) else (c : Int)) := by
  subst hc
  rw [hn, hm]
  cases s <;> cases t <;> first | exact absurd rfl h | (simp only [cond_true, cond_false]; omega)

theorem g_add {n m : Int} {s t : Bool} {x y : D} {l p : List Nat} (h : Iv n s x l) (hl : l.length < 40000000) (k : Iv m t y p) (hm : p.length < 40000000) : ∃ res : Bool × D, (fun (r : Bool × D) => ∃ l, Iv (n + m) r.1 r.2 l) res ∧ Gets Try.cx 39 [.ag [boolA s, .d x], .ag [boolA t, .d y]] ((fun (r : Bool × D) => .ag [boolA r.1, .d r.2]) res) := by
  obtain ⟨hx, ha, na, hn, hs⟩ := h
  obtain ⟨hy, hb, nb, hm2, ht⟩ := k
  have hc := cmpL_val ha hb na nb
  refine gets_some (fn := Try.f39) (fun (r : Bool × D) => ∃ l, Iv (n + m) r.1 r.2 l) (fun (r : Bool × D) => .ag [boolA r.1, .d r.2]) (by kernel_rfl) rfl ?_
  show EvK _ _ _ ⟨[.ag [boolA s, .d x], .ag [boolA t, .d y]] ++ us 38, ⟨[], 0⟩⟩ _
  refine ev_seq ?_
  refine ev_reg (by kernel_rfl) ?_
  refine rs_alm [(2, .ptr 0 0 0), (3, .ptr 1 1 0), (4, .ptr 2 2 0)] ⟨[.row [boolA s, .d x] 0 .ow none, .row [boolA t, .d y] 1 .ow none, .row [No, .d (.v (.slice none 0 0))] 2 .ow none], 3⟩ (fun cf => by kernel_rfl) ?_
  refine ev_seq ?_
  refine ev_seq ?_
  refine ev_reg (by kernel_rfl) ?_
  refine rs_alu [(5, .ptr 0 0 0), (6, boolA s), (7, .ptr 1 1 0), (8, boolA t), (9, boolA (s == t))] (fun cf => by kernel_rfl) ?_
  rcases hb1 : ((s == t) : Bool) with _ | _
  ·
    have hb1' := bne_of hb1
    refine ev_false (by kernel_rfl) ?_
    refine ev_skip ?_
    refine ev_seq ?_
    refine ev_seq ?_
    refine ev_reg (by kernel_rfl) ?_
    refine rs_up 4 [(18, .ptr 0 0 1), (19, .d x), (20, .ptr 1 1 1), (21, .d y)] (fun cf => by kernel_rfl) ?_
    refine rs_cp 50 [.d x, .d y] false (some 22) (J (cmpL l p)) (by kernel_rfl) (g_compared hx hy (by omega)) (by kernel_rfl) ?_
    refine rs_alu [(23, boolA (decide ((cmpL l p) < 0)))] (fun cf => by kernel_rfl) ?_
    rcases hb2 : ((decide ((cmpL l p) < 0)) : Bool) with _ | _
    ·
      have hb2' := of_decide_eq_false hb2
      refine ev_false (by kernel_rfl) ?_
      refine ev_skip ?_
      refine ev_seq ?_
      refine ev_reg (by kernel_rfl) ?_
      refine rs_up 6 [(32, .ptr 0 0 0), (33, boolA s), (34, .ptr 0 0 1), (35, .d x), (36, .ptr 1 1 1), (37, .d y)] (fun cf => by kernel_rfl) ?_
      obtain ⟨y3, hy3, gy3⟩ := g_taken hx hy ha hb (by omega)
      refine rs_cp 63 [.d x, .d y] false (some 38) (.d y3) (by kernel_rfl) (gy3) (by kernel_rfl) ?_
      obtain ⟨y4, hy4, gy4⟩ := g_made (s := s) hy3 (by have := subL_len l p; omega)
      refine rs_cp 47 [boolA s, .d y3] false (some 39) (.ag [boolA (s && decide ((((trimL (subL l p)).length : Nat) : Int) > 0)), .d y4]) (by kernel_rfl) (gy4) (by kernel_rfl) ?_
      refine rs_cu (fun m9 => storeA Try.cx 34 m9 (.ptr 2 2 0) (.ag [boolA (s && decide ((((trimL (subL l p)).length : Nat) : Int) > 0)), .d y4])) none ⟨[.row [boolA s, .d x] 0 .ow none, .row [boolA t, .d y] 1 .ow none, .row [boolA (s && decide ((((trimL (subL l p)).length : Nat) : Int) > 0)), .d y4] 2 .ow none], 3⟩ (fun cf => by kernel_rfl) (store_int hy4 rfl) ?_
      refine rs_all (s1 := ⟨[.ag [boolA s, .d x], .ag [boolA t, .d y], .ptr 0 0 0, .ptr 1 1 0, .ptr 2 2 0, .ptr 0 0 0, boolA s, .ptr 1 1 0, boolA t, No] ++ us 8 ++ [.ptr 0 0 1, .d x, .ptr 1 1 1, .d y, J (cmpL l p), No] ++ us 8 ++ [.ptr 0 0 0, boolA s, .ptr 0 0 1, .d x, .ptr 1 1 1, .d y, .d y3, .ag [boolA (s && decide ((((trimL (subL l p)).length : Nat) : Int) > 0)), .d y4]], ⟨[.row [boolA s, .d x] 0 .ow none, .row [boolA t, .d y] 1 .ow none, .row [boolA (s && decide ((((trimL (subL l p)).length : Nat) : Int) > 0)), .d y4] 2 .ow none], 3⟩⟩) (fun cf => by kernel_rfl) ?_
      refine ev_ret ?_
      exact ⟨((s && decide ((((trimL (subL l p)).length : Nat) : Int) > 0)), y4), ⟨_, made_iv (s := s) hy4 (subL_ok l p) (add_more hn hm2 (by assumption) (subL_val' ha hb nb (by rcases hc with h | h | h <;> omega)) (by rcases hc with h | h | h <;> omega))⟩, .inr rfl, .ag [boolA (s && decide ((((trimL (subL l p)).length : Nat) : Int) > 0)), .d y4], by kernel_rfl, by kernel_rfl⟩
    ·
      have hb2' := of_decide_eq_true hb2
      refine ev_true (by kernel_rfl) ?_
      refine ev_seq ?_
      refine ev_reg (by kernel_rfl) ?_
      refine rs_up 6 [(24, .ptr 1 1 0), (25, boolA t), (26, .ptr 1 1 1), (27, .d y), (28, .ptr 0 0 1), (29, .d x)] (fun cf => by kernel_rfl) ?_
      obtain ⟨y5, hy5, gy5⟩ := g_taken hy hx hb ha (by omega)
      refine rs_cp 63 [.d y, .d x] false (some 30) (.d y5) (by kernel_rfl) (gy5) (by kernel_rfl) ?_
      obtain ⟨y6, hy6, gy6⟩ := g_made (s := t) hy5 (by have := subL_len p l; omega)
      refine rs_cp 47 [boolA t, .d y5] false (some 31) (.ag [boolA (t && decide ((((trimL (subL p l)).length : Nat) : Int) > 0)), .d y6]) (by kernel_rfl) (gy6) (by kernel_rfl) ?_
      refine rs_cu (fun m9 => storeA Try.cx 34 m9 (.ptr 2 2 0) (.ag [boolA (t && decide ((((trimL (subL p l)).length : Nat) : Int) > 0)), .d y6])) none ⟨[.row [boolA s, .d x] 0 .ow none, .row [boolA t, .d y] 1 .ow none, .row [boolA (t && decide ((((trimL (subL p l)).length : Nat) : Int) > 0)), .d y6] 2 .ow none], 3⟩ (fun cf => by kernel_rfl) (store_int hy6 rfl) ?_
      refine rs_all (s1 := ⟨[.ag [boolA s, .d x], .ag [boolA t, .d y], .ptr 0 0 0, .ptr 1 1 0, .ptr 2 2 0, .ptr 0 0 0, boolA s, .ptr 1 1 0, boolA t, No] ++ us 8 ++ [.ptr 0 0 1, .d x, .ptr 1 1 1, .d y, J (cmpL l p), Yes, .ptr 1 1 0, boolA t, .ptr 1 1 1, .d y, .ptr 0 0 1, .d x, .d y5, .ag [boolA (t && decide ((((trimL (subL p l)).length : Nat) : Int) > 0)), .d y6]] ++ us 8, ⟨[.row [boolA s, .d x] 0 .ow none, .row [boolA t, .d y] 1 .ow none, .row [boolA (t && decide ((((trimL (subL p l)).length : Nat) : Int) > 0)), .d y6] 2 .ow none], 3⟩⟩) (fun cf => by kernel_rfl) ?_
      refine ev_ret ?_
      exact ⟨((t && decide ((((trimL (subL p l)).length : Nat) : Int) > 0)), y6), ⟨_, made_iv (s := t) hy6 (subL_ok p l) (add_less hn hm2 (by assumption) (subL_val' hb ha na (by rcases hc with h | h | h <;> omega)) (by rcases hc with h | h | h <;> omega))⟩, .inr rfl, .ag [boolA (t && decide ((((trimL (subL p l)).length : Nat) : Int) > 0)), .d y6], by kernel_rfl, by kernel_rfl⟩
  ·
    have hb1' := eq_of_beq hb1
    refine ev_true (by kernel_rfl) ?_
    refine ev_seq ?_
    refine ev_reg (by kernel_rfl) ?_
    refine rs_up 6 [(10, .ptr 0 0 0), (11, boolA s), (12, .ptr 0 0 1), (13, .d x), (14, .ptr 1 1 1), (15, .d y)] (fun cf => by kernel_rfl) ?_
    obtain ⟨y7, hy7, gy7⟩ := g_added hx hy ha hb (by omega) (by omega)
    refine rs_cp 62 [.d x, .d y] false (some 16) (.d y7) (by kernel_rfl) (gy7) (by kernel_rfl) ?_
    obtain ⟨y8, hy8, gy8⟩ := g_made (s := s) hy7 (by have := addL_len l p; omega)
    refine rs_cp 47 [boolA s, .d y7] false (some 17) (.ag [boolA (s && decide ((((trimL (addL l p)).length : Nat) : Int) > 0)), .d y8]) (by kernel_rfl) (gy8) (by kernel_rfl) ?_
    refine rs_cu (fun m9 => storeA Try.cx 34 m9 (.ptr 2 2 0) (.ag [boolA (s && decide ((((trimL (addL l p)).length : Nat) : Int) > 0)), .d y8])) none ⟨[.row [boolA s, .d x] 0 .ow none, .row [boolA t, .d y] 1 .ow none, .row [boolA (s && decide ((((trimL (addL l p)).length : Nat) : Int) > 0)), .d y8] 2 .ow none], 3⟩ (fun cf => by kernel_rfl) (store_int hy8 rfl) ?_
    refine rs_all (s1 := ⟨[.ag [boolA s, .d x], .ag [boolA t, .d y], .ptr 0 0 0, .ptr 1 1 0, .ptr 2 2 0, .ptr 0 0 0, boolA s, .ptr 1 1 0, boolA t, Yes, .ptr 0 0 0, boolA s, .ptr 0 0 1, .d x, .ptr 1 1 1, .d y, .d y7, .ag [boolA (s && decide ((((trimL (addL l p)).length : Nat) : Int) > 0)), .d y8]] ++ us 22, ⟨[.row [boolA s, .d x] 0 .ow none, .row [boolA t, .d y] 1 .ow none, .row [boolA (s && decide ((((trimL (addL l p)).length : Nat) : Int) > 0)), .d y8] 2 .ow none], 3⟩⟩) (fun cf => by kernel_rfl) ?_
    refine ev_ret ?_
    exact ⟨((s && decide ((((trimL (addL l p)).length : Nat) : Int) > 0)), y8), ⟨_, made_iv (s := s) hy8 (addL_ok l p) (add_same hn hm2 (by assumption) (addL_val ha hb))⟩, .inr rfl, .ag [boolA (s && decide ((((trimL (addL l p)).length : Nat) : Int) > 0)), .d y8], by kernel_rfl, by kernel_rfl⟩

theorem gcd_lt {a b i j : Nat} (ha : a < 4294967296 ^ i) (hb : b < 4294967296 ^ j) : Nat.gcd a b < 4294967296 ^ (i + j) := by
  have h1 : 4294967296 ^ i ≤ 4294967296 ^ (i + j) := Nat.pow_le_pow_right (by decide) (by omega)
  have h2 : 4294967296 ^ j ≤ 4294967296 ^ (i + j) := Nat.pow_le_pow_right (by decide) (by omega)
  by_cases h0 : a = 0
  · rw [h0, Nat.gcd_zero_left]; omega
  · have := Nat.gcd_le_left b (Nat.pos_of_ne_zero h0)
    omega
theorem natAbs_iv {n : Int} {s : Bool} {a : Nat} (hn : n = (bif s then -(a : Int) else (a : Int))) : n.natAbs = a := by
  rw [hn]; cases s <;> simp

theorem g_gcd {n m : Int} {s t : Bool} {x y : D} {l p : List Nat} (h : Iv n s x l) (hl : l.length < 40000000) (k : Iv m t y p) (hm : p.length < 40000000) : ∃ res : Bool × D, (fun (r : Bool × D) => ∃ l, Iv ((Nat.gcd n.natAbs m.natAbs : Nat)) r.1 r.2 l) res ∧ Gets Try.cx 61 [.ag [boolA s, .d x], .ag [boolA t, .d y]] ((fun (r : Bool × D) => .ag [boolA r.1, .d r.2]) res) := by
  obtain ⟨hx, ha, na, hn, hs⟩ := h
  obtain ⟨hy, hb, nb, hm2, ht⟩ := k
  refine gets_some (fn := Try.f61) (fun (r : Bool × D) => ∃ l, Iv ((Nat.gcd n.natAbs m.natAbs : Nat)) r.1 r.2 l) (fun (r : Bool × D) => .ag [boolA r.1, .d r.2]) (by kernel_rfl) rfl ?_
  show EvK _ _ _ ⟨[.ag [boolA s, .d x], .ag [boolA t, .d y]] ++ us 9, ⟨[], 0⟩⟩ _
  refine ev_seq ?_
  refine ev_reg (by kernel_rfl) ?_
  refine rs_alm [(2, .ptr 0 0 0), (3, .ptr 1 1 0), (4, .ptr 2 2 0)] ⟨[.row [boolA s, .d x] 0 .ow none, .row [boolA t, .d y] 1 .ow none, .row [No, .d (.v (.slice none 0 0))] 2 .ow none], 3⟩ (fun cf => by kernel_rfl) ?_
  refine ev_seq ?_
  refine ev_reg (by kernel_rfl) ?_
  refine rs_up 4 [(5, .ptr 0 0 1), (6, .d x), (7, .ptr 1 1 1), (8, .d y)] (fun cf => by kernel_rfl) ?_
  obtain ⟨yg, ⟨lg, hyg, og, ng, vg⟩, gyg⟩ := g_common hx hy ha hb na nb (by omega) (by omega)
  have hlg : lg.length ≤ l.length + p.length := nrm_len ng (by rw [vg]; exact gcd_lt (val_lt ha) (val_lt hb))
  refine rs_cp 81 [.d x, .d y] false (some 9) (.d yg) (by kernel_rfl) (gyg) (by kernel_rfl) ?_
  obtain ⟨y1, hy1, gy1⟩ := g_made (s := false) hyg (by omega)
  refine rs_cp 47 [No, .d yg] false (some 10) (.ag [boolA (false && decide ((((trimL lg).length : Nat) : Int) > 0)), .d y1]) (by kernel_rfl) (gy1) (by kernel_rfl) ?_
  refine rs_cu (fun m9 => storeA Try.cx 34 m9 (.ptr 2 2 0) (.ag [boolA (false && decide ((((trimL lg).length : Nat) : Int) > 0)), .d y1])) none ⟨[.row [boolA s, .d x] 0 .ow none, .row [boolA t, .d y] 1 .ow none, .row [boolA (false && decide ((((trimL lg).length : Nat) : Int) > 0)), .d y1] 2 .ow none], 3⟩ (fun cf => by kernel_rfl) (store_int hy1 rfl) ?_
  refine rs_all (s1 := ⟨[.ag [boolA s, .d x], .ag [boolA t, .d y], .ptr 0 0 0, .ptr 1 1 0, .ptr 2 2 0, .ptr 0 0 1, .d x, .ptr 1 1 1, .d y, .d yg, .ag [boolA (false && decide ((((trimL lg).length : Nat) : Int) > 0)), .d y1]], ⟨[.row [boolA s, .d x] 0 .ow none, .row [boolA t, .d y] 1 .ow none, .row [boolA (false && decide ((((trimL lg).length : Nat) : Int) > 0)), .d y1] 2 .ow none], 3⟩⟩) (fun cf => by kernel_rfl) ?_
  refine ev_ret ?_
  exact ⟨((false && decide ((((trimL lg).length : Nat) : Int) > 0)), y1), ⟨_, made_iv (s := false) (n := (Nat.gcd n.natAbs m.natAbs : Nat)) hy1 og (by rw [natAbs_iv hn, natAbs_iv hm2, vg]; rfl)⟩, .inr rfl, .ag [boolA (false && decide ((((trimL lg).length : Nat) : Int) > 0)), .d y1], by kernel_rfl, by kernel_rfl⟩

theorem words_len {n : Nat} (h : n < 18446744073709551616) : (wordsL n).length ≤ 2 := by
  have := len_trim [n % 4294967296, n / 4294967296]
  show (trimL _).length ≤ 2
  simpa using this

theorem g_of {n : Int} (h1 : -9223372036854775808 ≤ n) (h2 : n ≤ 9223372036854775807) : ∃ res : Bool × D, (fun (r : Bool × D) => ∃ l, Iv (n) r.1 r.2 l) res ∧ Gets Try.cx 27 [J n] ((fun (r : Bool × D) => .ag [boolA r.1, .d r.2]) res) := by
  refine gets_some (fn := Try.f27) (fun (r : Bool × D) => ∃ l, Iv (n) r.1 r.2 l) (fun (r : Bool × D) => .ag [boolA r.1, .d r.2]) (by kernel_rfl) rfl ?_
  show EvK _ _ _ ⟨[J n] ++ us 15, ⟨[], 0⟩⟩ _
  refine ev_seq ?_
  refine ev_reg (by kernel_rfl) ?_
  refine rs_all (s1 := ⟨[J n, U, .ptr 0 0 0] ++ us 13, ⟨[.row [No, .d (.v (.slice none 0 0))] 0 .ow none], 1⟩⟩) (fun cf => by kernel_rfl) ?_
  refine ev_seq ?_
  refine ev_seq ?_
  refine ev_reg (by kernel_rfl) ?_
  refine rs_alu [(3, J n), (4, boolA (decide (n < 0)))] (fun cf => by kernel_rfl) ?_
  rcases hb1 : ((decide (n < 0)) : Bool) with _ | _
  ·
    have hb1' := of_decide_eq_false hb1
    refine ev_false (by kernel_rfl) ?_
    refine ev_skip ?_
    refine ev_seq ?_
    refine ev_reg (by kernel_rfl) ?_
    refine rs_up 2 [(12, J n), (13, intA .u64 (IntKind.wrap .u64 n))] (fun cf => by kernel_rfl) ?_
    rw [(show (IntKind.wrap .u64 n) = (n.natAbs : Int) by rw [show n = (n.natAbs : Int) by omega]; exact wrapU (by omega))]
    obtain ⟨y2, hy2, gy2⟩ := g_words (n := n.natAbs) (by omega)
    refine rs_cp 48 [intA .u64 (n.natAbs : Int)] false (some 14) (.d y2) (by kernel_rfl) (gy2) (by kernel_rfl) ?_
    obtain ⟨y3, hy3, gy3⟩ := g_made (s := false) hy2 (by have := words_len (n := n.natAbs) (by omega); omega)
    refine rs_cp 47 [No, .d y2] false (some 15) (.ag [boolA (false && decide ((((trimL (wordsL (n.natAbs))).length : Nat) : Int) > 0)), .d y3]) (by kernel_rfl) (gy3) (by kernel_rfl) ?_
    refine rs_cu (fun m9 => storeA Try.cx 34 m9 (.ptr 0 0 0) (.ag [boolA (false && decide ((((trimL (wordsL (n.natAbs))).length : Nat) : Int) > 0)), .d y3])) none ⟨[.row [boolA (false && decide ((((trimL (wordsL (n.natAbs))).length : Nat) : Int) > 0)), .d y3] 0 .ow none], 1⟩ (fun cf => by kernel_rfl) (store_int hy3 rfl) ?_
    refine rs_all (s1 := ⟨[J n, U, .ptr 0 0 0, J n, No] ++ us 7 ++ [J n, intA .u64 (n.natAbs : Int), .d y2, .ag [boolA (false && decide ((((trimL (wordsL (n.natAbs))).length : Nat) : Int) > 0)), .d y3]], ⟨[.row [boolA (false && decide ((((trimL (wordsL (n.natAbs))).length : Nat) : Int) > 0)), .d y3] 0 .ow none], 1⟩⟩) (fun cf => by kernel_rfl) ?_
    refine ev_ret ?_
    exact ⟨((false && decide ((((trimL (wordsL (n.natAbs))).length : Nat) : Int) > 0)), y3), ⟨_, made_iv (s := false) (n := n) hy3 (ok_words (by omega)) (by rw [val_words]; show n = _; simp only [cond_true, cond_false]; omega)⟩, .inr rfl, .ag [boolA (false && decide ((((trimL (wordsL (n.natAbs))).length : Nat) : Int) > 0)), .d y3], by kernel_rfl, by kernel_rfl⟩
  ·
    have hb1' := of_decide_eq_true hb1
    refine ev_true (by kernel_rfl) ?_
    refine ev_seq ?_
    refine ev_reg (by kernel_rfl) ?_
    refine rs_up 2 [(5, J n), (6, J (IntKind.wrap .i64 (n + 1)))] (fun cf => by kernel_rfl) ?_
    rw [wrapI (n := n + 1) (by omega) (by omega)]
    refine rs_up 1 [(7, J (IntKind.wrap .i64 (0 - (n + 1))))] (fun cf => by kernel_rfl) ?_
    rw [(show (IntKind.wrap .i64 (0 - (n + 1))) = ((n.natAbs - 1 : Nat) : Int) by rw [wrapI (by omega) (by omega)]; omega)]
    refine rs_up 1 [(8, intA .u64 (IntKind.wrap .u64 ((n.natAbs - 1 : Nat) : Int)))] (fun cf => by kernel_rfl) ?_
    rw [wrapU (n := n.natAbs - 1) (by omega)]
    refine rs_up 1 [(9, intA .u64 (IntKind.wrap .u64 (((n.natAbs - 1 : Nat) : Int) + 1)))] (fun cf => by kernel_rfl) ?_
    rw [addU (a := ((n.natAbs - 1 : Nat) : Int)) (b := 1) (A := n.natAbs - 1) (B := 1) (by rfl) (by rfl) (by omega)]
    obtain ⟨y4, hy4, gy4⟩ := g_words (n := (n.natAbs - 1) + 1) (by omega)
    refine rs_cp 48 [intA .u64 (((n.natAbs - 1) + 1 : Nat) : Int)] false (some 10) (.d y4) (by kernel_rfl) (gy4) (by kernel_rfl) ?_
    obtain ⟨y5, hy5, gy5⟩ := g_made (s := true) hy4 (by have := words_len (n := (n.natAbs - 1) + 1) (by omega); omega)
    refine rs_cp 47 [Yes, .d y4] false (some 11) (.ag [boolA (true && decide ((((trimL (wordsL ((n.natAbs - 1) + 1))).length : Nat) : Int) > 0)), .d y5]) (by kernel_rfl) (gy5) (by kernel_rfl) ?_
    refine rs_cu (fun m9 => storeA Try.cx 34 m9 (.ptr 0 0 0) (.ag [boolA (true && decide ((((trimL (wordsL ((n.natAbs - 1) + 1))).length : Nat) : Int) > 0)), .d y5])) none ⟨[.row [boolA (true && decide ((((trimL (wordsL ((n.natAbs - 1) + 1))).length : Nat) : Int) > 0)), .d y5] 0 .ow none], 1⟩ (fun cf => by kernel_rfl) (store_int hy5 rfl) ?_
    refine rs_all (s1 := ⟨[J n, U, .ptr 0 0 0, J n, Yes, J n, J (n + 1), J ((n.natAbs - 1 : Nat) : Int), intA .u64 ((n.natAbs - 1 : Nat) : Int), intA .u64 (((n.natAbs - 1) + 1 : Nat) : Int), .d y4, .ag [boolA (true && decide ((((trimL (wordsL ((n.natAbs - 1) + 1))).length : Nat) : Int) > 0)), .d y5]] ++ us 4, ⟨[.row [boolA (true && decide ((((trimL (wordsL ((n.natAbs - 1) + 1))).length : Nat) : Int) > 0)), .d y5] 0 .ow none], 1⟩⟩) (fun cf => by kernel_rfl) ?_
    refine ev_ret ?_
    exact ⟨((true && decide ((((trimL (wordsL ((n.natAbs - 1) + 1))).length : Nat) : Int) > 0)), y5), ⟨_, made_iv (s := true) (n := n) hy5 (ok_words (by omega)) (by rw [val_words]; show n = _; simp only [cond_true, cond_false]; omega)⟩, .inr rfl, .ag [boolA (true && decide ((((trimL (wordsL ((n.natAbs - 1) + 1))).length : Nat) : Int) > 0)), .d y5], by kernel_rfl, by kernel_rfl⟩
/-- Less, equal or greater. -/
def cmpZ (n m : Int) : Int := if n < m then -1 else if m < n then 1 else 0
theorem cmpZ_of {n m c : Int} (h : (c = -1 ∧ n < m) ∨ (c = 1 ∧ m < n) ∨ (c = 0 ∧ n = m)) : c = cmpZ n m := by
  unfold cmpZ
  rcases h with ⟨h1, h2⟩ | ⟨h1, h2⟩ | ⟨h1, h2⟩
  · rw [if_pos h2, h1]
  · rw [if_neg (by omega), if_pos h2, h1]
  · rw [if_neg (by omega), if_neg (by omega), h1]

end Go.Proofs.Ytgkjdfojogemhaa.W
