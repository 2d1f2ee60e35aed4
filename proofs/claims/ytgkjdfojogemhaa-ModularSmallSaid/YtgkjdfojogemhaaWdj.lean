/-
  The reference: integers. Made by program. Conditions: none.
-/
import Derived.Test.YtgkjdfojogemhaaWdi
set_option maxRecDepth 100000
set_option maxHeartbeats 20000000
set_option linter.unusedSimpArgs false
set_option linter.unusedVariables false
namespace Go.Proofs.Ytgkjdfojogemhaa.W
open Go.Am
def Iv (n : Int) (s : Bool) (x : D) (l : List Nat) : Prop := Ws l x ∧ Ok l ∧ Nrm l ∧ n = (bif s then -(val l : Int) else (val l : Int)) ∧ (s = true → val l ≠ 0)
theorem len_pos_iff {l : List Nat} (h : Nrm l) : l.length = 0 ↔ val l = 0 := by
  constructor
  · intro e; rw [List.eq_nil_of_length_eq_zero e]; rfl
  · intro e
    by_cases h0 : l = []
    · rw [h0]; rfl
    · have := val_pos h h0; omega
theorem made_iv {s : Bool} {l : List Nat} {y : D} {n : Int} (hW : Ws (trimL l) y) (ok : Ok l) (hn : n = (bif s then -(val l : Int) else (val l : Int))) : Iv n (s && decide ((((trimL l).length : Nat) : Int) > 0)) y (trimL l) := by
  have hv := val_trim l
  have hz := len_pos_iff (nrm_trim l)
  refine ⟨hW, ok_trim ok, nrm_trim l, ?_, ?_⟩
  · rw [hn, hv]
    cases s with
    | false => rfl
    | true =>
      by_cases h0 : (trimL l).length = 0
      · rw [show decide ((((trimL l).length : Nat) : Int) > 0) = false from decide_eq_false (by omega)]
        have := hz.mp h0
        rw [hv] at this
        simp [this]
      · rw [show decide ((((trimL l).length : Nat) : Int) > 0) = true from decide_eq_true (by omega)]
        rfl
  · intro h
    simp only [Bool.and_eq_true, decide_eq_true_eq] at h
    intro h0
    have := hz.mpr h0
    omega
theorem cellOk_ws {l : List Nat} {y : D} (h : Ws l y) : cellOk (.d y) = true := by
  rcases h with ⟨b, rfl⟩ | ⟨rfl, rfl⟩ <;> rfl
theorem build_int {m : Mem} {s : Bool} {l : List Nat} {y : D} (hy : Ws l y) : opA Try.cx (fun _ => false) [boolA s, .d y] m ⟨none, .build 34 #[(0, .tmp 0), (1, .tmp 1)], 0, "", #[], none⟩ = some (.ag [boolA s, .d y], m) := by
  rcases hy with ⟨b, rfl⟩ | ⟨rfl, rfl⟩ <;> kernel_rfl
theorem store_int {m : Mem} {h g : Nat} {s : Bool} {l : List Nat} {y : D} {c0 c1 : AV} (hy : Ws l y) (hr : m.b[h]? = some (.row [c0, c1] g .ow none)) : storeA Try.cx 34 m (.ptr h g 0) (.ag [boolA s, .d y]) = some ⟨m.b.set h (.row [boolA s, .d y] g .ow none), m.n⟩ := by
  have e : storeA Try.cx 34 m (.ptr h g 0) (.ag [boolA s, .d y]) = if [boolA s, .d y].length = 2 ∧ [boolA s, .d y].all cellOk = true then (match own? m h g with
    | some (cs, kid) => if 0 + 2 ≤ cs.length then some (m.write h g kid (over cs 0 [boolA s, .d y])) else none
    | none => none) else none := by kernel_rfl
  have ho : own? m h g = some ([c0, c1], none) := by simp [own?, hr]
  have hc : [boolA s, .d y].all cellOk = true := by
    simp only [List.all_cons, List.all_nil, cellOk_ws hy, Bool.and_true]
    rfl
  rw [e, if_pos ⟨rfl, hc⟩, ho]
  rfl
theorem g_made {s : Bool} {l : List Nat} {x : D} (hx : Ws l x) (hl : l.length < 100000000) : ∃ res : D, (fun y => Ws (trimL l) y) res ∧ Gets Try.cx 47 [boolA s, .d x] ((fun y => .ag [boolA (s && decide ((((trimL l).length : Nat) : Int) > 0)), .d y]) res) := by
  refine gets_some (fn := Try.f47) (fun y => Ws (trimL l) y) (fun y => .ag [boolA (s && decide ((((trimL l).length : Nat) : Int) > 0)), .d y]) (by kernel_rfl) rfl ?_
  show EvK _ _ _ ⟨[boolA s, .d x] ++ us 14, ⟨[], 0⟩⟩ _
  refine ev_seq ?_
  refine ev_reg (by kernel_rfl) ?_
  refine rs_all (s1 := ⟨[boolA s, .d x, U, U, .ptr 0 0 0] ++ us 11, ⟨[.row [No, .d (.v (.slice none 0 0))] 0 .ow none], 1⟩⟩) (fun cf => by kernel_rfl) ?_
  refine ev_seq ?_
  refine ev_reg (by kernel_rfl) ?_
  refine rs_up 1 [(6, .d x)] (fun cf => by kernel_rfl) ?_
  obtain ⟨y1, hy1, gy1⟩ := g_trim hx (by omega)
  refine rs_cp 74 [.d x] false (some 7) (.d y1) (by kernel_rfl) (gy1) (by kernel_rfl) ?_
  refine rs_alu [(5, .d y1)] (fun cf => by kernel_rfl) ?_
  refine ev_seq ?_
  refine ev_reg (by kernel_rfl) ?_
  refine rs_up 2 [(8, boolA s), (9, boolA s)] (fun cf => by kernel_rfl) ?_
  rcases hb2 : (s : Bool) with _ | _
  ·
    refine rs_up 5 [(13, No), (14, .d y1)] (fun cf => by kernel_rfl) ?_
    refine rs_co (fun m9 => opA Try.cx (fun _ => false) [boolA false, .d y1] m9 ⟨none, .build 34 #[(0, .tmp 0), (1, .tmp 1)], 0, "", #[], none⟩) (some 15) (.ag [No, .d y1]) ⟨[.row [No, .d (.v (.slice none 0 0))] 0 .ow none], 1⟩ (fun cf => by kernel_rfl) (build_int hy1) ?_
    refine rs_cu (fun m9 => storeA Try.cx 34 m9 (.ptr 0 0 0) (.ag [No, .d y1])) none ⟨[.row [No, .d y1] 0 .ow none], 1⟩ (fun cf => by kernel_rfl) (store_int hy1 rfl) ?_
    refine rs_all (s1 := ⟨[No, .d x, U, U, .ptr 0 0 0, .d y1, .d x, .d y1, No, No] ++ us 3 ++ [No, .d y1, .ag [No, .d y1]], ⟨[.row [No, .d y1] 0 .ow none], 1⟩⟩) (fun cf => by kernel_rfl) ?_
    refine ev_ret ?_
    exact ⟨y1, hy1, .inr rfl, .ag [No, .d y1], by kernel_rfl, by kernel_rfl⟩
  ·
    refine rs_up 1 [(10, .d y1)] (fun cf => by kernel_rfl) ?_
    refine rs_cl (fun m9 => lenA Try.cx 32 m9 (.d y1)) (some 11) ((trimL l).length) (fun cf => by kernel_rfl) (len_ws hy1) ?_
    refine rs_up 3 [(12, boolA (decide ((((trimL l).length : Nat) : Int) > 0))), (13, boolA (decide ((((trimL l).length : Nat) : Int) > 0))), (14, .d y1)] (fun cf => by kernel_rfl) ?_
    refine rs_co (fun m9 => opA Try.cx (fun _ => false) [boolA (decide ((((trimL l).length : Nat) : Int) > 0)), .d y1] m9 ⟨none, .build 34 #[(0, .tmp 0), (1, .tmp 1)], 0, "", #[], none⟩) (some 15) (.ag [boolA (decide ((((trimL l).length : Nat) : Int) > 0)), .d y1]) ⟨[.row [No, .d (.v (.slice none 0 0))] 0 .ow none], 1⟩ (fun cf => by kernel_rfl) (build_int hy1) ?_
    refine rs_cu (fun m9 => storeA Try.cx 34 m9 (.ptr 0 0 0) (.ag [boolA (decide ((((trimL l).length : Nat) : Int) > 0)), .d y1])) none ⟨[.row [boolA (decide ((((trimL l).length : Nat) : Int) > 0)), .d y1] 0 .ow none], 1⟩ (fun cf => by kernel_rfl) (store_int hy1 rfl) ?_
    refine rs_all (s1 := ⟨[Yes, .d x, U, U, .ptr 0 0 0, .d y1, .d x, .d y1, Yes, Yes, .d y1, J (((trimL l).length : Nat) : Int), boolA (decide ((((trimL l).length : Nat) : Int) > 0)), boolA (decide ((((trimL l).length : Nat) : Int) > 0)), .d y1, .ag [boolA (decide ((((trimL l).length : Nat) : Int) > 0)), .d y1]], ⟨[.row [boolA (decide ((((trimL l).length : Nat) : Int) > 0)), .d y1] 0 .ow none], 1⟩⟩) (fun cf => by kernel_rfl) ?_
    refine ev_ret ?_
    exact ⟨y1, hy1, .inr rfl, .ag [boolA (decide ((((trimL l).length : Nat) : Int) > 0)), .d y1], by kernel_rfl, by kernel_rfl⟩
theorem subL_val' {a b : List Nat} (ha : Ok a) (hb : Ok b) (nb : Nrm b) (h : val b ≤ val a) : val (subL a b) = val a - val b := subL_val ha hb (nrm_len nb (Nat.lt_of_le_of_lt h (val_lt ha))) h
theorem add_same {n m : Int} {s t : Bool} {a b c : Nat} (hn : n = (bif s then -(a : Int) else (a : Int))) (hm : m = (bif t then -(b : Int) else (b : Int))) (h : s = t) (hc : c = a + b) : n + m = (bif s then -(c : Int) else (c : Int)) := by
  subst h hc
  rw [hn, hm]
  cases s <;> simp only [cond_true, cond_false] <;> omega
theorem add_less {n m : Int} {s t : Bool} {a b c : Nat} (hn : n = (bif s then -(a : Int) else (a : Int))) (hm : m = (bif t then -(b : Int) else (b : Int))) (h : s ≠ t) (hc : c = b - a) (hl : a ≤ b) : n + m = (bif t then -(c : Int) else (c : Int)) := by
  subst hc
  rw [hn, hm]
  cases s <;> cases t <;> first | exact absurd rfl h | (simp only [cond_true, cond_false]; omega)
theorem add_more {n m : Int} {s t : Bool} {a b c : Nat} (hn : n = (bif s then -(a : Int) else (a : Int))) (hm : m = (bif t then -(b : Int) else (b : Int))) (h : s ≠ t) (hc : c = a - b) (hl : b ≤ a) : n + m = (bif s then -(c : Int) else (c : Int)) := by
  subst hc
  rw [hn, hm]
  cases s <;> cases t <;> first | exact absurd rfl h | (simp only [cond_true, cond_false]; omega)
theorem natAbs_iv {n : Int} {s : Bool} {a : Nat} (hn : n = (bif s then -(a : Int) else (a : Int))) : n.natAbs = a := by
  rw [hn]; cases s <;> simp
theorem words_len {n : Nat} (h : n < 18446744073709551616) : (wordsL n).length ≤ 2 := by
  have := len_trim [n % 4294967296, n / 4294967296]
  show (trimL _).length ≤ 2
  simpa using this
theorem g_of {n : Int} (h1 : -9223372036854775808 ≤ n) (h2 : n ≤ 9223372036854775807) : ∃ res : Bool × D, (fun (r : Bool × D) => ∃ l, Iv (n) r.1 r.2 l) res ∧ Gets Try.cx 27 [J n] ((fun (r : Bool × D) => .ag [boolA r.1, .d r.2]) res) := by
  refine gets_some (fn := Try.f27) (fun (r : Bool × D) => ∃ l, Iv (n) r.1 r.2 l) (fun (r : Bool × D) => .ag [boolA r.1, .d r.2]) (by kernel_rfl) rfl ?_
  show EvK _ _ _ ⟨[J n] ++ us 15, ⟨[], 0⟩⟩ _
  refine ev_seq ?_
  refine ev_reg (by kernel_rfl) ?_
  refine rs_all (s1 := ⟨[J n, U, .ptr 0 0 0] ++ us 13, ⟨[.row [No, .d (.v (.slice none 0 0))] 0 .ow none], 1⟩⟩) (fun cf => by kernel_rfl) ?_
  refine ev_seq ?_
  refine ev_seq ?_
  refine ev_reg (by kernel_rfl) ?_
  refine rs_alu [(3, J n), (4, boolA (decide (n < 0)))] (fun cf => by kernel_rfl) ?_
  rcases hb1 : ((decide (n < 0)) : Bool) with _ | _
  ·
    have hb1' := of_decide_eq_false hb1
    refine ev_false (by kernel_rfl) ?_
    refine ev_skip ?_
    refine ev_seq ?_
    refine ev_reg (by kernel_rfl) ?_
    refine rs_up 2 [(12, J n), (13, intA .u64 (IntKind.wrap .u64 n))] (fun cf => by kernel_rfl) ?_
    rw [(show (IntKind.wrap .u64 n) = (n.natAbs : Int) by rw [show n = (n.natAbs : Int) by omega]; exact wrapU (by omega))]
    obtain ⟨y2, hy2, gy2⟩ := g_words (n := n.natAbs) (by omega)
    refine rs_cp 48 [intA .u64 (n.natAbs : Int)] false (some 14) (.d y2) (by kernel_rfl) (gy2) (by kernel_rfl) ?_
    obtain ⟨y3, hy3, gy3⟩ := g_made (s := false) hy2 (by have := words_len (n := n.natAbs) (by omega); omega)
    refine rs_cp 47 [No, .d y2] false (some 15) (.ag [boolA (false && decide ((((trimL (wordsL (n.natAbs))).length : Nat) : Int) > 0)), .d y3]) (by kernel_rfl) (gy3) (by kernel_rfl) ?_
    refine rs_cu (fun m9 => storeA Try.cx 34 m9 (.ptr 0 0 0) (.ag [boolA (false && decide ((((trimL (wordsL (n.natAbs))).length : Nat) : Int) > 0)), .d y3])) none ⟨[.row [boolA (false && decide ((((trimL (wordsL (n.natAbs))).length : Nat) : Int) > 0)), .d y3] 0 .ow none], 1⟩ (fun cf => by kernel_rfl) (store_int hy3 rfl) ?_
    refine rs_all (s1 := ⟨[J n, U, .ptr 0 0 0, J n, No] ++ us 7 ++ [J n, intA .u64 (n.natAbs : Int), .d y2, .ag [boolA (false && decide ((((trimL (wordsL (n.natAbs))).length : Nat) : Int) > 0)), .d y3]], ⟨[.row [boolA (false && decide ((((trimL (wordsL (n.natAbs))).length : Nat) : Int) > 0)), .d y3] 0 .ow none], 1⟩⟩) (fun cf => by kernel_rfl) ?_
    refine ev_ret ?_
    exact ⟨((false && decide ((((trimL (wordsL (n.natAbs))).length : Nat) : Int) > 0)), y3), ⟨_, made_iv (s := false) (n := n) hy3 (ok_words (by omega)) (by rw [val_words]; show n = _; simp only [cond_true, cond_false]; omega)⟩, .inr rfl, .ag [boolA (false && decide ((((trimL (wordsL (n.natAbs))).length : Nat) : Int) > 0)), .d y3], by kernel_rfl, by kernel_rfl⟩
  ·
    have hb1' := of_decide_eq_true hb1
    refine ev_true (by kernel_rfl) ?_
    refine ev_seq ?_
    refine ev_reg (by kernel_rfl) ?_
    refine rs_up 2 [(5, J n), (6, J (IntKind.wrap .i64 (n + 1)))] (fun cf => by kernel_rfl) ?_
    rw [wrapI (n := n + 1) (by omega) (by omega)]
    refine rs_up 1 [(7, J (IntKind.wrap .i64 (0 - (n + 1))))] (fun cf => by kernel_rfl) ?_
    rw [(show (IntKind.wrap .i64 (0 - (n + 1))) = ((n.natAbs - 1 : Nat) : Int) by rw [wrapI (by omega) (by omega)]; omega)]
    refine rs_up 1 [(8, intA .u64 (IntKind.wrap .u64 ((n.natAbs - 1 : Nat) : Int)))] (fun cf => by kernel_rfl) ?_
    rw [wrapU (n := n.natAbs - 1) (by omega)]
    refine rs_up 1 [(9, intA .u64 (IntKind.wrap .u64 (((n.natAbs - 1 : Nat) : Int) + 1)))] (fun cf => by kernel_rfl) ?_
    rw [addU (a := ((n.natAbs - 1 : Nat) : Int)) (b := 1) (A := n.natAbs - 1) (B := 1) (by rfl) (by rfl) (by omega)]
    obtain ⟨y4, hy4, gy4⟩ := g_words (n := (n.natAbs - 1) + 1) (by omega)
    refine rs_cp 48 [intA .u64 (((n.natAbs - 1) + 1 : Nat) : Int)] false (some 10) (.d y4) (by kernel_rfl) (gy4) (by kernel_rfl) ?_
    obtain ⟨y5, hy5, gy5⟩ := g_made (s := true) hy4 (by have := words_len (n := (n.natAbs - 1) + 1) (by omega); omega)
    refine rs_cp 47 [Yes, .d y4] false (some 11) (.ag [boolA (true && decide ((((trimL (wordsL ((n.natAbs - 1) + 1))).length : Nat) : Int) > 0)), .d y5]) (by kernel_rfl) (gy5) (by kernel_rfl) ?_
    refine rs_cu (fun m9 => storeA Try.cx 34 m9 (.ptr 0 0 0) (.ag [boolA (true && decide ((((trimL (wordsL ((n.natAbs - 1) + 1))).length : Nat) : Int) > 0)), .d y5])) none ⟨[.row [boolA (true && decide ((((trimL (wordsL ((n.natAbs - 1) + 1))).length : Nat) : Int) > 0)), .d y5] 0 .ow none], 1⟩ (fun cf => by kernel_rfl) (store_int hy5 rfl) ?_
    refine rs_all (s1 := ⟨[J n, U, .ptr 0 0 0, J n, Yes, J n, J (n + 1), J ((n.natAbs - 1 : Nat) : Int), intA .u64 ((n.natAbs - 1 : Nat) : Int), intA .u64 (((n.natAbs - 1) + 1 : Nat) : Int), .d y4, .ag [boolA (true && decide ((((trimL (wordsL ((n.natAbs - 1) + 1))).length : Nat) : Int) > 0)), .d y5]] ++ us 4, ⟨[.row [boolA (true && decide ((((trimL (wordsL ((n.natAbs - 1) + 1))).length : Nat) : Int) > 0)), .d y5] 0 .ow none], 1⟩⟩) (fun cf => by kernel_rfl) ?_
    refine ev_ret ?_
    exact ⟨((true && decide ((((trimL (wordsL ((n.natAbs - 1) + 1))).length : Nat) : Int) > 0)), y5), ⟨_, made_iv (s := true) (n := n) hy5 (ok_words (by omega)) (by rw [val_words]; show n = _; simp only [cond_true, cond_false]; omega)⟩, .inr rfl, .ag [boolA (true && decide ((((trimL (wordsL ((n.natAbs - 1) + 1))).length : Nat) : Int) > 0)), .d y5], by kernel_rfl, by kernel_rfl⟩
def cmpZ (n m : Int) : Int := if n < m then -1 else if m < n then 1 else 0
end Go.Proofs.Ytgkjdfojogemhaa.W
