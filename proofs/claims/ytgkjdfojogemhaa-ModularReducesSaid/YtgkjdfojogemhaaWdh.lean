/-
  The reference: division of words, the whole. Made by program. Conditions: none.
-/
import Derived.Test.YtgkjdfojogemhaaWdg
set_option maxRecDepth 100000
set_option maxHeartbeats 20000000
set_option linter.unusedSimpArgs false
set_option linter.unusedVariables false
namespace Go.Proofs.Ytgkjdfojogemhaa.W
open Go.Am


theorem wa_ok : ∀ l, (wa l).all cellOk = true
  | [] => rfl
  | n :: l => by
    show (cellOk (intA .u32 (n : Int)) && (wa l).all cellOk) = true
    rw [wa_ok l]
    rfl
theorem content_ws {m : Mem} {l : List Nat} {y : D} (h : Ws l y) : content m 1 (.d y) = some (wa l, l.length) := by
  rcases h with ⟨b, rfl⟩ | ⟨rfl, rfl⟩
  · show (if (wd l).length = l.length * 1 then some ((wd l).map AV.d, l.length) else none) = _
    rw [if_pos (by rw [wd_len, Nat.mul_one])]
    simp [wd, wa, intA]
  · rfl
theorem copy_ws {m : Mem} {h g N : Nat} {cap : Option Nat} {l : List Nat} {y : D} (hy : Ws l y) (hN : l.length ≤ N) (hr : m.b[h]? = some (.row (wa (List.replicate N 0)) g .ow none)) :
    copyA Try.cx #[32, 32] m (.own h g 0 N 1 cap) (.d y) = some (intA .i64 ((l.length : Nat) : Int), ⟨m.b.set h (.row (wa (l ++ List.replicate (N - l.length) 0)) g .ow none), m.n⟩) := by
  have e : ∀ src, copyA Try.cx #[32, 32] m (.own h g 0 N 1 cap) src = match content m 1 src with
    | some (xs, n) => match own? m h g with
      | some (cs, kid) => if 1 = 1 ∧ 0 + N * 1 ≤ cs.length ∧ xs.all cellOk = true then some (intA .i64 (min (n : Int) (N : Int)), m.write h g kid (over cs 0 (xs.take (min n N * 1)))) else none
      | none => none
    | none => none := fun src => by kernel_rfl
  have ho : own? m h g = some (wa (List.replicate N 0), none) := by simp [own?, hr]
  rw [e, content_ws hy, ho]
  simp only [wa_ok, wa_len, List.length_replicate, Nat.zero_add, Nat.mul_one, Nat.le_refl, and_self, if_true, Nat.min_eq_left hN, Mem.write, kill]
  have e1 : (wa l).take l.length = wa l := List.take_of_length_le (by rw [wa_len]; exact Nat.le_refl _)
  have e2 : over (wa (List.replicate N 0)) 0 (wa l) = wa (l ++ List.replicate (N - l.length) 0) := by
    rw [over, wa_len]
    simp [wa]
  rw [e1, e2, show min (l.length : Int) (N : Int) = ((l.length : Nat) : Int) by omega]
theorem nrm_len {l : List Nat} {k : Nat} (h : Nrm l) (hv : val l < 4294967296 ^ k) : l.length ≤ k := by
  by_cases h0 : l = []
  · rw [h0]; exact Nat.zero_le _
  · have h1 := nrm_low h h0
    have h2 : l.length ≠ 0 := fun e => h0 (List.eq_nil_of_length_eq_zero e)
    have h3 : l.length - 1 < k := by
      by_cases hk : l.length - 1 < k
      · exact hk
      · have := Nat.pow_le_pow_right (show 0 < 4294967296 by decide) (Nat.le_of_not_lt hk)
        omega
    omega
theorem nrm_top {l : List Nat} (h : Nrm l) (h0 : l ≠ []) : l.getD (l.length - 1) 0 ≠ 0 := by
  rcases h with h | h
  · exact absurd h h0
  · exact h
theorem val_pos {l : List Nat} (h : Nrm l) (h0 : l ≠ []) : 0 < val l := by
  have h1 := nrm_low h h0
  have h2 : 0 < 4294967296 ^ (l.length - 1) := Nat.pow_pos (by decide)
  omega
theorem norm_fac {bt m V l : Nat} (hV : V = l + m * bt) (hl : l < m) (hb : 0 < bt) : V * (4294967296 / (bt + 1)) < m * 4294967296 ∧ (bt < 4294967296 → 1 ≤ 4294967296 / (bt + 1)) := by
  have h1 : 4294967296 / (bt + 1) * (bt + 1) ≤ 4294967296 := Nat.div_mul_le_self _ _
  have h2 : V < m * (bt + 1) := by rw [Nat.mul_succ]; omega
  refine ⟨?_, fun hbt => Nat.div_pos (by omega) (by omega)⟩
  by_cases h0 : 4294967296 / (bt + 1) = 0
  · rw [h0, Nat.mul_zero]
    have : 0 < m := by omega
    exact Nat.mul_pos this (Nat.succ_pos 4294967295)
  · have h3 : V * (4294967296 / (bt + 1)) < m * (bt + 1) * (4294967296 / (bt + 1)) := Nat.mul_lt_mul_of_pos_right h2 (Nat.pos_of_ne_zero h0)
    have h4 : m * (bt + 1) * (4294967296 / (bt + 1)) ≤ m * 4294967296 := by
      rw [Nat.mul_assoc, Nat.mul_comm (bt + 1)]
      exact Nat.mul_le_mul_left _ h1
    exact Nat.lt_of_lt_of_le h3 h4
/-- The quotient and the rest, after both were multiplied. -/
theorem div_back {A Bv d q r : Nat} (hd : 0 < d) (hB : 0 < Bv) (h : q * (Bv * d) + r = A * d) (hr : r < Bv * d) : q = A / Bv ∧ r / d = A % Bv := by
  have hdm := Nat.div_add_mod A Bv
  have hlt := Nat.mod_lt A hB
  have e1 : A * d = Bv * (A / Bv) * d + A % Bv * d := by rw [← Nat.add_mul, hdm]
  have e2 : Bv * (A / Bv) * d = A / Bv * (Bv * d) := by rw [Nat.mul_comm Bv (A / Bv), Nat.mul_assoc]
  have e3 : A % Bv * d < Bv * d := Nat.mul_lt_mul_of_pos_right hlt hd
  have hq : q = A / Bv := by
    have h1 : (q * (Bv * d) + r) / (Bv * d) = q := by
      rw [Nat.mul_comm q, Nat.mul_add_div (by omega), Nat.div_eq_of_lt hr, Nat.add_zero]
    have h2 : (A / Bv * (Bv * d) + A % Bv * d) / (Bv * d) = A / Bv := by
      rw [Nat.mul_comm (A / Bv), Nat.mul_add_div (by omega), Nat.div_eq_of_lt e3, Nat.add_zero]
    rw [← h1, h, e1, e2, h2]
  refine ⟨hq, ?_⟩
  subst hq
  have h3 : r = A % Bv * d := by omega
  rw [h3, Nat.mul_div_cancel _ hd]
theorem vF_low {l : List Nat} {n : Nat} (h : ∀ k, n ≤ k → l.getD k 0 = 0) : vF l 0 n = val l := by
  have e := val_take_all l n h
  rw [← e]
  rw [← vF_val (a := l.take n) (r := n) (by rw [List.length_take]; omega)]
  refine vF_congr _ _ fun j h1 h2 => ?_
  rw [List.getD_eq_getElem?_getD, List.getD_eq_getElem?_getD, List.getElem?_take, if_pos (by omega)]

/-- What a quotient and a rest are to be. -/
def DivOk (a b : List Nat) (r : D × D) : Prop := ∃ lq lr, Ws lq r.1 ∧ Ws lr r.2 ∧ Ok lq ∧ Ok lr ∧ Nrm lq ∧ Nrm lr ∧ val lq = val a / val b ∧ val lr = val a % val b

theorem high_lt {V d A Bv m m2 P hi lo : Nat} (h : A * d = lo + m * hi) (hV : V = Bv * d) (hd : 1 ≤ d) (hA : A < P) (hB : m2 ≤ Bv) (hP : P = m * m2) : hi < V := by
  refine Nat.lt_of_mul_lt_mul_left (a := m) ?_
  have h1 : A * d < m * m2 * d := by rw [← hP]; exact Nat.mul_lt_mul_of_pos_right hA hd
  have h2 : m * m2 * d ≤ m * V := by rw [hV, Nat.mul_assoc]; exact Nat.mul_le_mul_left _ (Nat.mul_le_mul_right _ hB)
  omega

theorem g_divided {a b : List Nat} {x y : D} (hx : Ws a x) (hy : Ws b y) (ha : Ok a) (hb : Ok b) (na : Nrm a) (nb : Nrm b) (hbne : b ≠ []) (hl : a.length < 50000000) (hm : b.length < 50000000) : ∃ res : D × D, (fun r => DivOk a b r) res ∧ Gets Try.cx 66 [.d x, .d y] ((fun r => .tu [.d r.1, .d r.2]) res) := by
  refine gets_some (fn := Try.f66) (fun r => DivOk a b r) (fun r => .tu [.d r.1, .d r.2]) (by kernel_rfl) rfl ?_
  show EvK _ _ _ ⟨[.d x, .d y] ++ us 108, ⟨[], 0⟩⟩ _
  refine ev_seq ?_
  refine ev_reg (by kernel_rfl) ?_
  refine rs_all (s1 := ⟨[.d x, .d y, U, U, .d (.v (.slice none 0 0)), .d (.v (.slice none 0 0))] ++ us 104, ⟨[], 0⟩⟩) (fun cf => by kernel_rfl) ?_
  refine ev_seq ?_
  refine ev_seq ?_
  refine ev_reg (by kernel_rfl) ?_
  refine rs_up 2 [(18, .d x), (19, .d y)] (fun cf => by kernel_rfl) ?_
  refine rs_cp 50 [.d x, .d y] false (some 20) (J (cmpL a b)) (by kernel_rfl) (g_compared hx hy (by omega)) (by kernel_rfl) ?_
  refine rs_alu [(21, boolA (decide ((cmpL a b) < 0)))] (fun cf => by kernel_rfl) ?_
  rcases hb1 : ((decide ((cmpL a b) < 0)) : Bool) with _ | _
  ·
    have hb1' := of_decide_eq_false hb1
    refine ev_false (by kernel_rfl) ?_
    refine ev_skip ?_
    refine ev_seq ?_
    refine ev_seq ?_
    refine ev_reg (by kernel_rfl) ?_
    refine rs_up 1 [(23, .d y)] (fun cf => by kernel_rfl) ?_
    refine rs_cl (fun m9 => lenA Try.cx 32 m9 (.d y)) (some 24) (b.length) (fun cf => by kernel_rfl) (len_ws hy) ?_
    refine rs_alu [(25, boolA ((b.length : Int) == 1))] (fun cf => by kernel_rfl) ?_
    rcases hb2 : (((b.length : Int) == 1) : Bool) with _ | _
    ·
      have hb2' := beq_no hb2
      have hbl : b.length ≠ 0 := fun e => hbne (List.eq_nil_of_length_eq_zero e)
      have hn2 : 2 ≤ b.length := by omega
      have htop := nrm_top nb hbne
      have htB := hb (b.length - 1)
      have hge : val b ≤ val a := by rcases cmpL_val ha hb na nb with h | h | h <;> omega
      have hba : b.length ≤ a.length := nrm_len nb (Nat.lt_of_le_of_lt hge (val_lt ha))
      have hVs := vF_snoc b (b.length - 1) 0
      rw [show b.length - 1 + 1 = b.length by omega, vF_val (Nat.le_refl _), Nat.zero_add] at hVs
      have hnf := norm_fac hVs (vF_lt hb _ _) (Nat.pos_of_ne_zero htop)
      have hd0 := hnf.2 htB
      have hdle : 4294967296 / ((b.getD (b.length - 1) 0) + 1) ≤ 4294967296 / 2 := Nat.div_le_div_left (by omega) (by decide)
      have hpw : 4294967296 ^ (b.length - 1) * 4294967296 = 4294967296 ^ b.length := by rw [← Nat.pow_succ]; congr 1; omega
      have hvv : val (timesL b (wordsL (4294967296 / ((b.getD (b.length - 1) 0) + 1)))) = val b * (4294967296 / ((b.getD (b.length - 1) 0) + 1)) := by rw [timesL_val, val_words]
      have hva : val (timesL a (wordsL (4294967296 / ((b.getD (b.length - 1) 0) + 1)))) = val a * (4294967296 / ((b.getD (b.length - 1) 0) + 1)) := by rw [timesL_val, val_words]
      have hokd : Ok (wordsL (4294967296 / ((b.getD (b.length - 1) 0) + 1))) := ok_words (by omega)
      have hvok : Ok (timesL b (wordsL (4294967296 / ((b.getD (b.length - 1) 0) + 1)))) := timesL_ok hb hokd
      have hvlt : val (timesL b (wordsL (4294967296 / ((b.getD (b.length - 1) 0) + 1)))) < 4294967296 ^ b.length := by rw [hvv, ← hpw]; exact hnf.1
      have hvge : val b ≤ val (timesL b (wordsL (4294967296 / ((b.getD (b.length - 1) 0) + 1)))) := by rw [hvv]; exact Nat.le_mul_of_pos_right _ hd0
      have hbp := val_pos nb hbne
      have hvne : timesL b (wordsL (4294967296 / ((b.getD (b.length - 1) 0) + 1))) ≠ [] := fun e => by rw [e] at hvge; simp [val] at hvge; omega
      have hvl : (timesL b (wordsL (4294967296 / ((b.getD (b.length - 1) 0) + 1)))).length = b.length := by
        have h1 := nrm_len (timesL_nrm b (wordsL (4294967296 / ((b.getD (b.length - 1) 0) + 1)))) hvlt
        have h2 := nrm_len nb (Nat.lt_of_le_of_lt hvge (val_lt hvok))
        omega
      have hwl : (wordsL (4294967296 / ((b.getD (b.length - 1) 0) + 1))).length ≤ 1 := nrm_len (nrm_trim _) (by rw [val_words, Nat.pow_one]; omega)
      have hcopy : (timesL a (wordsL (4294967296 / ((b.getD (b.length - 1) 0) + 1)))).length ≤ a.length + 1 := by have := timesL_len a (wordsL (4294967296 / ((b.getD (b.length - 1) 0) + 1))); omega
      refine ev_false (by kernel_rfl) ?_
      refine ev_skip ?_
      refine ev_seq ?_
      refine ev_reg (by kernel_rfl) ?_
      refine rs_up 1 [(38, .d y)] (fun cf => by kernel_rfl) ?_
      refine rs_cl (fun m9 => lenA Try.cx 32 m9 (.d y)) (some 39) (b.length) (fun cf => by kernel_rfl) (len_ws hy) ?_
      refine rs_alu [(8, J (b.length : Int))] (fun cf => by kernel_rfl) ?_
      refine ev_seq ?_
      refine ev_reg (by kernel_rfl) ?_
      refine rs_up 3 [(40, .d y), (41, J (b.length : Int)), (42, J (IntKind.wrap .i64 ((b.length : Int) - 1)))] (fun cf => by kernel_rfl) ?_
      rw [subI (a := (b.length : Int)) (b := 1) (A := b.length) (B := 1) (by rfl) (by rfl) (by omega)]
      refine rs_cv (fun m9 => indexAddrA Try.cx 32 m9 (.d y) (J ((b.length - 1 : Nat) : Int))) (some 43) (.rp [.v (.int .u32 ((b.getD (b.length - 1) 0 : Nat) : Int))]) (fun cf => by kernel_rfl) (idx_ws (k := b.length - 1) hy (by rfl) (by omega)) ?_
      refine rs_up 2 [(44, intA .u32 ((b.getD (b.length - 1) 0 : Nat) : Int)), (45, intA .u64 (IntKind.wrap .u64 ((b.getD (b.length - 1) 0 : Nat) : Int)))] (fun cf => by kernel_rfl) ?_
      rw [wrapU (n := b.getD (b.length - 1) 0) (by have := hb (b.length - 1); omega)]
      refine rs_up 1 [(46, intA .u64 (IntKind.wrap .u64 (((b.getD (b.length - 1) 0 : Nat) : Int) + 1)))] (fun cf => by kernel_rfl) ?_
      rw [addU (a := ((b.getD (b.length - 1) 0 : Nat) : Int)) (b := 1) (A := b.getD (b.length - 1) 0) (B := 1) (by rfl) (by rfl) (by have := hb (b.length - 1); omega)]
      refine rs_cv (fun m9 => binA Try.cx m9 .quo 23 (intA .u64 4294967296) (intA .u64 (((b.getD (b.length - 1) 0) + 1 : Nat) : Int))) (some 47) (intA .u64 ((4294967296 / ((b.getD (b.length - 1) 0) + 1) : Nat) : Int)) (fun cf => by kernel_rfl) (quoU_at (A := 4294967296) (P := (b.getD (b.length - 1) 0) + 1) (by rfl) (by rfl) (⟨by omega, by decide⟩)) ?_
      refine rs_alu [(9, intA .u64 ((4294967296 / ((b.getD (b.length - 1) 0) + 1) : Nat) : Int))] (fun cf => by kernel_rfl) ?_
      refine ev_seq ?_
      refine ev_reg (by kernel_rfl) ?_
      refine rs_up 2 [(48, .d y), (49, intA .u64 ((4294967296 / ((b.getD (b.length - 1) 0) + 1) : Nat) : Int))] (fun cf => by kernel_rfl) ?_
      obtain ⟨y3, hy3, gy3⟩ := g_words (n := 4294967296 / ((b.getD (b.length - 1) 0) + 1)) (by omega)
      refine rs_cp 48 [intA .u64 ((4294967296 / ((b.getD (b.length - 1) 0) + 1) : Nat) : Int)] false (some 50) (.d y3) (by kernel_rfl) (gy3) (by kernel_rfl) ?_
      obtain ⟨y4, hy4, gy4⟩ := g_times hy hy3 hb (ok_words (by omega)) (by omega) (Nat.lt_of_le_of_lt hwl (by decide))
      refine rs_cp 49 [.d y, .d y3] false (some 51) (.d y4) (by kernel_rfl) (gy4) (by kernel_rfl) ?_
      refine rs_alu [(10, .d y4)] (fun cf => by kernel_rfl) ?_
      refine ev_seq ?_
      refine ev_reg (by kernel_rfl) ?_
      refine rs_up 1 [(52, .d x)] (fun cf => by kernel_rfl) ?_
      refine rs_cl (fun m9 => lenA Try.cx 32 m9 (.d x)) (some 53) (a.length) (fun cf => by kernel_rfl) (len_ws hx) ?_
      refine rs_up 1 [(54, J (IntKind.wrap .i64 ((a.length : Int) + 1)))] (fun cf => by kernel_rfl) ?_
      rw [addI (a := (a.length : Int)) (b := 1) (A := a.length) (B := 1) (by rfl) (by rfl) (by omega)]
      refine rs_co (fun m9 => opA Try.cx (fun _ => false) [J ((a.length + 1 : Nat) : Int)] m9 ⟨none, .makeSlice 32 (.tmp 0) (.tmp 0), 0, "", #[], none⟩) (some 55) (.own 0 0 0 (a.length + 1) 1 (some (a.length + 1))) ⟨[.row (wa (List.replicate (a.length + 1) 0)) 0 .ow none], 1⟩ (fun cf => by kernel_rfl) (make_ws (k := a.length + 1) (by rfl) (by omega)) ?_
      refine rs_all (s1 := ⟨[.d x, .d y, U, U, .d (.v (.slice none 0 0)), .d (.v (.slice none 0 0)), U, U, J (b.length : Int), intA .u64 ((4294967296 / ((b.getD (b.length - 1) 0) + 1) : Nat) : Int), .d y4, .own 0 0 0 (a.length + 1) 1 (some (a.length + 1))] ++ us 6 ++ [.d x, .d y, J (cmpL a b), No, U, .d y, J (b.length : Int), No] ++ us 12 ++ [.d y, J (b.length : Int), .d y, J (b.length : Int), J ((b.length - 1 : Nat) : Int), .rp [.v (.int .u32 ((b.getD (b.length - 1) 0 : Nat) : Int))], intA .u32 ((b.getD (b.length - 1) 0 : Nat) : Int), intA .u64 ((b.getD (b.length - 1) 0 : Nat) : Int), intA .u64 (((b.getD (b.length - 1) 0) + 1 : Nat) : Int), intA .u64 ((4294967296 / ((b.getD (b.length - 1) 0) + 1) : Nat) : Int), .d y, intA .u64 ((4294967296 / ((b.getD (b.length - 1) 0) + 1) : Nat) : Int), .d y3, .d y4, .d x, J (a.length : Int), J ((a.length + 1 : Nat) : Int), .own 0 0 0 (a.length + 1) 1 (some (a.length + 1))] ++ us 54, ⟨[.row (wa (List.replicate (a.length + 1) 0)) 0 .ow none], 1⟩⟩) (fun cf => by kernel_rfl) ?_
      refine ev_seq ?_
      refine ev_reg (by kernel_rfl) ?_
      refine rs_up 3 [(56, .own 0 0 0 (a.length + 1) 1 (some (a.length + 1))), (57, .d x), (58, intA .u64 ((4294967296 / ((b.getD (b.length - 1) 0) + 1) : Nat) : Int))] (fun cf => by kernel_rfl) ?_
      obtain ⟨y5, hy5, gy5⟩ := g_words (n := 4294967296 / ((b.getD (b.length - 1) 0) + 1)) (by omega)
      refine rs_cp 48 [intA .u64 ((4294967296 / ((b.getD (b.length - 1) 0) + 1) : Nat) : Int)] false (some 59) (.d y5) (by kernel_rfl) (gy5) (by kernel_rfl) ?_
      obtain ⟨y6, hy6, gy6⟩ := g_times hx hy5 ha (ok_words (by omega)) (by omega) (Nat.lt_of_le_of_lt hwl (by decide))
      refine rs_cp 49 [.d x, .d y5] false (some 60) (.d y6) (by kernel_rfl) (gy6) (by kernel_rfl) ?_
      refine rs_co (fun m9 => copyA Try.cx #[32, 32] m9 (.own 0 0 0 (a.length + 1) 1 (some (a.length + 1))) (.d y6)) (some 61) (J (((timesL a (wordsL (4294967296 / ((b.getD (b.length - 1) 0) + 1)))).length : Nat) : Int)) ⟨[.row (wa ((timesL a (wordsL (4294967296 / ((b.getD (b.length - 1) 0) + 1)))) ++ List.replicate ((a.length + 1) - (timesL a (wordsL (4294967296 / ((b.getD (b.length - 1) 0) + 1)))).length) 0)) 0 .ow none], 1⟩ (fun cf => by kernel_rfl) (copy_ws (N := (a.length + 1)) hy6 (hcopy) rfl) ?_
      refine rs_alu [] (fun cf => by kernel_rfl) ?_
      refine ev_seq ?_
      refine ev_reg (by kernel_rfl) ?_
      refine rs_up 1 [(62, .d x)] (fun cf => by kernel_rfl) ?_
      refine rs_cl (fun m9 => lenA Try.cx 32 m9 (.d x)) (some 63) (a.length) (fun cf => by kernel_rfl) (len_ws hx) ?_
      refine rs_up 2 [(64, J (b.length : Int)), (65, J (IntKind.wrap .i64 ((a.length : Int) - (b.length : Int))))] (fun cf => by kernel_rfl) ?_
      rw [subI (a := (a.length : Int)) (b := (b.length : Int)) (A := a.length) (B := b.length) (by rfl) (by rfl) (by omega)]
      refine rs_up 1 [(66, J (IntKind.wrap .i64 (((a.length - b.length : Nat) : Int) + 1)))] (fun cf => by kernel_rfl) ?_
      rw [addI (a := ((a.length - b.length : Nat) : Int)) (b := 1) (A := a.length - b.length) (B := 1) (by rfl) (by rfl) (by omega)]
      refine rs_co (fun m9 => opA Try.cx (fun _ => false) [J (((a.length - b.length) + 1 : Nat) : Int)] m9 ⟨none, .makeSlice 32 (.tmp 0) (.tmp 0), 0, "", #[], none⟩) (some 67) (.own 1 1 0 ((a.length - b.length) + 1) 1 (some ((a.length - b.length) + 1))) ⟨[.row (wa ((timesL a (wordsL (4294967296 / ((b.getD (b.length - 1) 0) + 1)))) ++ List.replicate ((a.length + 1) - (timesL a (wordsL (4294967296 / ((b.getD (b.length - 1) 0) + 1)))).length) 0)) 0 .ow none, .row (wa (List.replicate ((a.length - b.length) + 1) 0)) 1 .ow none], 2⟩ (fun cf => by kernel_rfl) (make_ws (k := (a.length - b.length) + 1) (by rfl) (by omega)) ?_
      refine rs_alu [(12, .own 1 1 0 ((a.length - b.length) + 1) 1 (some ((a.length - b.length) + 1)))] (fun cf => by kernel_rfl) ?_
      refine ev_seq ?_
      refine ev_seq ?_
      refine ev_reg (by kernel_rfl) ?_
      refine rs_up 1 [(68, .d x)] (fun cf => by kernel_rfl) ?_
      refine rs_cl (fun m9 => lenA Try.cx 32 m9 (.d x)) (some 69) (a.length) (fun cf => by kernel_rfl) (len_ws hx) ?_
      refine rs_up 2 [(70, J (b.length : Int)), (71, J (IntKind.wrap .i64 ((a.length : Int) - (b.length : Int))))] (fun cf => by kernel_rfl) ?_
      rw [subI (a := (a.length : Int)) (b := (b.length : Int)) (A := a.length) (B := b.length) (by rfl) (by rfl) (by omega)]
      refine rs_all (s1 := ⟨[.d x, .d y, U, U, .d (.v (.slice none 0 0)), .d (.v (.slice none 0 0)), U, U, J (b.length : Int), intA .u64 ((4294967296 / ((b.getD (b.length - 1) 0) + 1) : Nat) : Int), .d y4, .own 0 0 0 (a.length + 1) 1 (some (a.length + 1)), .own 1 1 0 ((a.length - b.length) + 1) 1 (some ((a.length - b.length) + 1)), J ((a.length - b.length : Nat) : Int)] ++ us 4 ++ [.d x, .d y, J (cmpL a b), No, U, .d y, J (b.length : Int), No] ++ us 12 ++ [.d y, J (b.length : Int), .d y, J (b.length : Int), J ((b.length - 1 : Nat) : Int), .rp [.v (.int .u32 ((b.getD (b.length - 1) 0 : Nat) : Int))], intA .u32 ((b.getD (b.length - 1) 0 : Nat) : Int), intA .u64 ((b.getD (b.length - 1) 0 : Nat) : Int), intA .u64 (((b.getD (b.length - 1) 0) + 1 : Nat) : Int), intA .u64 ((4294967296 / ((b.getD (b.length - 1) 0) + 1) : Nat) : Int), .d y, intA .u64 ((4294967296 / ((b.getD (b.length - 1) 0) + 1) : Nat) : Int), .d y3, .d y4, .d x, J (a.length : Int), J ((a.length + 1 : Nat) : Int), .own 0 0 0 (a.length + 1) 1 (some (a.length + 1)), .own 0 0 0 (a.length + 1) 1 (some (a.length + 1)), .d x, intA .u64 ((4294967296 / ((b.getD (b.length - 1) 0) + 1) : Nat) : Int), .d y5, .d y6, J (((timesL a (wordsL (4294967296 / ((b.getD (b.length - 1) 0) + 1)))).length : Nat) : Int), .d x, J (a.length : Int), J (b.length : Int), J ((a.length - b.length : Nat) : Int), J (((a.length - b.length) + 1 : Nat) : Int), .own 1 1 0 ((a.length - b.length) + 1) 1 (some ((a.length - b.length) + 1)), .d x, J (a.length : Int), J (b.length : Int), J ((a.length - b.length : Nat) : Int)] ++ us 38, ⟨[.row (wa ((timesL a (wordsL (4294967296 / ((b.getD (b.length - 1) 0) + 1)))) ++ List.replicate ((a.length + 1) - (timesL a (wordsL (4294967296 / ((b.getD (b.length - 1) 0) + 1)))).length) 0)) 0 .ow none, .row (wa (List.replicate ((a.length - b.length) + 1) 0)) 1 .ow none], 2⟩⟩) (fun cf => by kernel_rfl) ?_
      refine ev_block ?_
      have e13 : ((a.length - b.length : Nat) : Int) = (((a.length - b.length + 1 : Nat) : Int) - 1) := by omega
      rw [e13]
      have happ : List.replicate (a.length - b.length + 1) 0 = List.replicate (a.length - b.length + 1) 0 ++ ([] : List Nat) := (List.append_nil _).symm
      rw [happ]
      have hu0 : val ((timesL a (wordsL (4294967296 / ((b.getD (b.length - 1) 0) + 1)))) ++ List.replicate (a.length + 1 - (timesL a (wordsL (4294967296 / ((b.getD (b.length - 1) 0) + 1)))).length) 0) = val a * (4294967296 / ((b.getD (b.length - 1) 0) + 1)) := by rw [val_append, val_zeros, Nat.mul_zero, Nat.add_zero, hva]
      have hul0 : ((timesL a (wordsL (4294967296 / ((b.getD (b.length - 1) 0) + 1)))) ++ List.replicate (a.length + 1 - (timesL a (wordsL (4294967296 / ((b.getD (b.length - 1) 0) + 1)))).length) 0).length = a.length + 1 := by rw [List.length_append, List.length_replicate]; omega
      have huok : Ok ((timesL a (wordsL (4294967296 / ((b.getD (b.length - 1) 0) + 1)))) ++ List.replicate (a.length + 1 - (timesL a (wordsL (4294967296 / ((b.getD (b.length - 1) 0) + 1)))).length) 0) := ok_append (timesL_ok ha hokd) (ok_zeros _)
      refine div_loop (a := a) (b := b) (la := a.length) (n := b.length) _ _ _ _ _ _ _ _ _ _ _ _ _ _ _ _ _ _ _ _ _ _ _ _ _ _ _ _ _ _ _ _ _ _ _ _ _ _ _ _ _ _ _ _ _ _ _ _ _ _ _ _ _ _ _ _ hy4 hvok hvl hn2 (by have := nrm_top (timesL_nrm b (wordsL (4294967296 / ((b.getD (b.length - 1) 0) + 1)))) hvne; rwa [hvl] at this) hba (by omega) (a.length - b.length + 1) ((timesL a (wordsL (4294967296 / ((b.getD (b.length - 1) 0) + 1)))) ++ List.replicate (a.length + 1 - (timesL a (wordsL (4294967296 / ((b.getD (b.length - 1) 0) + 1)))).length) 0) [] _ _ _ _ _ _ _ _ _ _ _ _ _ _ _ _ _ _ _ _ _ _ _ _ _ _ _ _ _ _ (by simp) huok hul0 ?_ (fun k hk => getD_out (by omega)) fun ul' ql' v14 v15 v72 v73 v74 v75 v76 v77 v78 v79 v80 v81 v82 v83 v84 v85 v86 v87 v88 v89 v90 v91 v92 v93 v94 v95 v96 v97 v98 v99 o1 o2 o3 o4 o5 o6 o7 => ?_
      · have hsp := vF_split ((timesL a (wordsL (4294967296 / ((b.getD (b.length - 1) 0) + 1)))) ++ List.replicate (a.length + 1 - (timesL a (wordsL (4294967296 / ((b.getD (b.length - 1) 0) + 1)))).length) 0) (a.length - b.length + 1) b.length 0
        rw [vF_val (a := (timesL a (wordsL (4294967296 / ((b.getD (b.length - 1) 0) + 1)))) ++ List.replicate (a.length + 1 - (timesL a (wordsL (4294967296 / ((b.getD (b.length - 1) 0) + 1)))).length) 0) (by rw [hul0]; omega), hu0, Nat.zero_add] at hsp
        exact high_lt hsp (by rw [hvv]) hd0 (val_lt ha) (nrm_low nb hbne) (by rw [← Nat.pow_add]; congr 1; omega)
      rw [List.append_nil]
      rw [show a.length - b.length + 1 + b.length = a.length + 1 by omega, vF_val (a := (timesL a (wordsL (4294967296 / ((b.getD (b.length - 1) 0) + 1)))) ++ List.replicate (a.length + 1 - (timesL a (wordsL (4294967296 / ((b.getD (b.length - 1) 0) + 1)))).length) 0) (r := a.length + 1) (by rw [hul0]; exact Nat.le_refl _), hu0, hvv, vF_low o7] at o5
      rw [vF_low o7, hvv] at o6
      have hfin := div_back hd0 hbp o5 o6
      rw [← e13]
      refine ev_seq ?_
      refine ev_reg (by kernel_rfl) ?_
      refine rs_up 1 [(101, .own 0 0 0 (a.length + 1) 1 (some (a.length + 1)))] (fun cf => by kernel_rfl) ?_
      refine rs_take 0 (s1 := ⟨[.d x, .d y, U, U, .d (.v (.slice none 0 0)), .d (.v (.slice none 0 0)), U, U, J (b.length : Int), intA .u64 ((4294967296 / ((b.getD (b.length - 1) 0) + 1) : Nat) : Int), .d y4, .own 0 0 0 (a.length + 1) 1 (some (a.length + 1)), .own 1 1 0 ((a.length - b.length) + 1) 1 (some ((a.length - b.length) + 1)), J (-1), v14, v15, U, U, .d x, .d y, J (cmpL a b), No, U, .d y, J (b.length : Int), No] ++ us 12 ++ [.d y, J (b.length : Int), .d y, J (b.length : Int), J ((b.length - 1 : Nat) : Int), .rp [.v (.int .u32 ((b.getD (b.length - 1) 0 : Nat) : Int))], intA .u32 ((b.getD (b.length - 1) 0 : Nat) : Int), intA .u64 ((b.getD (b.length - 1) 0 : Nat) : Int), intA .u64 (((b.getD (b.length - 1) 0) + 1 : Nat) : Int), intA .u64 ((4294967296 / ((b.getD (b.length - 1) 0) + 1) : Nat) : Int), .d y, intA .u64 ((4294967296 / ((b.getD (b.length - 1) 0) + 1) : Nat) : Int), .d y3, .d y4, .d x, J (a.length : Int), J ((a.length + 1 : Nat) : Int), .own 0 0 0 (a.length + 1) 1 (some (a.length + 1)), .own 0 0 0 (a.length + 1) 1 (some (a.length + 1)), .d x, intA .u64 ((4294967296 / ((b.getD (b.length - 1) 0) + 1) : Nat) : Int), .d y5, .d y6, J (((timesL a (wordsL (4294967296 / ((b.getD (b.length - 1) 0) + 1)))).length : Nat) : Int), .d x, J (a.length : Int), J (b.length : Int), J ((a.length - b.length : Nat) : Int), J (((a.length - b.length) + 1 : Nat) : Int), .own 1 1 0 ((a.length - b.length) + 1) 1 (some ((a.length - b.length) + 1)), .d x, J (a.length : Int), J (b.length : Int), J ((a.length - b.length : Nat) : Int), v72, v73, v74, v75, v76, v77, v78, v79, v80, v81, v82, v83, v84, v85, v86, v87, v88, v89, v90, v91, v92, v93, v94, v95, v96, v97, v98, v99, U, .own 0 0 0 (a.length + 1) 1 (some (a.length + 1))] ++ us 8, ⟨[.row (wa (ul')) 0 .ow none, .row (wa (ql')) 1 .ow none], 2⟩⟩) (fun cf => by kernel_rfl) ?_
      obtain ⟨y7, hy7, gy7⟩ := g_trim (ws_sl false ul') (by omega)
      refine rs_frz (g := 74) (bs := [.d (.sl false ul'.length (wd ul'))]) (ow := true) (r := .d y7) (Eq.trans (b := match mapO (snapA (⟨[.row (wa (ul')) 0 .ow none, .row (wa (ql')) 1 .ow none], 2⟩ : Mem)) [.own 0 0 0 (a.length + 1) 1 (some (a.length + 1))] with | some bs => some (74, bs, true) | none => none) (by kernel_rfl) (by rw [mapO_one (snap_own (l := ul') (row_at rfl) (by omega))])) (gy7) fun m1 hEm1 _ => ?_
      show RS _ _ _ _ _ ⟨[.d x, .d y, U, U, .d (.v (.slice none 0 0)), .d (.v (.slice none 0 0)), U, U, J (b.length : Int), intA .u64 ((4294967296 / ((b.getD (b.length - 1) 0) + 1) : Nat) : Int), .d y4, .own 0 0 0 (a.length + 1) 1 (some (a.length + 1)), .own 1 1 0 ((a.length - b.length) + 1) 1 (some ((a.length - b.length) + 1)), J (-1), v14, v15, U, U, .d x, .d y, J (cmpL a b), No, U, .d y, J (b.length : Int), No] ++ us 12 ++ [.d y, J (b.length : Int), .d y, J (b.length : Int), J ((b.length - 1 : Nat) : Int), .rp [.v (.int .u32 ((b.getD (b.length - 1) 0 : Nat) : Int))], intA .u32 ((b.getD (b.length - 1) 0 : Nat) : Int), intA .u64 ((b.getD (b.length - 1) 0 : Nat) : Int), intA .u64 (((b.getD (b.length - 1) 0) + 1 : Nat) : Int), intA .u64 ((4294967296 / ((b.getD (b.length - 1) 0) + 1) : Nat) : Int), .d y, intA .u64 ((4294967296 / ((b.getD (b.length - 1) 0) + 1) : Nat) : Int), .d y3, .d y4, .d x, J (a.length : Int), J ((a.length + 1 : Nat) : Int), .own 0 0 0 (a.length + 1) 1 (some (a.length + 1)), .own 0 0 0 (a.length + 1) 1 (some (a.length + 1)), .d x, intA .u64 ((4294967296 / ((b.getD (b.length - 1) 0) + 1) : Nat) : Int), .d y5, .d y6, J (((timesL a (wordsL (4294967296 / ((b.getD (b.length - 1) 0) + 1)))).length : Nat) : Int), .d x, J (a.length : Int), J (b.length : Int), J ((a.length - b.length : Nat) : Int), J (((a.length - b.length) + 1 : Nat) : Int), .own 1 1 0 ((a.length - b.length) + 1) 1 (some ((a.length - b.length) + 1)), .d x, J (a.length : Int), J (b.length : Int), J ((a.length - b.length : Nat) : Int), v72, v73, v74, v75, v76, v77, v78, v79, v80, v81, v82, v83, v84, v85, v86, v87, v88, v89, v90, v91, v92, v93, v94, v95, v96, v97, v98, v99, U, .own 0 0 0 (a.length + 1) 1 (some (a.length + 1)), .d y7] ++ us 7, m1⟩ _
      refine rs_up 1 [(103, intA .u64 ((4294967296 / ((b.getD (b.length - 1) 0) + 1) : Nat) : Int))] (fun cf => by kernel_rfl) ?_
      obtain ⟨y8, hy8, gy8⟩ := g_shortly (d := 4294967296 / ((b.getD (b.length - 1) 0) + 1)) hy7 (ok_trim o1) (by have := len_trim ul'; omega) (by omega) (by omega)
      refine rs_cp 84 [.d y7, intA .u64 ((4294967296 / ((b.getD (b.length - 1) 0) + 1) : Nat) : Int)] false (some 104) (.tu [.d y8, intA .u64 ((shR (trimL ul') (4294967296 / ((b.getD (b.length - 1) 0) + 1)) (trimL ul').length 0 : Nat) : Int)]) (by kernel_rfl) (gy8) (by kernel_rfl) ?_
      refine rs_alu [(16, .d y8), (17, intA .u64 ((shR (trimL ul') (4294967296 / ((b.getD (b.length - 1) 0) + 1)) (trimL ul').length 0 : Nat) : Int)), (100, .tu [.d y8, intA .u64 ((shR (trimL ul') (4294967296 / ((b.getD (b.length - 1) 0) + 1)) (trimL ul').length 0 : Nat) : Int)]), (105, .d y8), (106, intA .u64 ((shR (trimL ul') (4294967296 / ((b.getD (b.length - 1) 0) + 1)) (trimL ul').length 0 : Nat) : Int))] (fun cf => by kernel_rfl) ?_
      refine ev_seq ?_
      refine ev_reg (by kernel_rfl) ?_
      refine rs_up 1 [(107, .own 1 1 0 ((a.length - b.length) + 1) 1 (some ((a.length - b.length) + 1)))] (fun cf => by kernel_rfl) ?_
      refine rs_take 0 (s1 := ⟨[.d x, .d y, U, U, .d (.v (.slice none 0 0)), .d (.v (.slice none 0 0)), U, U, J (b.length : Int), intA .u64 ((4294967296 / ((b.getD (b.length - 1) 0) + 1) : Nat) : Int), .d y4, .own 0 0 0 (a.length + 1) 1 (some (a.length + 1)), .own 1 1 0 ((a.length - b.length) + 1) 1 (some ((a.length - b.length) + 1)), J (-1), v14, v15, .d y8, intA .u64 ((shR (trimL ul') (4294967296 / ((b.getD (b.length - 1) 0) + 1)) (trimL ul').length 0 : Nat) : Int), .d x, .d y, J (cmpL a b), No, U, .d y, J (b.length : Int), No] ++ us 12 ++ [.d y, J (b.length : Int), .d y, J (b.length : Int), J ((b.length - 1 : Nat) : Int), .rp [.v (.int .u32 ((b.getD (b.length - 1) 0 : Nat) : Int))], intA .u32 ((b.getD (b.length - 1) 0 : Nat) : Int), intA .u64 ((b.getD (b.length - 1) 0 : Nat) : Int), intA .u64 (((b.getD (b.length - 1) 0) + 1 : Nat) : Int), intA .u64 ((4294967296 / ((b.getD (b.length - 1) 0) + 1) : Nat) : Int), .d y, intA .u64 ((4294967296 / ((b.getD (b.length - 1) 0) + 1) : Nat) : Int), .d y3, .d y4, .d x, J (a.length : Int), J ((a.length + 1 : Nat) : Int), .own 0 0 0 (a.length + 1) 1 (some (a.length + 1)), .own 0 0 0 (a.length + 1) 1 (some (a.length + 1)), .d x, intA .u64 ((4294967296 / ((b.getD (b.length - 1) 0) + 1) : Nat) : Int), .d y5, .d y6, J (((timesL a (wordsL (4294967296 / ((b.getD (b.length - 1) 0) + 1)))).length : Nat) : Int), .d x, J (a.length : Int), J (b.length : Int), J ((a.length - b.length : Nat) : Int), J (((a.length - b.length) + 1 : Nat) : Int), .own 1 1 0 ((a.length - b.length) + 1) 1 (some ((a.length - b.length) + 1)), .d x, J (a.length : Int), J (b.length : Int), J ((a.length - b.length : Nat) : Int), v72, v73, v74, v75, v76, v77, v78, v79, v80, v81, v82, v83, v84, v85, v86, v87, v88, v89, v90, v91, v92, v93, v94, v95, v96, v97, v98, v99, .tu [.d y8, intA .u64 ((shR (trimL ul') (4294967296 / ((b.getD (b.length - 1) 0) + 1)) (trimL ul').length 0 : Nat) : Int)], .own 0 0 0 (a.length + 1) 1 (some (a.length + 1)), .d y7, intA .u64 ((4294967296 / ((b.getD (b.length - 1) 0) + 1) : Nat) : Int), .tu [.d y8, intA .u64 ((shR (trimL ul') (4294967296 / ((b.getD (b.length - 1) 0) + 1)) (trimL ul').length 0 : Nat) : Int)], .d y8, intA .u64 ((shR (trimL ul') (4294967296 / ((b.getD (b.length - 1) 0) + 1)) (trimL ul').length 0 : Nat) : Int), .own 1 1 0 ((a.length - b.length) + 1) 1 (some ((a.length - b.length) + 1)), U, U], m1⟩) (fun cf => by kernel_rfl) ?_
      obtain ⟨y9, hy9, gy9⟩ := g_trim (ws_sl false ql') (by omega)
      refine rs_frz (g := 74) (bs := [.d (.sl false ql'.length (wd ql'))]) (ow := true) (r := .d y9) (Eq.trans (b := match mapO (snapA (m1 : Mem)) [.own 1 1 0 ((a.length - b.length) + 1) 1 (some ((a.length - b.length) + 1))] with | some bs => some (74, bs, true) | none => none) (by kernel_rfl) (by rw [mapO_one (snap_own (l := ql') (hEm1.r (row_at rfl)) (by omega))])) (gy9) fun m2 hEm2 _ => ?_
      show RS _ _ _ _ _ ⟨[.d x, .d y, U, U, .d (.v (.slice none 0 0)), .d (.v (.slice none 0 0)), U, U, J (b.length : Int), intA .u64 ((4294967296 / ((b.getD (b.length - 1) 0) + 1) : Nat) : Int), .d y4, .own 0 0 0 (a.length + 1) 1 (some (a.length + 1)), .own 1 1 0 ((a.length - b.length) + 1) 1 (some ((a.length - b.length) + 1)), J (-1), v14, v15, .d y8, intA .u64 ((shR (trimL ul') (4294967296 / ((b.getD (b.length - 1) 0) + 1)) (trimL ul').length 0 : Nat) : Int), .d x, .d y, J (cmpL a b), No, U, .d y, J (b.length : Int), No] ++ us 12 ++ [.d y, J (b.length : Int), .d y, J (b.length : Int), J ((b.length - 1 : Nat) : Int), .rp [.v (.int .u32 ((b.getD (b.length - 1) 0 : Nat) : Int))], intA .u32 ((b.getD (b.length - 1) 0 : Nat) : Int), intA .u64 ((b.getD (b.length - 1) 0 : Nat) : Int), intA .u64 (((b.getD (b.length - 1) 0) + 1 : Nat) : Int), intA .u64 ((4294967296 / ((b.getD (b.length - 1) 0) + 1) : Nat) : Int), .d y, intA .u64 ((4294967296 / ((b.getD (b.length - 1) 0) + 1) : Nat) : Int), .d y3, .d y4, .d x, J (a.length : Int), J ((a.length + 1 : Nat) : Int), .own 0 0 0 (a.length + 1) 1 (some (a.length + 1)), .own 0 0 0 (a.length + 1) 1 (some (a.length + 1)), .d x, intA .u64 ((4294967296 / ((b.getD (b.length - 1) 0) + 1) : Nat) : Int), .d y5, .d y6, J (((timesL a (wordsL (4294967296 / ((b.getD (b.length - 1) 0) + 1)))).length : Nat) : Int), .d x, J (a.length : Int), J (b.length : Int), J ((a.length - b.length : Nat) : Int), J (((a.length - b.length) + 1 : Nat) : Int), .own 1 1 0 ((a.length - b.length) + 1) 1 (some ((a.length - b.length) + 1)), .d x, J (a.length : Int), J (b.length : Int), J ((a.length - b.length : Nat) : Int), v72, v73, v74, v75, v76, v77, v78, v79, v80, v81, v82, v83, v84, v85, v86, v87, v88, v89, v90, v91, v92, v93, v94, v95, v96, v97, v98, v99, .tu [.d y8, intA .u64 ((shR (trimL ul') (4294967296 / ((b.getD (b.length - 1) 0) + 1)) (trimL ul').length 0 : Nat) : Int)], .own 0 0 0 (a.length + 1) 1 (some (a.length + 1)), .d y7, intA .u64 ((4294967296 / ((b.getD (b.length - 1) 0) + 1) : Nat) : Int), .tu [.d y8, intA .u64 ((shR (trimL ul') (4294967296 / ((b.getD (b.length - 1) 0) + 1)) (trimL ul').length 0 : Nat) : Int)], .d y8, intA .u64 ((shR (trimL ul') (4294967296 / ((b.getD (b.length - 1) 0) + 1)) (trimL ul').length 0 : Nat) : Int), .own 1 1 0 ((a.length - b.length) + 1) 1 (some ((a.length - b.length) + 1)), .d y9, U], m2⟩ _
      refine rs_all (s1 := ⟨[.d x, .d y, U, U, .d y9, .d y8, U, U, J (b.length : Int), intA .u64 ((4294967296 / ((b.getD (b.length - 1) 0) + 1) : Nat) : Int), .d y4, .own 0 0 0 (a.length + 1) 1 (some (a.length + 1)), .own 1 1 0 ((a.length - b.length) + 1) 1 (some ((a.length - b.length) + 1)), J (-1), v14, v15, .d y8, intA .u64 ((shR (trimL ul') (4294967296 / ((b.getD (b.length - 1) 0) + 1)) (trimL ul').length 0 : Nat) : Int), .d x, .d y, J (cmpL a b), No, U, .d y, J (b.length : Int), No] ++ us 12 ++ [.d y, J (b.length : Int), .d y, J (b.length : Int), J ((b.length - 1 : Nat) : Int), .rp [.v (.int .u32 ((b.getD (b.length - 1) 0 : Nat) : Int))], intA .u32 ((b.getD (b.length - 1) 0 : Nat) : Int), intA .u64 ((b.getD (b.length - 1) 0 : Nat) : Int), intA .u64 (((b.getD (b.length - 1) 0) + 1 : Nat) : Int), intA .u64 ((4294967296 / ((b.getD (b.length - 1) 0) + 1) : Nat) : Int), .d y, intA .u64 ((4294967296 / ((b.getD (b.length - 1) 0) + 1) : Nat) : Int), .d y3, .d y4, .d x, J (a.length : Int), J ((a.length + 1 : Nat) : Int), .own 0 0 0 (a.length + 1) 1 (some (a.length + 1)), .own 0 0 0 (a.length + 1) 1 (some (a.length + 1)), .d x, intA .u64 ((4294967296 / ((b.getD (b.length - 1) 0) + 1) : Nat) : Int), .d y5, .d y6, J (((timesL a (wordsL (4294967296 / ((b.getD (b.length - 1) 0) + 1)))).length : Nat) : Int), .d x, J (a.length : Int), J (b.length : Int), J ((a.length - b.length : Nat) : Int), J (((a.length - b.length) + 1 : Nat) : Int), .own 1 1 0 ((a.length - b.length) + 1) 1 (some ((a.length - b.length) + 1)), .d x, J (a.length : Int), J (b.length : Int), J ((a.length - b.length : Nat) : Int), v72, v73, v74, v75, v76, v77, v78, v79, v80, v81, v82, v83, v84, v85, v86, v87, v88, v89, v90, v91, v92, v93, v94, v95, v96, v97, v98, v99, .tu [.d y8, intA .u64 ((shR (trimL ul') (4294967296 / ((b.getD (b.length - 1) 0) + 1)) (trimL ul').length 0 : Nat) : Int)], .own 0 0 0 (a.length + 1) 1 (some (a.length + 1)), .d y7, intA .u64 ((4294967296 / ((b.getD (b.length - 1) 0) + 1) : Nat) : Int), .tu [.d y8, intA .u64 ((shR (trimL ul') (4294967296 / ((b.getD (b.length - 1) 0) + 1)) (trimL ul').length 0 : Nat) : Int)], .d y8, intA .u64 ((shR (trimL ul') (4294967296 / ((b.getD (b.length - 1) 0) + 1)) (trimL ul').length 0 : Nat) : Int), .own 1 1 0 ((a.length - b.length) + 1) 1 (some ((a.length - b.length) + 1)), .d y9, .d y8], m2⟩) (fun cf => by kernel_rfl) ?_
      refine ev_ret ?_
      exact ⟨(y9, y8), ⟨trimL ql', quoS (trimL ul') (4294967296 / ((b.getD (b.length - 1) 0) + 1)), hy9, hy8, ok_trim o3, ok_trim (shW_ok (ok_trim o1) hd0 _ _ hd0), nrm_trim _, nrm_trim _, by rw [val_trim]; exact hfin.1, by rw [(quoS_val hd0).1, val_trim]; exact hfin.2⟩, .inr rfl, .tu [.d y9, .d y8], by kernel_rfl, by kernel_rfl⟩
    ·
      have hb2' := beq_yes hb2
      have hb0w : b.getD 0 0 ≠ 0 := by have := nrm_top nb hbne; rwa [show b.length - 1 = 0 by omega] at this
      have hbB := hb 0
      have hvb : val b = b.getD 0 0 := by rw [← vF_val (a := b) (r := 1) (by omega)]; simp [vF]
      refine ev_true (by kernel_rfl) ?_
      refine ev_seq ?_
      refine ev_reg (by kernel_rfl) ?_
      refine rs_up 2 [(27, .d x), (28, .d y)] (fun cf => by kernel_rfl) ?_
      refine rs_cv (fun m9 => indexAddrA Try.cx 32 m9 (.d y) (J 0)) (some 29) (.rp [.v (.int .u32 ((b.getD 0 0 : Nat) : Int))]) (fun cf => by kernel_rfl) (idx_ws (k := 0) hy (by rfl) (by omega)) ?_
      refine rs_up 2 [(30, intA .u32 ((b.getD 0 0 : Nat) : Int)), (31, intA .u64 (IntKind.wrap .u64 ((b.getD 0 0 : Nat) : Int)))] (fun cf => by kernel_rfl) ?_
      rw [wrapU (n := b.getD 0 0) (by have := hb 0; omega)]
      obtain ⟨y10, hy10, gy10⟩ := g_shortly (d := b.getD 0 0) hx ha (by omega) (by omega) (by omega)
      refine rs_cp 84 [.d x, intA .u64 ((b.getD 0 0 : Nat) : Int)] false (some 32) (.tu [.d y10, intA .u64 ((shR a (b.getD 0 0) a.length 0 : Nat) : Int)]) (by kernel_rfl) (gy10) (by kernel_rfl) ?_
      refine rs_alu [(6, .d y10), (7, intA .u64 ((shR a (b.getD 0 0) a.length 0 : Nat) : Int)), (26, .tu [.d y10, intA .u64 ((shR a (b.getD 0 0) a.length 0 : Nat) : Int)]), (33, .d y10), (34, intA .u64 ((shR a (b.getD 0 0) a.length 0 : Nat) : Int))] (fun cf => by kernel_rfl) ?_
      refine ev_seq ?_
      refine ev_reg (by kernel_rfl) ?_
      refine rs_up 2 [(35, .d y10), (36, intA .u64 ((shR a (b.getD 0 0) a.length 0 : Nat) : Int))] (fun cf => by kernel_rfl) ?_
      obtain ⟨y11, hy11, gy11⟩ := g_words (n := shR a (b.getD 0 0) a.length 0) (by have := shR_lt a (d := b.getD 0 0) (by omega) a.length 0; have := hb 0; omega)
      refine rs_cp 48 [intA .u64 ((shR a (b.getD 0 0) a.length 0 : Nat) : Int)] false (some 37) (.d y11) (by kernel_rfl) (gy11) (by kernel_rfl) ?_
      refine rs_all (s1 := ⟨[.d x, .d y, U, U, .d y10, .d y11, .d y10, intA .u64 ((shR a (b.getD 0 0) a.length 0 : Nat) : Int)] ++ us 10 ++ [.d x, .d y, J (cmpL a b), No, U, .d y, J (b.length : Int), Yes, .tu [.d y10, intA .u64 ((shR a (b.getD 0 0) a.length 0 : Nat) : Int)], .d x, .d y, .rp [.v (.int .u32 ((b.getD 0 0 : Nat) : Int))], intA .u32 ((b.getD 0 0 : Nat) : Int), intA .u64 ((b.getD 0 0 : Nat) : Int), .tu [.d y10, intA .u64 ((shR a (b.getD 0 0) a.length 0 : Nat) : Int)], .d y10, intA .u64 ((shR a (b.getD 0 0) a.length 0 : Nat) : Int), .d y10, intA .u64 ((shR a (b.getD 0 0) a.length 0 : Nat) : Int), .d y11] ++ us 72, ⟨[], 0⟩⟩) (fun cf => by kernel_rfl) ?_
      refine ev_ret ?_
      exact ⟨(y10, y11), ⟨quoS a (b.getD 0 0), wordsL (shR a (b.getD 0 0) a.length 0), hy10, hy11, ok_trim (shW_ok ha (by omega) _ _ (by omega)), ok_words (by have := shR_lt a (d := b.getD 0 0) (by omega) a.length 0; omega), nrm_trim _, nrm_trim _, by rw [hvb]; exact (quoS_val (by omega)).1, by rw [val_words, hvb]; exact (quoS_val (by omega)).2⟩, .inr rfl, .tu [.d y10, .d y11], by kernel_rfl, by kernel_rfl⟩
  ·
    have hb1' := of_decide_eq_true hb1
    refine ev_true (by kernel_rfl) ?_
    refine ev_seq ?_
    refine ev_reg (by kernel_rfl) ?_
    refine rs_all (s1 := ⟨[.d x, .d y, U, U, .d (.v (.slice none 0 0)), .d x] ++ us 12 ++ [.d x, .d y, J (cmpL a b), Yes, .d x] ++ us 87, ⟨[], 0⟩⟩) (fun cf => by kernel_rfl) ?_
    refine ev_ret ?_
    exact ⟨(.v (.slice none 0 0), x), ⟨[], a, ws_nil, hx, ok_nil, ha, .inl rfl, na, by rw [Nat.div_eq_of_lt (by rcases cmpL_val ha hb na nb with h | h | h <;> omega)]; rfl, by rw [Nat.mod_eq_of_lt (by rcases cmpL_val ha hb na nb with h | h | h <;> omega)]⟩, .inr rfl, .tu [.d (.v (.slice none 0 0)), .d x], by kernel_rfl, by kernel_rfl⟩

end Go.Proofs.Ytgkjdfojogemhaa.W
