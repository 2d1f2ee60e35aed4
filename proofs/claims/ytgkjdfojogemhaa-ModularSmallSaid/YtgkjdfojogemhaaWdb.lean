/-
  The reference: words, numbers, sums. Made by program. Conditions: none.
-/
import Derived.Test.YtgkjdfojogemhaaWda
set_option maxRecDepth 100000
set_option maxHeartbeats 20000000
set_option linter.unusedSimpArgs false
set_option linter.unusedVariables false
namespace Go.Proofs.Ytgkjdfojogemhaa.W
open Go.Am
def Ok (l : List Nat) : Prop := ∀ k, l.getD k 0 < 4294967296
theorem ok_nil : Ok [] := fun k => by simp
theorem ok_cons {a : Nat} {l : List Nat} (ha : a < 4294967296) (h : Ok l) : Ok (a :: l) := fun k => by
  cases k with
  | zero => simpa using ha
  | succ k => simpa using h k
theorem ok_tail {a : Nat} {l : List Nat} (h : Ok (a :: l)) : Ok l := fun k => by simpa using h (k + 1)
theorem ok_head {a : Nat} {l : List Nat} (h : Ok (a :: l)) : a < 4294967296 := by simpa using h 0
theorem ok_take {l : List Nat} (n : Nat) (h : Ok l) : Ok (l.take n) := fun k => by
  rw [List.getD_eq_getElem?_getD, List.getElem?_take]
  split
  · rw [← List.getD_eq_getElem?_getD]; exact h k
  · decide
theorem ok_zeros (n : Nat) : Ok (List.replicate n 0) := fun k => by
  rw [List.getD_eq_getElem?_getD, List.getElem?_replicate]
  split <;> decide
theorem ok_set {l : List Nat} {i v : Nat} (h : Ok l) (hv : v < 4294967296) : Ok (l.set i v) := fun k => by
  rw [List.getD_eq_getElem?_getD, List.getElem?_set]
  split
  · split
    · simpa using hv
    · decide
  · rw [← List.getD_eq_getElem?_getD]; exact h k
def val : List Nat → Nat
  | [] => 0
  | a :: l => a + 4294967296 * val l
def Nrm (l : List Nat) : Prop := l = [] ∨ l.getD (l.length - 1) 0 ≠ 0
def trimN (l : List Nat) : Nat → Nat
  | 0 => 0
  | n + 1 => if l.getD n 0 = 0 then trimN l n else n + 1
def trimL (l : List Nat) : List Nat := l.take (trimN l l.length)
theorem trimN_le (l : List Nat) : ∀ n, trimN l n ≤ n
  | 0 => Nat.le_refl _
  | n + 1 => by
    have := trimN_le l n
    simp only [trimN]
    split <;> omega
theorem val_take_all : ∀ (l : List Nat) (n : Nat), (∀ k, n ≤ k → l.getD k 0 = 0) → val (l.take n) = val l
  | [], n, _ => by simp
  | a :: l, 0, h => by
    have h0 : a = 0 := by simpa using h 0 (Nat.le_refl _)
    have ih := val_take_all l 0 fun k _ => by simpa using h (k + 1) (Nat.zero_le _)
    rw [List.take_zero] at ih ⊢
    rw [h0]
    show 0 = 0 + 4294967296 * val l
    rw [← ih]
    rfl
  | a :: l, n + 1, h => by
    simp only [List.take_succ_cons, val]
    rw [val_take_all l n fun k hk => by simpa using h (k + 1) (Nat.succ_le_succ hk)]
theorem trimN_zero (l : List Nat) : ∀ n k, trimN l n ≤ k → k < n → l.getD k 0 = 0
  | 0, k, _, h => by omega
  | n + 1, k, h1, h2 => by
    simp only [trimN] at h1
    split at h1
    · rename_i h0
      by_cases hk : k = n
      · subst hk; exact h0
      · exact trimN_zero l n k h1 (by omega)
    · omega
theorem getD_out {l : List Nat} {k : Nat} (h : l.length ≤ k) : l.getD k 0 = 0 := by
  rw [List.getD_eq_getElem?_getD, List.getElem?_eq_none h]; rfl
theorem val_trim (l : List Nat) : val (trimL l) = val l := val_take_all l _ fun k hk => by
  by_cases h : k < l.length
  · exact trimN_zero l l.length k hk h
  · exact getD_out (by omega)
theorem trimN_last (l : List Nat) : ∀ n, trimN l n = 0 ∨ 0 < trimN l n ∧ l.getD (trimN l n - 1) 0 ≠ 0
  | 0 => .inl rfl
  | n + 1 => by
    simp only [trimN]
    split
    · exact trimN_last l n
    · rename_i h; exact .inr ⟨Nat.succ_pos n, by simpa using h⟩
theorem nrm_trim (l : List Nat) : Nrm (trimL l) := by
  have hle := trimN_le l l.length
  rcases trimN_last l l.length with h | ⟨h0, h⟩
  · left; unfold trimL; rw [h, List.take_zero]
  · right
    unfold trimL
    rw [List.length_take, Nat.min_eq_left hle, List.getD_eq_getElem?_getD, List.getElem?_take, if_pos (by omega), ← List.getD_eq_getElem?_getD]
    exact h
theorem ok_trim {l : List Nat} (h : Ok l) : Ok (trimL l) := ok_take _ h
theorem len_trim (l : List Nat) : (trimL l).length ≤ l.length := by unfold trimL; rw [List.length_take]; omega
noncomputable def trimC : Code := (lft (lft (lft (rgt (rgt (Try.f74.body.getD .skip))))))
theorem trim_round {K : Out → St → Prop} {l : List Nat} {x : D} {n : Nat} (x4 x5 : AV) (hx : Ws l x) (hn : n ≤ l.length) (hl : l.length < 1000000000) (z6 z7 z8 z9 z10 z11 z12 z13 z14 z15 z16 z17 : AV) (h0 : ∀ z6 z7 z8 z9 z10 z11 z12 z13 z14 z15 z16 z17, (n = 0 ∨ l.getD (n - 1) 0 ≠ 0) → K (.exit 0) ⟨[.d x, U, .d (.v (.slice none 0 0)), J (n : Int), x4, x5, z6, z7, z8, z9, z10, z11, z12, z13, z14, z15, z16, z17] ++ us 3, ⟨[], 0⟩⟩) (h1 : ∀ z6 z7 z8 z9 z10 z11 z12 z13 z14 z15 z16 z17, 0 < n → l.getD (n - 1) 0 = 0 → EvK Try.cx 74 (.loop trimC) ⟨[.d x, U, .d (.v (.slice none 0 0)), J ((n - 1 : Nat) : Int), x4, x5, z6, z7, z8, z9, z10, z11, z12, z13, z14, z15, z16, z17] ++ us 3, ⟨[], 0⟩⟩ K) : EvK Try.cx 74 (.loop trimC) ⟨[.d x, U, .d (.v (.slice none 0 0)), J (n : Int), x4, x5, z6, z7, z8, z9, z10, z11, z12, z13, z14, z15, z16, z17] ++ us 3, ⟨[], 0⟩⟩ K := by
  refine ev_loop ?_
  refine ev_seq ?_
  refine ev_seq ?_
  refine ev_reg (by kernel_rfl) ?_
  refine rs_up 3 [(6, J (n : Int)), (7, boolA (decide ((n : Int) > 0))), (8, boolA (decide ((n : Int) > 0)))] (fun cf => by kernel_rfl) ?_
  rcases hb1 : ((decide ((n : Int) > 0)) : Bool) with _ | _
  ·
    have hb1' := of_decide_eq_false hb1
    refine rs_all (s1 := ⟨[.d x, U, .d (.v (.slice none 0 0)), J (n : Int), x4, x5, J (n : Int), No, No] ++ us 6 ++ [No, z16, z17] ++ us 3, ⟨[], 0⟩⟩) (fun cf => by kernel_rfl) ?_
    refine ev_false (by kernel_rfl) ?_
    refine ev_exit ?_
    exact h0 _ _ _ _ _ _ _ _ _ _ _ _ (by omega)
  ·
    have hb1' := of_decide_eq_true hb1
    refine rs_up 3 [(9, .d x), (10, J (n : Int)), (11, J (IntKind.wrap .i64 ((n : Int) - 1)))] (fun cf => by kernel_rfl) ?_
    rw [subI (a := (n : Int)) (b := 1) (A := n) (B := 1) (by rfl) (by rfl) (by omega)]
    refine rs_cv (fun m9 => indexAddrA Try.cx 32 m9 (.d x) (J ((n - 1 : Nat) : Int))) (some 12) (.rp [.v (.int .u32 ((l.getD (n - 1) 0 : Nat) : Int))]) (fun cf => by kernel_rfl) (idx_ws (k := n - 1) hx (by rfl) (by omega)) ?_
    refine rs_all (s1 := ⟨[.d x, U, .d (.v (.slice none 0 0)), J (n : Int), x4, x5, J (n : Int), Yes, Yes, .d x, J (n : Int), J ((n - 1 : Nat) : Int), .rp [.v (.int .u32 ((l.getD (n - 1) 0 : Nat) : Int))], intA .u32 ((l.getD (n - 1) 0 : Nat) : Int), boolA (((l.getD (n - 1) 0 : Nat) : Int) == 0), boolA (((l.getD (n - 1) 0 : Nat) : Int) == 0), z16, z17] ++ us 3, ⟨[], 0⟩⟩) (fun cf => by kernel_rfl) ?_
    rcases hb2 : ((((l.getD (n - 1) 0 : Nat) : Int) == 0) : Bool) with _ | _
    ·
      have hb2' := beq_no hb2
      refine ev_false (by kernel_rfl) ?_
      refine ev_exit ?_
      exact h0 _ _ _ _ _ _ _ _ _ _ _ _ (by omega)
    ·
      have hb2' := beq_yes hb2
      refine ev_true (by kernel_rfl) ?_
      refine ev_skip ?_
      refine ev_block ?_
      refine ev_reg (by kernel_rfl) ?_
      refine rs_up 2 [(16, J (n : Int)), (17, J (IntKind.wrap .i64 ((n : Int) - 1)))] (fun cf => by kernel_rfl) ?_
      rw [subI (a := (n : Int)) (b := 1) (A := n) (B := 1) (by rfl) (by rfl) (by omega)]
      refine rs_all (s1 := ⟨[.d x, U, .d (.v (.slice none 0 0)), J ((n - 1 : Nat) : Int), x4, x5, J (n : Int), Yes, Yes, .d x, J (n : Int), J ((n - 1 : Nat) : Int), .rp [.v (.int .u32 ((l.getD (n - 1) 0 : Nat) : Int))], intA .u32 ((l.getD (n - 1) 0 : Nat) : Int), Yes, Yes, J (n : Int), J ((n - 1 : Nat) : Int)] ++ us 3, ⟨[], 0⟩⟩) (fun cf => by kernel_rfl) ?_
      exact h1 _ _ _ _ _ _ _ _ _ _ _ _ (by omega) (by omega)
theorem trim_loop {K : Out → St → Prop} {l : List Nat} {x : D} (x4 x5 : AV) (hx : Ws l x) (hl : l.length < 1000000000) : ∀ (n : Nat) (z6 z7 z8 z9 z10 z11 z12 z13 z14 z15 z16 z17 : AV) (hn : n ≤ l.length) (h : ∀ z6 z7 z8 z9 z10 z11 z12 z13 z14 z15 z16 z17, K (.exit 0) ⟨[.d x, U, .d (.v (.slice none 0 0)), J ((trimN l n : Nat) : Int), x4, x5, z6, z7, z8, z9, z10, z11, z12, z13, z14, z15, z16, z17] ++ us 3, ⟨[], 0⟩⟩), EvK Try.cx 74 (.loop trimC) ⟨[.d x, U, .d (.v (.slice none 0 0)), J (n : Int), x4, x5, z6, z7, z8, z9, z10, z11, z12, z13, z14, z15, z16, z17] ++ us 3, ⟨[], 0⟩⟩ K
  | 0, z6, z7, z8, z9, z10, z11, z12, z13, z14, z15, z16, z17, hn, h => trim_round x4 x5 hx hn hl z6 z7 z8 z9 z10 z11 z12 z13 z14 z15 z16 z17 (fun z6 z7 z8 z9 z10 z11 z12 z13 z14 z15 z16 z17 _ => h z6 z7 z8 z9 z10 z11 z12 z13 z14 z15 z16 z17) fun z6 z7 z8 z9 z10 z11 z12 z13 z14 z15 z16 z17 h0 => absurd h0 (by decide)
  | n + 1, z6, z7, z8, z9, z10, z11, z12, z13, z14, z15, z16, z17, hn, h => by
    simp only [trimN] at h
    refine trim_round x4 x5 hx hn hl z6 z7 z8 z9 z10 z11 z12 z13 z14 z15 z16 z17 (fun z6 z7 z8 z9 z10 z11 z12 z13 z14 z15 z16 z17 h0 => ?_) fun z6 z7 z8 z9 z10 z11 z12 z13 z14 z15 z16 z17 h0 h1 => ?_
    · rw [if_neg (by simpa using h0)] at h
      exact h z6 z7 z8 z9 z10 z11 z12 z13 z14 z15 z16 z17
    · rw [if_pos (by simpa using h1)] at h
      exact trim_loop x4 x5 hx hl n z6 z7 z8 z9 z10 z11 z12 z13 z14 z15 z16 z17 (by omega) h
theorem g_trim {l : List Nat} {x : D} (hx : Ws l x) (hl : l.length < 1000000000) : ∃ res : D, (fun y => Ws (trimL l) y) res ∧ Gets Try.cx 74 [.d x] ((fun y => .d y) res) := by
  refine gets_some (fn := Try.f74) (fun y => Ws (trimL l) y) (fun y => .d y) (by kernel_rfl) rfl ?_
  show EvK _ _ _ ⟨[.d x] ++ us 20, ⟨[], 0⟩⟩ _
  refine ev_seq ?_
  refine ev_reg (by kernel_rfl) ?_
  refine rs_all (s1 := ⟨[.d x, U, .d (.v (.slice none 0 0))] ++ us 18, ⟨[], 0⟩⟩) (fun cf => by kernel_rfl) ?_
  refine ev_seq ?_
  refine ev_reg (by kernel_rfl) ?_
  refine rs_up 1 [(4, .d x)] (fun cf => by kernel_rfl) ?_
  refine rs_cl (fun m9 => lenA Try.cx 32 m9 (.d x)) (some 5) (l.length) (fun cf => by kernel_rfl) (len_ws hx) ?_
  refine rs_all (s1 := ⟨[.d x, U, .d (.v (.slice none 0 0)), J (l.length : Int), .d x, J (l.length : Int)] ++ us 15, ⟨[], 0⟩⟩) (fun cf => by kernel_rfl) ?_
  refine ev_seq ?_
  refine ev_block ?_
  refine trim_loop _ _ hx hl l.length _ _ _ _ _ _ _ _ _ _ _ _ (Nat.le_refl _) fun v6 v7 v8 v9 v10 v11 v12 v13 v14 v15 v16 v17 => ?_
  have hle := trimN_le l l.length
  refine ev_seq ?_
  refine ev_reg (by kernel_rfl) ?_
  obtain ⟨y1, hy1, ey1⟩ := cut_ws (m := ⟨[], 0⟩) (i := ((trimN l l.length : Nat) : Int)) (k := trimN l l.length) hx (by rfl) (by omega)
  refine rs_up 2 [(18, .d x), (19, J ((trimN l l.length : Nat) : Int))] (fun cf => by kernel_rfl) ?_
  refine rs_cv (fun m9 => sliceA Try.cx 32 m9 (.d x) none (some (J ((trimN l l.length : Nat) : Int))) none) (some 20) (.d y1) (fun cf => by kernel_rfl) (ey1) ?_
  refine rs_all (s1 := ⟨[.d x, U, .d y1, J ((trimN l l.length : Nat) : Int), .d x, J (l.length : Int), v6, v7, v8, v9, v10, v11, v12, v13, v14, v15, v16, v17, .d x, J ((trimN l l.length : Nat) : Int), .d y1], ⟨[], 0⟩⟩) (fun cf => by kernel_rfl) ?_
  refine ev_ret ?_
  exact ⟨y1, hy1, .inr rfl, .d y1, by kernel_rfl, by kernel_rfl⟩
def wordsL (n : Nat) : List Nat := trimL [n % 4294967296, n / 4294967296]
theorem val_words {n : Nat} : val (wordsL n) = n := by
  unfold wordsL
  rw [val_trim]
  simp only [val]
  omega
theorem ok_two {a b : Nat} (ha : a < 4294967296) (hb : b < 4294967296) : Ok [a, b] := ok_cons ha (ok_cons hb ok_nil)
theorem ok_words {n : Nat} (h : n < 18446744073709551616) : Ok (wordsL n) := ok_trim (ok_two (by omega) (by omega))
theorem g_words {n : Nat} (hn : n < 18446744073709551616) : ∃ res : D, (fun y => Ws (wordsL n) y) res ∧ Gets Try.cx 48 [intA .u64 (n : Int)] ((fun y => .d y) res) := by
  refine gets_some (fn := Try.f48) (fun y => Ws (wordsL n) y) (fun y => .d y) (by kernel_rfl) rfl ?_
  show EvK _ _ _ ⟨[intA .u64 (n : Int)] ++ us 10, ⟨[], 0⟩⟩ _
  refine ev_seq ?_
  refine ev_reg (by kernel_rfl) ?_
  refine rs_alu [(2, .d (.v (.slice none 0 0)))] (fun cf => by kernel_rfl) ?_
  refine ev_seq ?_
  refine ev_reg (by kernel_rfl) ?_
  refine rs_up 2 [(3, intA .u64 (n : Int)), (4, intA .u64 (Int.tmod (n : Int) 4294967296))] (fun cf => by kernel_rfl) ?_
  rw [remN (a := (n : Int)) (b := 4294967296) (A := n) (B := 4294967296) (by rfl) (by rfl)]
  refine rs_up 1 [(5, intA .u32 (IntKind.wrap .u32 ((n % 4294967296 : Nat) : Int)))] (fun cf => by kernel_rfl) ?_
  rw [wrapW (n := n % 4294967296) (by omega)]
  refine rs_up 2 [(6, intA .u64 (n : Int)), (7, intA .u64 (IntKind.wrap .u64 (Int.tdiv (n : Int) 4294967296)))] (fun cf => by kernel_rfl) ?_
  rw [quoU (a := (n : Int)) (b := 4294967296) (A := n) (B := 4294967296) (by rfl) (by rfl) (by omega)]
  refine rs_up 1 [(8, intA .u32 (IntKind.wrap .u32 ((n / 4294967296 : Nat) : Int)))] (fun cf => by kernel_rfl) ?_
  rw [wrapW (n := n / 4294967296) (by omega)]
  refine rs_upm 1 [(9, .own 0 0 0 2 1 (some 2))] ⟨[.row [intA .u32 ((n % 4294967296 : Nat) : Int), intA .u32 ((n / 4294967296 : Nat) : Int)] 0 .ow none], 1⟩ (fun cf => by kernel_rfl) ?_
  refine rs_take 0 (s1 := ⟨[intA .u64 (n : Int), U, .d (.v (.slice none 0 0)), intA .u64 (n : Int), intA .u64 ((n % 4294967296 : Nat) : Int), intA .u32 ((n % 4294967296 : Nat) : Int), intA .u64 (n : Int), intA .u64 ((n / 4294967296 : Nat) : Int), intA .u32 ((n / 4294967296 : Nat) : Int), .own 0 0 0 2 1 (some 2), U], ⟨[.row [intA .u32 ((n % 4294967296 : Nat) : Int), intA .u32 ((n / 4294967296 : Nat) : Int)] 0 .ow none], 1⟩⟩) (fun cf => by kernel_rfl) ?_
  obtain ⟨y1, hy1, gy1⟩ := g_trim (ws_sl false ([n % 4294967296, n / 4294967296])) (by simp)
  refine rs_frz (g := 74) (bs := [.d (.sl false ([n % 4294967296, n / 4294967296]).length (wd ([n % 4294967296, n / 4294967296])))]) (ow := true) (r := .d y1) (Eq.trans (b := match mapO (snapA (⟨[.row [intA .u32 ((n % 4294967296 : Nat) : Int), intA .u32 ((n / 4294967296 : Nat) : Int)] 0 .ow none], 1⟩ : Mem)) [.own 0 0 0 2 1 (some 2)] with | some bs => some (74, bs, true) | none => none) (by kernel_rfl) (by rw [mapO_one (snap_own (l := [n % 4294967296, n / 4294967296]) (row_at rfl) (by rfl))])) (gy1) fun m1 hEm1 _ => ?_
  show RS _ _ _ _ _ ⟨[intA .u64 (n : Int), U, .d (.v (.slice none 0 0)), intA .u64 (n : Int), intA .u64 ((n % 4294967296 : Nat) : Int), intA .u32 ((n % 4294967296 : Nat) : Int), intA .u64 (n : Int), intA .u64 ((n / 4294967296 : Nat) : Int), intA .u32 ((n / 4294967296 : Nat) : Int), .own 0 0 0 2 1 (some 2), .d y1], m1⟩ _
  refine rs_all (s1 := ⟨[intA .u64 (n : Int), U, .d y1, intA .u64 (n : Int), intA .u64 ((n % 4294967296 : Nat) : Int), intA .u32 ((n % 4294967296 : Nat) : Int), intA .u64 (n : Int), intA .u64 ((n / 4294967296 : Nat) : Int), intA .u32 ((n / 4294967296 : Nat) : Int), .own 0 0 0 2 1 (some 2), .d y1], m1⟩) (fun cf => by kernel_rfl) ?_
  refine ev_ret ?_
  exact ⟨y1, hy1, .inr rfl, .d y1, by kernel_rfl, by kernel_rfl⟩
def cmpN (a b : List Nat) : Nat → Int
  | 0 => 0
  | n + 1 => if a.getD n 0 < b.getD n 0 then -1 else if a.getD n 0 > b.getD n 0 then 1 else cmpN a b n
def cmpL (a b : List Nat) : Int := if a.length < b.length then -1 else if a.length > b.length then 1 else cmpN a b a.length
end Go.Proofs.Ytgkjdfojogemhaa.W
