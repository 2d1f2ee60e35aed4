/-
  The program: norm, natural, signed. Made by program. Conditions: none.
-/
import Derived.Test.YtgkjdfojogemhaaWna
set_option maxRecDepth 100000
set_option maxHeartbeats 20000000
set_option linter.unusedSimpArgs false
set_option linter.unusedVariables false
namespace Go.Proofs.Ytgkjdfojogemhaa.W
open Go.Am
noncomputable def normC : Code := (lft (lft (lft (rgt (rgt (Try.f88.body.getD .skip))))))
theorem norm_round {K : Out → St → Prop} {l : List Nat} {x : D} {n : Nat} (x4 x5 : AV) (hx : Ws l x) (hn : n ≤ l.length) (hl : l.length < 1000000000) (z6 z7 z8 z9 z10 z11 z12 z13 z14 z15 z16 z17 : AV) (h0 : ∀ z6 z7 z8 z9 z10 z11 z12 z13 z14 z15 z16 z17, (n = 0 ∨ l.getD (n - 1) 0 ≠ 0) → K (.exit 0) ⟨[.d x, U, .d (.v (.slice none 0 0)), J (n : Int), x4, x5, z6, z7, z8, z9, z10, z11, z12, z13, z14, z15, z16, z17] ++ us 4, ⟨[], 0⟩⟩) (h1 : ∀ z6 z7 z8 z9 z10 z11 z12 z13 z14 z15 z16 z17, 0 < n → l.getD (n - 1) 0 = 0 → EvK Try.cx 88 (.loop normC) ⟨[.d x, U, .d (.v (.slice none 0 0)), J ((n - 1 : Nat) : Int), x4, x5, z6, z7, z8, z9, z10, z11, z12, z13, z14, z15, z16, z17] ++ us 4, ⟨[], 0⟩⟩ K) : EvK Try.cx 88 (.loop normC) ⟨[.d x, U, .d (.v (.slice none 0 0)), J (n : Int), x4, x5, z6, z7, z8, z9, z10, z11, z12, z13, z14, z15, z16, z17] ++ us 4, ⟨[], 0⟩⟩ K := by
  refine ev_loop ?_
  refine ev_seq ?_
  refine ev_seq ?_
  refine ev_reg (by kernel_rfl) ?_
  refine rs_up 3 [(6, J (n : Int)), (7, boolA (decide ((n : Int) > 0))), (8, boolA (decide ((n : Int) > 0)))] (fun cf => by kernel_rfl) ?_
  rcases hb1 : ((decide ((n : Int) > 0)) : Bool) with _ | _
  ·
    have hb1' := of_decide_eq_false hb1
    refine rs_all (s1 := ⟨[.d x, U, .d (.v (.slice none 0 0)), J (n : Int), x4, x5, J (n : Int), No, No] ++ us 6 ++ [No, z16, z17] ++ us 4, ⟨[], 0⟩⟩) (fun cf => by kernel_rfl) ?_
    refine ev_false (by kernel_rfl) ?_
    refine ev_exit ?_
    exact h0 _ _ _ _ _ _ _ _ _ _ _ _ (by omega)
  ·
    have hb1' := of_decide_eq_true hb1
    refine rs_up 3 [(9, .d x), (10, J (n : Int)), (11, J (IntKind.wrap .i64 ((n : Int) - 1)))] (fun cf => by kernel_rfl) ?_
    rw [subI (a := (n : Int)) (b := 1) (A := n) (B := 1) (by rfl) (by rfl) (by omega)]
    refine rs_cv (fun m9 => indexAddrA Try.cx 83 m9 (.d x) (J ((n - 1 : Nat) : Int))) (some 12) (.rp [.v (.int .u32 ((l.getD (n - 1) 0 : Nat) : Int))]) (fun cf => by kernel_rfl) (idx_wsN (k := n - 1) hx (by rfl) (by omega)) ?_
    refine rs_all (s1 := ⟨[.d x, U, .d (.v (.slice none 0 0)), J (n : Int), x4, x5, J (n : Int), Yes, Yes, .d x, J (n : Int), J ((n - 1 : Nat) : Int), .rp [.v (.int .u32 ((l.getD (n - 1) 0 : Nat) : Int))], intA .u32 ((l.getD (n - 1) 0 : Nat) : Int), boolA (((l.getD (n - 1) 0 : Nat) : Int) == 0), boolA (((l.getD (n - 1) 0 : Nat) : Int) == 0), z16, z17] ++ us 4, ⟨[], 0⟩⟩) (fun cf => by kernel_rfl) ?_
    rcases hb2 : ((((l.getD (n - 1) 0 : Nat) : Int) == 0) : Bool) with _ | _
    ·
      have hb2' := beq_no hb2
      refine ev_false (by kernel_rfl) ?_
      refine ev_exit ?_
      exact h0 _ _ _ _ _ _ _ _ _ _ _ _ (by omega)
    ·
      have hb2' := beq_yes hb2
      refine ev_true (by kernel_rfl) ?_
      refine ev_skip ?_
      refine ev_block ?_
      refine ev_reg (by kernel_rfl) ?_
      refine rs_up 2 [(16, J (n : Int)), (17, J (IntKind.wrap .i64 ((n : Int) - 1)))] (fun cf => by kernel_rfl) ?_
      rw [subI (a := (n : Int)) (b := 1) (A := n) (B := 1) (by rfl) (by rfl) (by omega)]
      refine rs_all (s1 := ⟨[.d x, U, .d (.v (.slice none 0 0)), J ((n - 1 : Nat) : Int), x4, x5, J (n : Int), Yes, Yes, .d x, J (n : Int), J ((n - 1 : Nat) : Int), .rp [.v (.int .u32 ((l.getD (n - 1) 0 : Nat) : Int))], intA .u32 ((l.getD (n - 1) 0 : Nat) : Int), Yes, Yes, J (n : Int), J ((n - 1 : Nat) : Int)] ++ us 4, ⟨[], 0⟩⟩) (fun cf => by kernel_rfl) ?_
      exact h1 _ _ _ _ _ _ _ _ _ _ _ _ (by omega) (by omega)
theorem norm_loop {K : Out → St → Prop} {l : List Nat} {x : D} (x4 x5 : AV) (hx : Ws l x) (hl : l.length < 1000000000) : ∀ (n : Nat) (z6 z7 z8 z9 z10 z11 z12 z13 z14 z15 z16 z17 : AV) (hn : n ≤ l.length) (h : ∀ z6 z7 z8 z9 z10 z11 z12 z13 z14 z15 z16 z17, K (.exit 0) ⟨[.d x, U, .d (.v (.slice none 0 0)), J ((trimN l n : Nat) : Int), x4, x5, z6, z7, z8, z9, z10, z11, z12, z13, z14, z15, z16, z17] ++ us 4, ⟨[], 0⟩⟩), EvK Try.cx 88 (.loop normC) ⟨[.d x, U, .d (.v (.slice none 0 0)), J (n : Int), x4, x5, z6, z7, z8, z9, z10, z11, z12, z13, z14, z15, z16, z17] ++ us 4, ⟨[], 0⟩⟩ K
  | 0, z6, z7, z8, z9, z10, z11, z12, z13, z14, z15, z16, z17, hn, h => norm_round x4 x5 hx hn hl z6 z7 z8 z9 z10 z11 z12 z13 z14 z15 z16 z17 (fun z6 z7 z8 z9 z10 z11 z12 z13 z14 z15 z16 z17 _ => h z6 z7 z8 z9 z10 z11 z12 z13 z14 z15 z16 z17) fun z6 z7 z8 z9 z10 z11 z12 z13 z14 z15 z16 z17 h0 => absurd h0 (by decide)
  | n + 1, z6, z7, z8, z9, z10, z11, z12, z13, z14, z15, z16, z17, hn, h => by
    simp only [trimN] at h
    refine norm_round x4 x5 hx hn hl z6 z7 z8 z9 z10 z11 z12 z13 z14 z15 z16 z17 (fun z6 z7 z8 z9 z10 z11 z12 z13 z14 z15 z16 z17 h0 => ?_) fun z6 z7 z8 z9 z10 z11 z12 z13 z14 z15 z16 z17 h0 h1 => ?_
    · rw [if_neg (by simpa using h0)] at h
      exact h z6 z7 z8 z9 z10 z11 z12 z13 z14 z15 z16 z17
    · rw [if_pos (by simpa using h1)] at h
      exact norm_loop x4 x5 hx hl n z6 z7 z8 z9 z10 z11 z12 z13 z14 z15 z16 z17 (by omega) h
theorem g_norm {l : List Nat} {x : D} (hx : Ws l x) (hl : l.length < 1000000000) : ∃ res : D, (fun y => Ws (trimL l) y) res ∧ Gets Try.cx 88 [.d x] ((fun y => .d y) res) := by
  refine gets_some (fn := Try.f88) (fun y => Ws (trimL l) y) (fun y => .d y) (by kernel_rfl) rfl ?_
  show EvK _ _ _ ⟨[.d x] ++ us 21, ⟨[], 0⟩⟩ _
  refine ev_seq ?_
  refine ev_reg (by kernel_rfl) ?_
  refine rs_all (s1 := ⟨[.d x, U, .d (.v (.slice none 0 0))] ++ us 19, ⟨[], 0⟩⟩) (fun cf => by kernel_rfl) ?_
  refine ev_seq ?_
  refine ev_reg (by kernel_rfl) ?_
  refine rs_up 1 [(4, .d x)] (fun cf => by kernel_rfl) ?_
  refine rs_cl (fun m9 => lenA Try.cx 83 m9 (.d x)) (some 5) (l.length) (fun cf => by kernel_rfl) (len_wsN hx) ?_
  refine rs_all (s1 := ⟨[.d x, U, .d (.v (.slice none 0 0)), J (l.length : Int), .d x, J (l.length : Int)] ++ us 16, ⟨[], 0⟩⟩) (fun cf => by kernel_rfl) ?_
  refine ev_seq ?_
  refine ev_block ?_
  refine norm_loop _ _ hx hl l.length _ _ _ _ _ _ _ _ _ _ _ _ (Nat.le_refl _) fun v6 v7 v8 v9 v10 v11 v12 v13 v14 v15 v16 v17 => ?_
  have hle := trimN_le l l.length
  refine ev_seq ?_
  refine ev_reg (by kernel_rfl) ?_
  obtain ⟨y1, hy1, ey1⟩ := cut3_ws (m := ⟨[], 0⟩) (i := ((trimN l l.length : Nat) : Int)) (k := trimN l l.length) hx (by rfl) (by omega)
  refine rs_up 3 [(18, .d x), (19, J ((trimN l l.length : Nat) : Int)), (20, J ((trimN l l.length : Nat) : Int))] (fun cf => by kernel_rfl) ?_
  refine rs_cv (fun m9 => sliceA Try.cx 83 m9 (.d x) none (some (J ((trimN l l.length : Nat) : Int))) (some (J ((trimN l l.length : Nat) : Int)))) (some 21) (.d y1) (fun cf => by kernel_rfl) (ey1) ?_
  refine rs_all (s1 := ⟨[.d x, U, .d y1, J ((trimN l l.length : Nat) : Int), .d x, J (l.length : Int), v6, v7, v8, v9, v10, v11, v12, v13, v14, v15, v16, v17, .d x, J ((trimN l l.length : Nat) : Int), J ((trimN l l.length : Nat) : Int), .d y1], ⟨[], 0⟩⟩) (fun cf => by kernel_rfl) ?_
  refine ev_ret ?_
  exact ⟨y1, hy1, .inr rfl, .d y1, by kernel_rfl, by kernel_rfl⟩
theorem g_natural {n : Nat} (hn : n < 18446744073709551616) : ∃ res : D, (fun y => Ws (wordsL n) y) res ∧ Gets Try.cx 68 [intA .u64 (n : Int)] ((fun y => .d y) res) := by
  refine gets_some (fn := Try.f68) (fun y => Ws (wordsL n) y) (fun y => .d y) (by kernel_rfl) rfl ?_
  show EvK _ _ _ ⟨[intA .u64 (n : Int)] ++ us 9, ⟨[], 0⟩⟩ _
  refine ev_seq ?_
  refine ev_reg (by kernel_rfl) ?_
  refine rs_alu [(2, .d (.v (.slice none 0 0)))] (fun cf => by kernel_rfl) ?_
  refine ev_seq ?_
  refine ev_reg (by kernel_rfl) ?_
  refine rs_up 2 [(3, intA .u64 (n : Int)), (4, intA .u32 (IntKind.wrap .u32 (n : Int)))] (fun cf => by kernel_rfl) ?_
  rw [wrapM (n := n)]
  refine rs_up 2 [(5, intA .u64 (n : Int)), (6, intA .u64 (Int.fdiv (n : Int) (2 ^ 32)))] (fun cf => by kernel_rfl) ?_
  rw [shrN (A := n) (k := 32) (by rfl) (by rfl)]
  refine rs_up 1 [(7, intA .u32 (IntKind.wrap .u32 ((n / 4294967296 : Nat) : Int)))] (fun cf => by kernel_rfl) ?_
  rw [wrapW (n := n / 4294967296) (by omega)]
  refine rs_upm 1 [(8, .own 0 0 0 2 1 (some 2))] ⟨[.row [intA .u32 ((n % 4294967296 : Nat) : Int), intA .u32 ((n / 4294967296 : Nat) : Int)] 0 .ow none], 1⟩ (fun cf => by kernel_rfl) ?_
  refine rs_take 0 (s1 := ⟨[intA .u64 (n : Int), U, .d (.v (.slice none 0 0)), intA .u64 (n : Int), intA .u32 ((n % 4294967296 : Nat) : Int), intA .u64 (n : Int), intA .u64 ((n / 4294967296 : Nat) : Int), intA .u32 ((n / 4294967296 : Nat) : Int), .own 0 0 0 2 1 (some 2), U], ⟨[.row [intA .u32 ((n % 4294967296 : Nat) : Int), intA .u32 ((n / 4294967296 : Nat) : Int)] 0 .ow none], 1⟩⟩) (fun cf => by kernel_rfl) ?_
  obtain ⟨y1, hy1, gy1⟩ := g_norm (ws_sl false ([n % 4294967296, n / 4294967296])) (by simp)
  refine rs_frz (g := 88) (bs := [.d (.sl false ([n % 4294967296, n / 4294967296]).length (wd ([n % 4294967296, n / 4294967296])))]) (ow := true) (r := .d y1) (Eq.trans (b := match mapO (snapA (⟨[.row [intA .u32 ((n % 4294967296 : Nat) : Int), intA .u32 ((n / 4294967296 : Nat) : Int)] 0 .ow none], 1⟩ : Mem)) [.own 0 0 0 2 1 (some 2)] with | some bs => some (88, bs, true) | none => none) (by kernel_rfl) (by rw [mapO_one (snap_own (l := [n % 4294967296, n / 4294967296]) (row_at rfl) (by rfl))])) (gy1) fun m1 hEm1 _ => ?_
  show RS _ _ _ _ _ ⟨[intA .u64 (n : Int), U, .d (.v (.slice none 0 0)), intA .u64 (n : Int), intA .u32 ((n % 4294967296 : Nat) : Int), intA .u64 (n : Int), intA .u64 ((n / 4294967296 : Nat) : Int), intA .u32 ((n / 4294967296 : Nat) : Int), .own 0 0 0 2 1 (some 2), .d y1], m1⟩ _
  refine rs_all (s1 := ⟨[intA .u64 (n : Int), U, .d y1, intA .u64 (n : Int), intA .u32 ((n % 4294967296 : Nat) : Int), intA .u64 (n : Int), intA .u64 ((n / 4294967296 : Nat) : Int), intA .u32 ((n / 4294967296 : Nat) : Int), .own 0 0 0 2 1 (some 2), .d y1], m1⟩) (fun cf => by kernel_rfl) ?_
  refine ev_ret ?_
  exact ⟨y1, hy1, .inr rfl, .d y1, by kernel_rfl, by kernel_rfl⟩
theorem not_nil {m : Mem} {l : List Nat} {x : D} (hx : Ws l x) (hl : l ≠ []) : binA Try.cx m .eql 83 (.d x) (.d (.v (.slice none 0 0))) = some (boolA false) := by
  rcases hx with ⟨b, rfl⟩ | ⟨rfl, rfl⟩
  · cases l with
    | nil => exact absurd rfl hl
    | cons a l => kernel_rfl
  · exact absurd rfl hl
theorem app_ws0 {m : Mem} {fk : Bool} {h g : Nat} {l : List Nat} {x : D} (hr : row? m h g = some []) (hx : Ws l x) (hl : l ≠ []) (hn : l.length < 1000000000000) : appendA Try.cx fk #[83, 83] m (.own h g 0 0 1 (some 0)) (.d x) = some (.own m.b.length m.n 0 l.length 1 none, m.push (wa l)) := by
  rcases hx with ⟨b, rfl⟩ | ⟨rfl, rfl⟩
  · have e : appendA Try.cx fk #[83, 83] m (.own h g 0 0 1 (some 0)) (.d (.sl b l.length (wd l))) = match content m 1 (.d (.sl b l.length (wd l))) with
      | none => none
      | some (xs, n) => match row? m h g with
        | none => none
        | some cs => if 0 + 0 * 1 ≤ cs.length ∧ (0 + n) * 4 ≤ room ∧ 0 + n ≤ room then
            (if 0 + n ≤ 0 then (if n = 0 then some (.own h g 0 0 1 (some 0), m) else
              match own? m h g with
              | some (_, kid) => if 0 + (0 + n) * 1 ≤ cs.length ∧ xs.all cellOk = true then some (.own h g 0 (0 + n) 1 (some 0), m.write h g kid (over cs (0 + 0 * 1) xs)) else none
              | none => none) else some (.own m.b.length m.n 0 (0 + n) 1 none, m.push (cut cs 0 (0 * 1) ++ xs))) else none := by kernel_rfl
    rw [e]
    have hc : content m 1 (.d (.sl b l.length (wd l))) = some (wa l, l.length) := by
      show (if (wd l).length = l.length * 1 then some ((wd l).map AV.d, l.length) else none) = _
      rw [if_pos (by rw [wd_len, Nat.mul_one])]
      congr 2
      simp only [wd, wa, List.map_map]
      rfl
    have h0 : l.length ≠ 0 := fun h => hl (List.eq_nil_of_length_eq_zero h)
    have h1 : (0 + 0 * 1 ≤ ([] : List AV).length) ∧ (0 + l.length) * 4 ≤ room ∧ 0 + l.length ≤ room := ⟨Nat.le_refl _, by unfold room; omega, by unfold room; omega⟩
    rw [hc, hr]
    simp only [if_pos h1]
    rw [if_neg (by omega), Nat.zero_add]
    rfl
  · exact absurd rfl hl
theorem clone_runs {l : List Nat} {x : D} (hx : Ws l x) (hne : l ≠ []) (hl : l.length < 1000000000) : Runs1 Try.cx 89 [.d x] ⟨[], 0⟩ (.own 1 1 0 l.length 1 none) ⟨[.row [] 0 .ow none, .row (wa l) 1 .ow none], 2⟩ := by
  refine runs_of (fn := Try.f89) (by kernel_rfl) rfl ?_
  show EvK _ _ _ ⟨[.d x] ++ us 7, ⟨[], 0⟩⟩ _
  refine ev_seq ?_
  refine ev_reg (by kernel_rfl) ?_
  refine rs_all (s1 := ⟨[.d x, U, .d (.v (.slice none 0 0))] ++ us 5, ⟨[], 0⟩⟩) (fun cf => by kernel_rfl) ?_
  refine ev_seq ?_
  refine ev_seq ?_
  refine ev_reg (by kernel_rfl) ?_
  refine rs_up 1 [(3, .d x)] (fun cf => by kernel_rfl) ?_
  refine rs_cv (fun m9 => binA Try.cx m9 .eql 83 (.d x) (.d (.v (.slice none 0 0)))) (some 4) (No) (fun cf => by kernel_rfl) (not_nil hx hne) ?_
  refine rs_alu [] (fun cf => by kernel_rfl) ?_
  refine ev_false (by kernel_rfl) ?_
  refine ev_skip ?_
  refine ev_seq ?_
  refine ev_reg (by kernel_rfl) ?_
  refine rs_upm 2 [(5, .own 0 0 0 0 1 (some 0)), (6, .d x)] ⟨[.row [] 0 .ow none], 1⟩ (fun cf => by kernel_rfl) ?_
  refine rs_co (fun m9 => appendA Try.cx (Try.cx.fk 89 7) #[83, 83] m9 (.own 0 0 0 0 1 (some 0)) (.d x)) (some 7) (.own 1 1 0 l.length 1 none) ⟨[.row [] 0 .ow none, .row (wa l) 1 .ow none], 2⟩ (fun cf => by kernel_rfl) (app_ws0 (m := ⟨[.row [] 0 .ow none], 1⟩) (row_at rfl) hx hne (by omega)) ?_
  refine rs_all (s1 := ⟨[.d x, U, .own 1 1 0 l.length 1 none, .d x, No, .own 0 0 0 0 1 (some 0), .d x, .own 1 1 0 l.length 1 none], ⟨[.row [] 0 .ow none, .row (wa l) 1 .ow none], 2⟩⟩) (fun cf => by kernel_rfl) ?_
  refine ev_ret ?_
  exact ⟨.inr rfl, by kernel_rfl, rfl⟩
theorem own_at {m : Mem} {h g : Nat} {cs : List AV} (hr : m.b[h]? = some (.row cs g .ow none)) : own? m h g = some (cs, none) := by simp [own?, hr]
theorem isD_wa (l : List Nat) : (wa l).all isD = true := by
  induction l with
  | nil => rfl
  | cons a l ih => exact ih
theorem clone_fresh {l : List Nat} {x : D} (m : Mem) (hx : Ws l x) (hl : l.length < 1000000000) :
    (l ≠ [] ∧ ∃ n, freshCall (run Try.cx n) 89 [.d x] m = some (.own m.b.length m.n 0 l.length 1 none, m.push (wa l))) ∨
    (l = [] ∧ ∃ n, freshCall (run Try.cx n) 89 [.d x] m = some (.own m.b.length m.n 0 0 1 (some 0), m.push [])) ∨
    (l = [] ∧ ∃ n, freshCall (run Try.cx n) 89 [.d x] m = some (.d (.v (.slice none 0 0)), m)) := by
  by_cases hne : l = []
  · subst hne
    rcases hx with ⟨b, rfl⟩ | ⟨_, rfl⟩
    · exact .inr (.inl ⟨rfl, 20, by kernel_rfl⟩)
    · exact .inr (.inr ⟨rfl, 20, by kernel_rfl⟩)
  · obtain ⟨n, hn⟩ := clone_runs hx hne hl
    refine .inl ⟨hne, n, ?_⟩
    unfold freshCall
    have hs : mapO (snapA m) [.d x] = some [.d x] := rfl
    rw [hs]
    simp only [hn]
    rw [own_at (cs := wa l) rfl]
    simp only [isD_wa, if_true]
    rfl
end Go.Proofs.Ytgkjdfojogemhaa.W
