/-
  The law MonomialAll gives true. Made by program. Conditions: none.
-/
import Derived.Test.YtcnpldkadgloiaaAlb
set_option maxRecDepth 100000
set_option maxHeartbeats 20000000
set_option linter.unusedSimpArgs false
set_option linter.unusedVariables false
namespace Go.Proofs.Ytcnpldkadgloiaa
open Go.Am

theorem l_all {a b : Int} {y : Nat → Int} (hy : InR y) (ha : 0 ≤ a ∧ a ≤ 255) (hb : 0 ≤ b ∧ b ≤ 255) : Gets Try.cx 10 [intA .u8 a, intA .u8 b, .ag (Mu y)] Yes := by
  obtain ⟨n, hn, hn8⟩ : ∃ n : Nat, IntKind.wrap .i64 (Int.tmod a 9) = n ∧ n ≤ 8 := by
    have h1 := Int.tmod_nonneg 9 ha.1
    have h2 := Int.tmod_lt_of_pos a (show (0 : Int) < 9 by decide)
    exact ⟨(Int.tmod a 9).toNat, by rw [wrap64 (by omega) (by omega)]; omega, by omega⟩
  obtain ⟨e, he, he12⟩ : ∃ e : Nat, IntKind.wrap .i64 (Int.tmod b 13) = e ∧ e ≤ 12 := by
    have h1 := Int.tmod_nonneg 13 hb.1
    have h2 := Int.tmod_lt_of_pos b (show (0 : Int) < 13 by decide)
    exact ⟨(Int.tmod b 13).toNat, by rw [wrap64 (by omega) (by omega)]; omega, by omega⟩
  obtain ⟨d, hd, hd5⟩ : ∃ d : Nat, Int.tmod (e : Int) 5 = d ∧ d < 5 := by
    have h1 := Int.tmod_nonneg 5 (show (0 : Int) ≤ (e : Int) by omega)
    have h2 := Int.tmod_lt_of_pos (e : Int) (show (0 : Int) < 5 by decide)
    exact ⟨(Int.tmod (e : Int) 5).toNat, by omega, by omega⟩
  refine gets_of (fn := Try.f10) (by kernel_rfl) rfl ?_
  show EvK _ _ _ ⟨[intA .u8 a, intA .u8 b, .ag (Mu y)] ++ us 156, ⟨[], 0⟩⟩ _
  refine ev_seq ?_
  refine ev_reg (by kernel_rfl) ?_
  refine rs_all (s1 := ⟨[intA .u8 a, intA .u8 b, .ag (Mu y), U, U, .ptr 0 0 0, No] ++ us 152, ⟨[.row (Mu y) 0 .ow none], 1⟩⟩) (fun cf => by kernel_rfl) ?_
  refine ev_seq ?_
  refine ev_reg (by kernel_rfl) ?_
  refine rs_pure (g := 11) (bs := []) (ow := false) (r := Yes) (s1 := ⟨[intA .u8 a, intA .u8 b, .ag (Mu y), U, U, .ptr 0 0 0, No] ++ us 13 ++ [Yes] ++ us 138, ⟨[.row (Mu y) 0 .ow none], 1⟩⟩) (by kernel_rfl) (g_sanity) (by kernel_rfl) (by kernel_rfl) ?_
  refine rs_all (s1 := ⟨[intA .u8 a, intA .u8 b, .ag (Mu y), U, U, .ptr 0 0 0, No, Yes] ++ us 12 ++ [Yes] ++ us 138, ⟨[.row (Mu y) 0 .ow none], 1⟩⟩) (fun cf => by kernel_rfl) ?_
  refine ev_seq ?_
  refine ev_seq ?_
  refine ev_reg (by kernel_rfl) ?_
  refine rs_all (s1 := ⟨[intA .u8 a, intA .u8 b, .ag (Mu y), U, U, .ptr 0 0 0, No, Yes] ++ us 12 ++ [Yes, Yes, No] ++ us 136, ⟨[.row (Mu y) 0 .ow none], 1⟩⟩) (fun cf => by kernel_rfl) ?_
  refine ev_false (by kernel_rfl) ?_
  refine ev_skip ?_
  refine ev_seq ?_
  refine ev_reg (by kernel_rfl) ?_
  refine rs_take 3 (s1 := ⟨[intA .u8 a, intA .u8 b, .ag (Mu y), U, U, .ptr 0 0 0, No, Yes] ++ us 12 ++ [Yes, Yes, No, intA .u8 a, intA .u8 (Int.tmod a 9), J (IntKind.wrap .i64 (Int.tmod a 9))] ++ us 133, ⟨[.row (Mu y) 0 .ow none], 1⟩⟩) (fun cf => by kernel_rfl) ?_
  rw [hn]
  refine rs_all (s1 := ⟨[intA .u8 a, intA .u8 b, .ag (Mu y), U, U, .ptr 0 0 0, No, Yes, J (n : Int)] ++ us 11 ++ [Yes, Yes, No, intA .u8 a, intA .u8 (Int.tmod a 9), J (n : Int)] ++ us 133, ⟨[.row (Mu y) 0 .ow none], 1⟩⟩) (fun cf => by kernel_rfl) ?_
  refine ev_seq ?_
  refine ev_reg (by kernel_rfl) ?_
  refine rs_take 3 (s1 := ⟨[intA .u8 a, intA .u8 b, .ag (Mu y), U, U, .ptr 0 0 0, No, Yes, J (n : Int)] ++ us 11 ++ [Yes, Yes, No, intA .u8 a, intA .u8 (Int.tmod a 9), J (n : Int), intA .u8 b, intA .u8 (Int.tmod b 13), J (IntKind.wrap .i64 (Int.tmod b 13))] ++ us 130, ⟨[.row (Mu y) 0 .ow none], 1⟩⟩) (fun cf => by kernel_rfl) ?_
  rw [he]
  refine rs_all (s1 := ⟨[intA .u8 a, intA .u8 b, .ag (Mu y), U, U, .ptr 0 0 0, No, Yes, J (n : Int), J (e : Int)] ++ us 10 ++ [Yes, Yes, No, intA .u8 a, intA .u8 (Int.tmod a 9), J (n : Int), intA .u8 b, intA .u8 (Int.tmod b 13), J (e : Int)] ++ us 130, ⟨[.row (Mu y) 0 .ow none], 1⟩⟩) (fun cf => by kernel_rfl) ?_
  refine ev_seq ?_
  refine ev_seq ?_
  refine ev_reg (by kernel_rfl) ?_
  refine rs_all (s1 := ⟨[intA .u8 a, intA .u8 b, .ag (Mu y), U, U, .ptr 0 0 0, No, Yes, J (n : Int), J (e : Int)] ++ us 10 ++ [Yes, Yes, No, intA .u8 a, intA .u8 (Int.tmod a 9), J (n : Int), intA .u8 b, intA .u8 (Int.tmod b 13), J (e : Int), J (n : Int), boolA (decide ((n : Int) > 4))] ++ us 128, ⟨[.row (Mu y) 0 .ow none], 1⟩⟩) (fun cf => by kernel_rfl) ?_
  rcases h4 : ((decide ((n : Int) > 4)) : Bool) with _ | _
  ·
    refine ev_false (by kernel_rfl) ?_
    refine ev_skip ?_
    have hc : n ≤ 4 ∨ e < 5 := .inl (by have := of_decide_eq_false h4; omega)
    have h12 : e ≤ 12 := by omega
    refine from8_runs hy hn8 h12 (good_all hn8 h12) (g_all_ok hn8 h12) none_all (many_all hn8 h12 hc) (found_all hy hn8 h12) _ _ _ _ _ _ _ _ _ _ _ _ _ _ _
  ·
    refine ev_true (by kernel_rfl) ?_
    refine ev_reg (by kernel_rfl) ?_
    refine rs_take 2 (s1 := ⟨[intA .u8 a, intA .u8 b, .ag (Mu y), U, U, .ptr 0 0 0, No, Yes, J (n : Int), J (e : Int)] ++ us 10 ++ [Yes, Yes, No, intA .u8 a, intA .u8 (Int.tmod a 9), J (n : Int), intA .u8 b, intA .u8 (Int.tmod b 13), J (e : Int), J (n : Int), Yes, J (e : Int), J (Int.tmod (e : Int) 5)] ++ us 126, ⟨[.row (Mu y) 0 .ow none], 1⟩⟩) (fun cf => by kernel_rfl) ?_
    rw [hd]
    refine rs_all (s1 := ⟨[intA .u8 a, intA .u8 b, .ag (Mu y), U, U, .ptr 0 0 0, No, Yes, J (n : Int), J (d : Int)] ++ us 10 ++ [Yes, Yes, No, intA .u8 a, intA .u8 (Int.tmod a 9), J (n : Int), intA .u8 b, intA .u8 (Int.tmod b 13), J (e : Int), J (n : Int), Yes, J (e : Int), J (d : Int)] ++ us 126, ⟨[.row (Mu y) 0 .ow none], 1⟩⟩) (fun cf => by kernel_rfl) ?_
    have hc : n ≤ 4 ∨ d < 5 := .inr hd5
    have h12 : d ≤ 12 := by omega
    refine from8_runs hy hn8 h12 (good_all hn8 h12) (g_all_ok hn8 h12) none_all (many_all hn8 h12 hc) (found_all hy hn8 h12) _ _ _ _ _ _ _ _ _ _ _ _ _ _ _

end Go.Proofs.Ytcnpldkadgloiaa
