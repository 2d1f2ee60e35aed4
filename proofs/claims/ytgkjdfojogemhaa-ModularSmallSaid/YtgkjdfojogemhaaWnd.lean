/-
  The program: Of, Small, cmp. Made by program. Conditions: none.
-/
import Derived.Test.YtgkjdfojogemhaaWnc
set_option maxRecDepth 100000
set_option maxHeartbeats 20000000
set_option linter.unusedSimpArgs false
set_option linter.unusedVariables false
namespace Go.Proofs.Ytgkjdfojogemhaa.W
open Go.Am
theorem p_of {n : Nat} (h2 : n < 9223372036854775808) : ∃ res : Bool × D, (fun (r : Bool × D) => ∃ l, Iv ((n : Int)) r.1 r.2 l) res ∧ Gets Try.cx 44 [J (n : Int)] ((fun (r : Bool × D) => .ag [boolA r.1, .d r.2]) res) := by
  refine gets_some (fn := Try.f44) (fun (r : Bool × D) => ∃ l, Iv ((n : Int)) r.1 r.2 l) (fun (r : Bool × D) => .ag [boolA r.1, .d r.2]) (by kernel_rfl) rfl ?_
  show EvK _ _ _ ⟨[J (n : Int)] ++ us 13, ⟨[], 0⟩⟩ _
  refine ev_seq ?_
  refine ev_reg (by kernel_rfl) ?_
  refine rs_all (s1 := ⟨[J (n : Int), U, .ptr 0 0 0] ++ us 11, ⟨[.row [No, .d (.v (.slice none 0 0))] 0 .ow none], 1⟩⟩) (fun cf => by kernel_rfl) ?_
  refine ev_seq ?_
  refine ev_seq ?_
  refine ev_reg (by kernel_rfl) ?_
  refine rs_up 2 [(3, J (n : Int)), (4, boolA (decide ((n : Int) < 0)))] (fun cf => by kernel_rfl) ?_
  rw [(show decide ((n : Int) < 0) = false from decide_eq_false (by omega))]
  refine rs_alu [] (fun cf => by kernel_rfl) ?_
  refine ev_false (by kernel_rfl) ?_
  refine ev_skip ?_
  refine ev_seq ?_
  refine ev_reg (by kernel_rfl) ?_
  refine rs_up 2 [(10, J (n : Int)), (11, intA .u64 (IntKind.wrap .u64 (n : Int)))] (fun cf => by kernel_rfl) ?_
  rw [wrapU (n := n) (by omega)]
  obtain ⟨y1, hy1, gy1⟩ := g_natural (n := n) (by omega)
  refine rs_cp 68 [intA .u64 (n : Int)] false (some 12) (.d y1) (by kernel_rfl) (gy1) (by kernel_rfl) ?_
  obtain ⟨y2, hy2, gy2⟩ := g_signed (s := false) hy1 (by have := words_len (n := n) (by omega); omega)
  refine rs_cp 69 [.d y1, No] false (some 13) (.ag [boolA (false && decide ((((trimL (wordsL n)).length : Nat) : Int) > 0)), .d y2]) (by kernel_rfl) (gy2) (by kernel_rfl) ?_
  refine rs_cu (fun m9 => storeA Try.cx 34 m9 (.ptr 0 0 0) (.ag [boolA (false && decide ((((trimL (wordsL n)).length : Nat) : Int) > 0)), .d y2])) none ⟨[.row [boolA (false && decide ((((trimL (wordsL n)).length : Nat) : Int) > 0)), .d y2] 0 .ow none], 1⟩ (fun cf => by kernel_rfl) (store_int hy2 rfl) ?_
  refine rs_all (s1 := ⟨[J (n : Int), U, .ptr 0 0 0, J (n : Int), No] ++ us 5 ++ [J (n : Int), intA .u64 (n : Int), .d y1, .ag [boolA (false && decide ((((trimL (wordsL n)).length : Nat) : Int) > 0)), .d y2]], ⟨[.row [boolA (false && decide ((((trimL (wordsL n)).length : Nat) : Int) > 0)), .d y2] 0 .ow none], 1⟩⟩) (fun cf => by kernel_rfl) ?_
  refine ev_ret ?_
  exact ⟨((false && decide ((((trimL (wordsL n)).length : Nat) : Int) > 0)), y2), ⟨_, made_iv (s := false) (l := wordsL n) hy2 (ok_words (by omega)) (by rw [val_words]; rfl)⟩, .inr rfl, .ag [boolA (false && decide ((((trimL (wordsL n)).length : Nat) : Int) > 0)), .d y2], by kernel_rfl, by kernel_rfl⟩
end Go.Proofs.Ytgkjdfojogemhaa.W
