/-
  The program: Of, Small, cmp. Made by program. Conditions: none.
-/
import Derived.Test.YtgkjdfojogemhaaWnc
set_option maxRecDepth 100000
set_option maxHeartbeats 20000000
set_option linter.unusedSimpArgs false
set_option linter.unusedVariables false
namespace Go.Proofs.Ytgkjdfojogemhaa.W
open Go.Am


theorem p_of {n : Nat} (h2 : n < 9223372036854775808) : ∃ res : Bool × D, (fun (r : Bool × D) => ∃ l, Iv ((n : Int)) r.1 r.2 l) res ∧ Gets Try.cx 44 [J (n : Int)] ((fun (r : Bool × D) => .ag [boolA r.1, .d r.2]) res) := by
  refine gets_some (fn := Try.f44) (fun (r : Bool × D) => ∃ l, Iv ((n : Int)) r.1 r.2 l) (fun (r : Bool × D) => .ag [boolA r.1, .d r.2]) (by kernel_rfl) rfl ?_
  show EvK _ _ _ ⟨[J (n : Int)] ++ us 13, ⟨[], 0⟩⟩ _
  refine ev_seq ?_
  refine ev_reg (by kernel_rfl) ?_
  refine rs_all (s1 := ⟨[J (n : Int), U, .ptr 0 0 0] ++ us 11, ⟨[.row [No, .d (.v (.slice none 0 0))] 0 .ow none], 1⟩⟩) (fun cf => by kernel_rfl) ?_
  refine ev_seq ?_
  refine ev_seq ?_
  refine ev_reg (by kernel_rfl) ?_
  refine rs_up 2 [(3, J (n : Int)), (4, boolA (decide ((n : Int) < 0)))] (fun cf => by kernel_rfl) ?_
  rw [(show decide ((n : Int) < 0) = false from decide_eq_false (by omega))]
  refine rs_alu [] (fun cf => by kernel_rfl) ?_
  refine ev_false (by kernel_rfl) ?_
  refine ev_skip ?_
  refine ev_seq ?_
  refine ev_reg (by kernel_rfl) ?_
  refine rs_up 2 [(10, J (n : Int)), (11, intA .u64 (IntKind.wrap .u64 (n : Int)))] (fun cf => by kernel_rfl) ?_
  rw [wrapU (n := n) (by omega)]
  obtain ⟨y1, hy1, gy1⟩ := g_natural (n := n) (by omega)
  refine rs_cp 68 [intA .u64 (n : Int)] false (some 12) (.d y1) (by kernel_rfl) (gy1) (by kernel_rfl) ?_
  obtain ⟨y2, hy2, gy2⟩ := g_signed (s := false) hy1 (by have := words_len (n := n) (by omega); omega)
  refine rs_cp 69 [.d y1, No] false (some 13) (.ag [boolA (false && decide ((((trimL (wordsL n)).length : Nat) : Int) > 0)), .d y2]) (by kernel_rfl) (gy2) (by kernel_rfl) ?_
  refine rs_cu (fun m9 => storeA Try.cx 34 m9 (.ptr 0 0 0) (.ag [boolA (false && decide ((((trimL (wordsL n)).length : Nat) : Int) > 0)), .d y2])) none ⟨[.row [boolA (false && decide ((((trimL (wordsL n)).length : Nat) : Int) > 0)), .d y2] 0 .ow none], 1⟩ (fun cf => by kernel_rfl) (store_int hy2 rfl) ?_
  refine rs_all (s1 := ⟨[J (n : Int), U, .ptr 0 0 0, J (n : Int), No] ++ us 5 ++ [J (n : Int), intA .u64 (n : Int), .d y1, .ag [boolA (false && decide ((((trimL (wordsL n)).length : Nat) : Int) > 0)), .d y2]], ⟨[.row [boolA (false && decide ((((trimL (wordsL n)).length : Nat) : Int) > 0)), .d y2] 0 .ow none], 1⟩⟩) (fun cf => by kernel_rfl) ?_
  refine ev_ret ?_
  exact ⟨((false && decide ((((trimL (wordsL n)).length : Nat) : Int) > 0)), y2), ⟨_, made_iv (s := false) (l := wordsL n) hy2 (ok_words (by omega)) (by rw [val_words]; rfl)⟩, .inr rfl, .ag [boolA (false && decide ((((trimL (wordsL n)).length : Nat) : Int) > 0)), .d y2], by kernel_rfl, by kernel_rfl⟩

theorem p_small {n : Int} {x : D} {l : List Nat} (h : Iv n false x l) (hs : n < 9223372036854775808) : Gets Try.cx 65 [.ag [No, .d x]] (.tu [intA .i64 (n.toNat : Int), boolA true]) := by
  obtain ⟨hl2, hq, h0⟩ := num_iv h (by omega)
  have hlen : decide ((l.length : Int) > 2) = false := decide_eq_false (by omega)
  have hsm : decide (((((l.getD 1 0) * 4294967296) + (l.getD 0 0) : Nat) : Int) < 9223372036854775808) = true := decide_eq_true (by omega)
  refine gets_of (fn := Try.f65) (by kernel_rfl) rfl ?_
  show EvK _ _ _ ⟨[.ag [No, .d x]] ++ us 39, ⟨[], 0⟩⟩ _
  refine ev_seq ?_
  refine ev_reg (by kernel_rfl) ?_
  refine rs_all (s1 := ⟨[.ag [No, .d x], .ptr 0 0 0, J 0, No] ++ us 36, ⟨[.row [No, .d x] 0 .ow none], 1⟩⟩) (fun cf => by kernel_rfl) ?_
  refine ev_seq ?_
  refine ev_reg (by kernel_rfl) ?_
  refine rs_alu [(4, .d x), (6, .ptr 0 0 1), (7, .d x)] (fun cf => by kernel_rfl) ?_
  refine ev_seq ?_
  refine ev_reg (by kernel_rfl) ?_
  refine rs_up 1 [(8, .d x)] (fun cf => by kernel_rfl) ?_
  refine rs_cp 83 [.d x, J 1] false (some 9) (intA .u32 ((l.getD 1 0 : Nat) : Int)) (by kernel_rfl) (g_at (i := 1) h.1) (by kernel_rfl) ?_
  refine rs_up 1 [(10, intA .u64 (IntKind.wrap .u64 ((l.getD 1 0 : Nat) : Int)))] (fun cf => by kernel_rfl) ?_
  rw [wrapU (n := l.getD 1 0) (by have := h.2.1 1; omega)]
  refine rs_up 1 [(11, intA .u64 (IntKind.wrap .u64 (((l.getD 1 0 : Nat) : Int) * 2 ^ 32)))] (fun cf => by kernel_rfl) ?_
  rw [shlU (A := l.getD 1 0) (k := 32) (by rfl) (by rfl) (by have := h.2.1 1; omega)]
  refine rs_up 1 [(12, .d x)] (fun cf => by kernel_rfl) ?_
  refine rs_cp 83 [.d x, J 0] false (some 13) (intA .u32 ((l.getD 0 0 : Nat) : Int)) (by kernel_rfl) (g_at (i := 0) h.1) (by kernel_rfl) ?_
  refine rs_up 1 [(14, intA .u64 (IntKind.wrap .u64 ((l.getD 0 0 : Nat) : Int)))] (fun cf => by kernel_rfl) ?_
  rw [wrapU (n := l.getD 0 0) (by have := h.2.1 0; omega)]
  refine rs_up 1 [(15, intA .u64 (IntKind.wrap .u64 (BitVec.ofInt (IntKind.bits .u64) (((l.getD 1 0) * 4294967296 : Nat) : Int) ||| BitVec.ofInt (IntKind.bits .u64) ((l.getD 0 0 : Nat) : Int)).toNat))] (fun cf => by kernel_rfl) ?_
  rw [orU (A := (l.getD 1 0)) (B := l.getD 0 0) (by rfl) (by rfl) (⟨h.2.1 1, h.2.1 0⟩)]
  refine rs_alu [(5, intA .u64 ((((l.getD 1 0) * 4294967296) + (l.getD 0 0) : Nat) : Int))] (fun cf => by kernel_rfl) ?_
  refine ev_seq ?_
  refine ev_block ?_
  refine ev_seq ?_
  refine ev_reg (by kernel_rfl) ?_
  refine rs_up 1 [(17, .d x)] (fun cf => by kernel_rfl) ?_
  refine rs_cl (fun m9 => lenA Try.cx 83 m9 (.d x)) (some 18) (l.length) (fun cf => by kernel_rfl) (len_wsN h.1) ?_
  refine rs_up 1 [(19, boolA (decide ((l.length : Int) > 2)))] (fun cf => by kernel_rfl) ?_
  rw [hlen]
  refine rs_alu [(16, No)] (fun cf => by kernel_rfl) ?_
  refine ev_false (by kernel_rfl) ?_
  refine ev_seq ?_
  refine ev_reg (by kernel_rfl) ?_
  refine rs_alu [(20, No), (21, .ptr 0 0 0), (22, No), (23, No), (26, No)] (fun cf => by kernel_rfl) ?_
  refine ev_false (by kernel_rfl) ?_
  refine ev_seq ?_
  refine ev_reg (by kernel_rfl) ?_
  refine rs_up 6 [(31, .ptr 0 0 0), (32, No), (33, Yes), (34, Yes), (35, intA .u64 ((((l.getD 1 0) * 4294967296) + (l.getD 0 0) : Nat) : Int)), (36, boolA (decide (((((l.getD 1 0) * 4294967296) + (l.getD 0 0) : Nat) : Int) < 9223372036854775808)))] (fun cf => by kernel_rfl) ?_
  rw [hsm]
  refine rs_alu [(30, Yes), (37, Yes)] (fun cf => by kernel_rfl) ?_
  refine ev_true (by kernel_rfl) ?_
  refine ev_seq ?_
  refine ev_reg (by kernel_rfl) ?_
  refine rs_up 2 [(38, intA .u64 ((((l.getD 1 0) * 4294967296) + (l.getD 0 0) : Nat) : Int)), (39, J (IntKind.wrap .i64 ((((l.getD 1 0) * 4294967296) + (l.getD 0 0) : Nat) : Int)))] (fun cf => by kernel_rfl) ?_
  rw [wrapIn (n := ((l.getD 1 0) * 4294967296) + (l.getD 0 0)) (by omega)]
  refine rs_all (s1 := ⟨[.ag [No, .d x], .ptr 0 0 0, J ((((l.getD 1 0) * 4294967296) + (l.getD 0 0) : Nat) : Int), Yes, .d x, intA .u64 ((((l.getD 1 0) * 4294967296) + (l.getD 0 0) : Nat) : Int), .ptr 0 0 1, .d x, .d x, intA .u32 ((l.getD 1 0 : Nat) : Int), intA .u64 ((l.getD 1 0 : Nat) : Int), intA .u64 (((l.getD 1 0) * 4294967296 : Nat) : Int), .d x, intA .u32 ((l.getD 0 0 : Nat) : Int), intA .u64 ((l.getD 0 0 : Nat) : Int), intA .u64 ((((l.getD 1 0) * 4294967296) + (l.getD 0 0) : Nat) : Int), No, .d x, J (l.length : Int), No, No, .ptr 0 0 0, No, No, U, U, No] ++ us 3 ++ [Yes, .ptr 0 0 0, No, Yes, Yes, intA .u64 ((((l.getD 1 0) * 4294967296) + (l.getD 0 0) : Nat) : Int), Yes, Yes, intA .u64 ((((l.getD 1 0) * 4294967296) + (l.getD 0 0) : Nat) : Int), J ((((l.getD 1 0) * 4294967296) + (l.getD 0 0) : Nat) : Int)], ⟨[.row [No, .d x] 0 .ow none], 1⟩⟩) (fun cf => by kernel_rfl) ?_
  refine ev_ret ?_
  refine leaf (r0 := .tu [J ((((l.getD 1 0) * 4294967296) + (l.getD 0 0) : Nat) : Int), Yes]) (r1 := .tu [J ((((l.getD 1 0) * 4294967296) + (l.getD 0 0) : Nat) : Int), Yes]) (.inr rfl) (by kernel_rfl) (by kernel_rfl) ?_
  exact congrArg (fun q : Nat => AV.tu [intA .i64 (q : Int), boolA true]) hq

end Go.Proofs.Ytgkjdfojogemhaa.W
