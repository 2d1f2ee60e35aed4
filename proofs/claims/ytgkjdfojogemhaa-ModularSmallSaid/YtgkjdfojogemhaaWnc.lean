/-
  The program: integers made of words. Made by program. Conditions: none.
-/
import Derived.Test.YtgkjdfojogemhaaWnb
set_option maxRecDepth 100000
set_option maxHeartbeats 20000000
set_option linter.unusedSimpArgs false
set_option linter.unusedVariables false
namespace Go.Proofs.Ytgkjdfojogemhaa.W
open Go.Am
theorem snap_agown {m : Mem} {h g n : Nat} {cap : Option Nat} {l : List Nat} {b : Bool} (hr : row? m h g = some (wa l)) (hn : n = l.length) : snapR m (.ag [boolA b, .own h g 0 n 1 cap]) = some (.ag [boolA b, .d (.sl false l.length (wd l))]) := by
  have h1 := snap_own (cap := cap) hr hn
  show (mapO (snapC m) [boolA b, .own h g 0 n 1 cap]).map AV.ag = _
  have h2 : snapC m (.own h g 0 n 1 cap) = some (.d (.sl false l.length (wd l))) := h1
  have h3 : snapC m (boolA b) = some (boolA b) := rfl
  rw [mapO_two h3 h2]
  rfl
theorem g_signed {s : Bool} {l : List Nat} {x : D} (hx : Ws l x) (hl : l.length < 100000000) : ∃ res : D, (fun y => Ws (trimL l) y) res ∧ Gets Try.cx 69 [.d x, boolA s] ((fun y => .ag [boolA (s && decide ((((trimL l).length : Nat) : Int) > 0)), .d y]) res) := by
  have hll := len_trim l
  refine gets_some (fn := Try.f69) (fun y => Ws (trimL l) y) (fun y => .ag [boolA (s && decide ((((trimL l).length : Nat) : Int) > 0)), .d y]) (by kernel_rfl) rfl ?_
  show EvK _ _ _ ⟨[.d x, boolA s] ++ us 14, ⟨[], 0⟩⟩ _
  refine ev_seq ?_
  refine ev_reg (by kernel_rfl) ?_
  refine rs_all (s1 := ⟨[.d x, boolA s, U, U, .ptr 0 0 0] ++ us 11, ⟨[.row [No, .d (.v (.slice none 0 0))] 0 .ow none], 1⟩⟩) (fun cf => by kernel_rfl) ?_
  refine ev_seq ?_
  refine ev_reg (by kernel_rfl) ?_
  refine rs_up 1 [(5, .d x)] (fun cf => by kernel_rfl) ?_
  obtain ⟨y1, hy1, gy1⟩ := g_norm hx (by omega)
  refine rs_cp 88 [.d x] false (some 6) (.d y1) (by kernel_rfl) (gy1) (by kernel_rfl) ?_
  refine rs_alu [(0, .d y1)] (fun cf => by kernel_rfl) ?_
  refine ev_seq ?_
  refine ev_reg (by kernel_rfl) ?_
  refine rs_up 2 [(7, boolA s), (8, boolA s)] (fun cf => by kernel_rfl) ?_
  rcases hb2 : (s : Bool) with _ | _
  ·
    refine rs_up 5 [(12, No), (13, .d y1)] (fun cf => by kernel_rfl) ?_
    refine rs_take 0 (s1 := ⟨[.d y1, No, U, U, .ptr 0 0 0, .d x, .d y1, No, No] ++ us 3 ++ [No, .d y1, U, U], ⟨[.row [No, .d (.v (.slice none 0 0))] 0 .ow none], 1⟩⟩) (fun cf => by kernel_rfl) ?_
    rcases clone_fresh (⟨[.row [No, .d (.v (.slice none 0 0))] 0 .ow none], 1⟩ : Mem) hy1 (by omega) with ⟨hne, hf⟩ | ⟨hne, hf⟩ | ⟨hne, hf⟩
    ·
      refine rs_mem (k := 3) (g := 89) (av := [.d y1]) (r := .own 1 1 0 (trimL l).length 1 none) (m1 := ⟨[.row [No, .d (.v (.slice none 0 0))] 0 .ow none, .row (wa (trimL l)) 1 .ow none], 2⟩) (s1 := ⟨[.d y1, No, U, U, .ptr 0 0 0, .d x, .d y1, No, No] ++ us 3 ++ [No, .d y1, .own 1 1 0 (trimL l).length 1 none, U], ⟨[.row [No, .d (.v (.slice none 0 0))] 0 .ow none, .row (wa (trimL l)) 1 .ow none], 2⟩⟩) (by kernel_rfl) hf (by rfl) ?_
      refine rs_all (s1 := ⟨[.d y1, No, U, U, .ptr 0 0 0, .d x, .d y1, No, No] ++ us 3 ++ [No, .d y1, .own 1 1 0 (trimL l).length 1 none, .ag [No, .own 1 1 0 (trimL l).length 1 none]], ⟨[.row [No, .own 1 1 0 (trimL l).length 1 none] 0 .ow none, .row (wa (trimL l)) 1 .ow none], 2⟩⟩) (fun cf => by kernel_rfl) ?_
      refine ev_ret ?_
      exact ⟨(.sl false (trimL l).length (wd (trimL l))), ws_sl false (trimL l), .inr rfl, .ag [No, .own 1 1 0 (trimL l).length 1 none], by kernel_rfl, snap_agown (row_at rfl) rfl⟩
    ·
      refine rs_mem (k := 3) (g := 89) (av := [.d y1]) (r := .own 1 1 0 0 1 (some 0)) (m1 := ⟨[.row [No, .d (.v (.slice none 0 0))] 0 .ow none, .row [] 1 .ow none], 2⟩) (s1 := ⟨[.d y1, No, U, U, .ptr 0 0 0, .d x, .d y1, No, No] ++ us 3 ++ [No, .d y1, .own 1 1 0 0 1 (some 0), U], ⟨[.row [No, .d (.v (.slice none 0 0))] 0 .ow none, .row [] 1 .ow none], 2⟩⟩) (by kernel_rfl) hf (by rfl) ?_
      refine rs_all (s1 := ⟨[.d y1, No, U, U, .ptr 0 0 0, .d x, .d y1, No, No] ++ us 3 ++ [No, .d y1, .own 1 1 0 0 1 (some 0), .ag [No, .own 1 1 0 0 1 (some 0)]], ⟨[.row [No, .own 1 1 0 0 1 (some 0)] 0 .ow none, .row [] 1 .ow none], 2⟩⟩) (fun cf => by kernel_rfl) ?_
      refine ev_ret ?_
      exact ⟨(.sl false 0 []), by rw [hne]; exact ws_sl false [], .inr rfl, .ag [No, .own 1 1 0 0 1 (some 0)], by kernel_rfl, by first | kernel_rfl | (rw [hne]; kernel_rfl)⟩
    ·
      refine rs_mem (k := 3) (g := 89) (av := [.d y1]) (r := .d (.v (.slice none 0 0))) (m1 := ⟨[.row [No, .d (.v (.slice none 0 0))] 0 .ow none], 1⟩) (s1 := ⟨[.d y1, No, U, U, .ptr 0 0 0, .d x, .d y1, No, No] ++ us 3 ++ [No, .d y1, .d (.v (.slice none 0 0)), U], ⟨[.row [No, .d (.v (.slice none 0 0))] 0 .ow none], 1⟩⟩) (by kernel_rfl) hf (by rfl) ?_
      refine rs_all (s1 := ⟨[.d y1, No, U, U, .ptr 0 0 0, .d x, .d y1, No, No] ++ us 3 ++ [No, .d y1, .d (.v (.slice none 0 0)), .ag [No, .d (.v (.slice none 0 0))]], ⟨[.row [No, .d (.v (.slice none 0 0))] 0 .ow none], 1⟩⟩) (fun cf => by kernel_rfl) ?_
      refine ev_ret ?_
      exact ⟨(.v (.slice none 0 0)), by rw [hne]; exact ws_nil, .inr rfl, .ag [No, .d (.v (.slice none 0 0))], by kernel_rfl, by first | kernel_rfl | (rw [hne]; kernel_rfl)⟩
  ·
    refine rs_up 1 [(9, .d y1)] (fun cf => by kernel_rfl) ?_
    refine rs_cl (fun m9 => lenA Try.cx 83 m9 (.d y1)) (some 10) ((trimL l).length) (fun cf => by kernel_rfl) (len_wsN hy1) ?_
    refine rs_up 3 [(11, boolA (decide ((((trimL l).length : Nat) : Int) > 0))), (12, boolA (decide ((((trimL l).length : Nat) : Int) > 0))), (13, .d y1)] (fun cf => by kernel_rfl) ?_
    refine rs_take 0 (s1 := ⟨[.d y1, Yes, U, U, .ptr 0 0 0, .d x, .d y1, Yes, Yes, .d y1, J (((trimL l).length : Nat) : Int), boolA (decide ((((trimL l).length : Nat) : Int) > 0)), boolA (decide ((((trimL l).length : Nat) : Int) > 0)), .d y1, U, U], ⟨[.row [No, .d (.v (.slice none 0 0))] 0 .ow none], 1⟩⟩) (fun cf => by kernel_rfl) ?_
    rcases clone_fresh (⟨[.row [No, .d (.v (.slice none 0 0))] 0 .ow none], 1⟩ : Mem) hy1 (by omega) with ⟨hne, hf⟩ | ⟨hne, hf⟩ | ⟨hne, hf⟩
    ·
      refine rs_mem (k := 3) (g := 89) (av := [.d y1]) (r := .own 1 1 0 (trimL l).length 1 none) (m1 := ⟨[.row [No, .d (.v (.slice none 0 0))] 0 .ow none, .row (wa (trimL l)) 1 .ow none], 2⟩) (s1 := ⟨[.d y1, Yes, U, U, .ptr 0 0 0, .d x, .d y1, Yes, Yes, .d y1, J (((trimL l).length : Nat) : Int), boolA (decide ((((trimL l).length : Nat) : Int) > 0)), boolA (decide ((((trimL l).length : Nat) : Int) > 0)), .d y1, .own 1 1 0 (trimL l).length 1 none, U], ⟨[.row [No, .d (.v (.slice none 0 0))] 0 .ow none, .row (wa (trimL l)) 1 .ow none], 2⟩⟩) (by kernel_rfl) hf (by rfl) ?_
      refine rs_all (s1 := ⟨[.d y1, Yes, U, U, .ptr 0 0 0, .d x, .d y1, Yes, Yes, .d y1, J (((trimL l).length : Nat) : Int), boolA (decide ((((trimL l).length : Nat) : Int) > 0)), boolA (decide ((((trimL l).length : Nat) : Int) > 0)), .d y1, .own 1 1 0 (trimL l).length 1 none, .ag [boolA (decide ((((trimL l).length : Nat) : Int) > 0)), .own 1 1 0 (trimL l).length 1 none]], ⟨[.row [boolA (decide ((((trimL l).length : Nat) : Int) > 0)), .own 1 1 0 (trimL l).length 1 none] 0 .ow none, .row (wa (trimL l)) 1 .ow none], 2⟩⟩) (fun cf => by kernel_rfl) ?_
      refine ev_ret ?_
      exact ⟨(.sl false (trimL l).length (wd (trimL l))), ws_sl false (trimL l), .inr rfl, .ag [boolA (decide ((((trimL l).length : Nat) : Int) > 0)), .own 1 1 0 (trimL l).length 1 none], by kernel_rfl, snap_agown (row_at rfl) rfl⟩
    ·
      refine rs_mem (k := 3) (g := 89) (av := [.d y1]) (r := .own 1 1 0 0 1 (some 0)) (m1 := ⟨[.row [No, .d (.v (.slice none 0 0))] 0 .ow none, .row [] 1 .ow none], 2⟩) (s1 := ⟨[.d y1, Yes, U, U, .ptr 0 0 0, .d x, .d y1, Yes, Yes, .d y1, J (((trimL l).length : Nat) : Int), boolA (decide ((((trimL l).length : Nat) : Int) > 0)), boolA (decide ((((trimL l).length : Nat) : Int) > 0)), .d y1, .own 1 1 0 0 1 (some 0), U], ⟨[.row [No, .d (.v (.slice none 0 0))] 0 .ow none, .row [] 1 .ow none], 2⟩⟩) (by kernel_rfl) hf (by rfl) ?_
      refine rs_all (s1 := ⟨[.d y1, Yes, U, U, .ptr 0 0 0, .d x, .d y1, Yes, Yes, .d y1, J (((trimL l).length : Nat) : Int), boolA (decide ((((trimL l).length : Nat) : Int) > 0)), boolA (decide ((((trimL l).length : Nat) : Int) > 0)), .d y1, .own 1 1 0 0 1 (some 0), .ag [boolA (decide ((((trimL l).length : Nat) : Int) > 0)), .own 1 1 0 0 1 (some 0)]], ⟨[.row [boolA (decide ((((trimL l).length : Nat) : Int) > 0)), .own 1 1 0 0 1 (some 0)] 0 .ow none, .row [] 1 .ow none], 2⟩⟩) (fun cf => by kernel_rfl) ?_
      refine ev_ret ?_
      exact ⟨(.sl false 0 []), by rw [hne]; exact ws_sl false [], .inr rfl, .ag [boolA (decide ((((trimL l).length : Nat) : Int) > 0)), .own 1 1 0 0 1 (some 0)], by kernel_rfl, by first | kernel_rfl | (rw [hne]; kernel_rfl)⟩
    ·
      refine rs_mem (k := 3) (g := 89) (av := [.d y1]) (r := .d (.v (.slice none 0 0))) (m1 := ⟨[.row [No, .d (.v (.slice none 0 0))] 0 .ow none], 1⟩) (s1 := ⟨[.d y1, Yes, U, U, .ptr 0 0 0, .d x, .d y1, Yes, Yes, .d y1, J (((trimL l).length : Nat) : Int), boolA (decide ((((trimL l).length : Nat) : Int) > 0)), boolA (decide ((((trimL l).length : Nat) : Int) > 0)), .d y1, .d (.v (.slice none 0 0)), U], ⟨[.row [No, .d (.v (.slice none 0 0))] 0 .ow none], 1⟩⟩) (by kernel_rfl) hf (by rfl) ?_
      refine rs_all (s1 := ⟨[.d y1, Yes, U, U, .ptr 0 0 0, .d x, .d y1, Yes, Yes, .d y1, J (((trimL l).length : Nat) : Int), boolA (decide ((((trimL l).length : Nat) : Int) > 0)), boolA (decide ((((trimL l).length : Nat) : Int) > 0)), .d y1, .d (.v (.slice none 0 0)), .ag [boolA (decide ((((trimL l).length : Nat) : Int) > 0)), .d (.v (.slice none 0 0))]], ⟨[.row [boolA (decide ((((trimL l).length : Nat) : Int) > 0)), .d (.v (.slice none 0 0))] 0 .ow none], 1⟩⟩) (fun cf => by kernel_rfl) ?_
      refine ev_ret ?_
      exact ⟨(.v (.slice none 0 0)), by rw [hne]; exact ws_nil, .inr rfl, .ag [boolA (decide ((((trimL l).length : Nat) : Int) > 0)), .d (.v (.slice none 0 0))], by kernel_rfl, by first | kernel_rfl | (rw [hne]; kernel_rfl)⟩
end Go.Proofs.Ytgkjdfojogemhaa.W
