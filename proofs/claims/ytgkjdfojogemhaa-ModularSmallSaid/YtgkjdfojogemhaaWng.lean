/-
  The program: division by a number of one word. Made by program. Conditions: none.
-/
import Derived.Test.YtgkjdfojogemhaaWnf
set_option maxRecDepth 100000
set_option maxHeartbeats 20000000
set_option linter.unusedSimpArgs false
set_option linter.unusedVariables false
namespace Go.Proofs.Ytgkjdfojogemhaa.W
open Go.Am
def Div1 (a : List Nat) (p : Nat) (r : D × D) : Prop := ∃ lq lr, Ws lq r.1 ∧ Ws lr r.2 ∧ Ok lq ∧ Ok lr ∧ Nrm lq ∧ Nrm lr ∧ val lq = val a / p ∧ val lr = val a % p
theorem val_one {b : List Nat} (h : b.length = 1) : val b = b.getD 0 0 := by
  match b, h with
  | [a], _ => simp [val]
theorem p_div1 {a b : List Nat} {x y : D} (hx : Ws a x) (hy : Ws b y) (ha : Ok a) (hb : Ok b) (na : Nrm a) (nb : Nrm b) (hlb : b.length = 1) (hl : a.length < 50000000) : ∃ res : D × D, (fun r => Div1 a (b.getD 0 0) r) res ∧ Gets Try.cx 75 [.d x, .d y] ((fun r => .tu [.d r.1, .d r.2]) res) := by
  have hd : b.getD 0 0 < 4294967296 := hb 0
  have hd0 : 0 < b.getD 0 0 := Nat.pos_of_ne_zero (nb.elim (fun h => by rw [h] at hlb; cases hlb) (fun h => by rw [hlb] at h; exact h))
  have hone : ((b.length : Int) == 1) = true := by simp; omega
  refine gets_some (fn := Try.f75) (fun r => Div1 a (b.getD 0 0) r) (fun r => .tu [.d r.1, .d r.2]) (by kernel_rfl) rfl ?_
  show EvK _ _ _ ⟨[.d x, .d y] ++ us 82, ⟨[], 0⟩⟩ _
  refine ev_seq ?_
  refine ev_reg (by kernel_rfl) ?_
  refine rs_all (s1 := ⟨[.d x, .d y, U, U, .d (.v (.slice none 0 0)), .d (.v (.slice none 0 0))] ++ us 78, ⟨[], 0⟩⟩) (fun cf => by kernel_rfl) ?_
  refine ev_seq ?_
  refine ev_seq ?_
  refine ev_reg (by kernel_rfl) ?_
  refine rs_up 2 [(14, .d x), (15, .d y)] (fun cf => by kernel_rfl) ?_
  refine rs_cp 71 [.d x, .d y] false (some 16) (J (cmpL a b)) (by kernel_rfl) (p_cmp hx hy (by omega)) (by kernel_rfl) ?_
  refine rs_alu [(17, boolA (decide ((cmpL a b) < 0)))] (fun cf => by kernel_rfl) ?_
  rcases hb1 : ((decide ((cmpL a b) < 0)) : Bool) with _ | _
  ·
    have hb1' := of_decide_eq_false hb1
    refine ev_false (by kernel_rfl) ?_
    refine ev_skip ?_
    refine ev_seq ?_
    refine ev_seq ?_
    refine ev_reg (by kernel_rfl) ?_
    refine rs_up 1 [(19, .d y)] (fun cf => by kernel_rfl) ?_
    refine rs_cl (fun m9 => lenA Try.cx 83 m9 (.d y)) (some 20) (b.length) (fun cf => by kernel_rfl) (len_wsN hy) ?_
    refine rs_up 1 [(21, boolA ((b.length : Int) == 1))] (fun cf => by kernel_rfl) ?_
    rw [hone]
    refine rs_alu [] (fun cf => by kernel_rfl) ?_
    refine ev_true (by kernel_rfl) ?_
    refine ev_seq ?_
    refine ev_reg (by kernel_rfl) ?_
    refine rs_up 2 [(23, .d x), (24, .d y)] (fun cf => by kernel_rfl) ?_
    refine rs_cv (fun m9 => indexAddrA Try.cx 83 m9 (.d y) (J 0)) (some 25) (.rp [.v (.int .u32 ((b.getD 0 0 : Nat) : Int))]) (fun cf => by kernel_rfl) (idx_wsN (k := 0) hy (by rfl) (by omega)) ?_
    refine rs_up 1 [(26, intA .u32 ((b.getD 0 0 : Nat) : Int))] (fun cf => by kernel_rfl) ?_
    obtain ⟨y2, hy2, gy2⟩ := p_word (d := b.getD 0 0) hx ha (by omega) hd0 hd
    refine rs_cp 93 [.d x, intA .u32 ((b.getD 0 0 : Nat) : Int)] false (some 27) (.tu [.d y2, intA .u32 ((shR a (b.getD 0 0) a.length 0 : Nat) : Int)]) (by kernel_rfl) (gy2) (by kernel_rfl) ?_
    refine rs_alu [(6, .d y2), (7, intA .u32 ((shR a (b.getD 0 0) a.length 0 : Nat) : Int)), (22, .tu [.d y2, intA .u32 ((shR a (b.getD 0 0) a.length 0 : Nat) : Int)]), (28, .d y2), (29, intA .u32 ((shR a (b.getD 0 0) a.length 0 : Nat) : Int))] (fun cf => by kernel_rfl) ?_
    refine ev_seq ?_
    refine ev_reg (by kernel_rfl) ?_
    refine rs_upm 3 [(30, .d y2), (31, intA .u32 ((shR a (b.getD 0 0) a.length 0 : Nat) : Int)), (32, .own 0 0 0 1 1 (some 1))] ⟨[.row [intA .u32 ((shR a (b.getD 0 0) a.length 0 : Nat) : Int)] 0 .ow none], 1⟩ (fun cf => by kernel_rfl) ?_
    refine rs_take 0 (s1 := ⟨[.d x, .d y, U, U, .d (.v (.slice none 0 0)), .d (.v (.slice none 0 0)), .d y2, intA .u32 ((shR a (b.getD 0 0) a.length 0 : Nat) : Int)] ++ us 6 ++ [.d x, .d y, J (cmpL a b), No, U, .d y, J (b.length : Int), Yes, .tu [.d y2, intA .u32 ((shR a (b.getD 0 0) a.length 0 : Nat) : Int)], .d x, .d y, .rp [.v (.int .u32 ((b.getD 0 0 : Nat) : Int))], intA .u32 ((b.getD 0 0 : Nat) : Int), .tu [.d y2, intA .u32 ((shR a (b.getD 0 0) a.length 0 : Nat) : Int)], .d y2, intA .u32 ((shR a (b.getD 0 0) a.length 0 : Nat) : Int), .d y2, intA .u32 ((shR a (b.getD 0 0) a.length 0 : Nat) : Int), .own 0 0 0 1 1 (some 1)] ++ us 51, ⟨[.row [intA .u32 ((shR a (b.getD 0 0) a.length 0 : Nat) : Int)] 0 .ow none], 1⟩⟩) (fun cf => by kernel_rfl) ?_
    obtain ⟨y3, hy3, gy3⟩ := g_norm (ws_sl false ([shR a (b.getD 0 0) a.length 0])) (by simp)
    refine rs_frz (g := 88) (bs := [.d (.sl false ([shR a (b.getD 0 0) a.length 0]).length (wd ([shR a (b.getD 0 0) a.length 0])))]) (ow := true) (r := .d y3) (Eq.trans (b := match mapO (snapA (⟨[.row [intA .u32 ((shR a (b.getD 0 0) a.length 0 : Nat) : Int)] 0 .ow none], 1⟩ : Mem)) [.own 0 0 0 1 1 (some 1)] with | some bs => some (88, bs, true) | none => none) (by kernel_rfl) (by rw [mapO_one (snap_own (l := [shR a (b.getD 0 0) a.length 0]) (row_at rfl) (by rfl))])) (gy3) fun m1 hEm1 _ => ?_
    show RS _ _ _ _ _ ⟨[.d x, .d y, U, U, .d (.v (.slice none 0 0)), .d (.v (.slice none 0 0)), .d y2, intA .u32 ((shR a (b.getD 0 0) a.length 0 : Nat) : Int)] ++ us 6 ++ [.d x, .d y, J (cmpL a b), No, U, .d y, J (b.length : Int), Yes, .tu [.d y2, intA .u32 ((shR a (b.getD 0 0) a.length 0 : Nat) : Int)], .d x, .d y, .rp [.v (.int .u32 ((b.getD 0 0 : Nat) : Int))], intA .u32 ((b.getD 0 0 : Nat) : Int), .tu [.d y2, intA .u32 ((shR a (b.getD 0 0) a.length 0 : Nat) : Int)], .d y2, intA .u32 ((shR a (b.getD 0 0) a.length 0 : Nat) : Int), .d y2, intA .u32 ((shR a (b.getD 0 0) a.length 0 : Nat) : Int), .own 0 0 0 1 1 (some 1), .d y3] ++ us 50, m1⟩ _
    refine rs_all (s1 := ⟨[.d x, .d y, U, U, .d y2, .d y3, .d y2, intA .u32 ((shR a (b.getD 0 0) a.length 0 : Nat) : Int)] ++ us 6 ++ [.d x, .d y, J (cmpL a b), No, U, .d y, J (b.length : Int), Yes, .tu [.d y2, intA .u32 ((shR a (b.getD 0 0) a.length 0 : Nat) : Int)], .d x, .d y, .rp [.v (.int .u32 ((b.getD 0 0 : Nat) : Int))], intA .u32 ((b.getD 0 0 : Nat) : Int), .tu [.d y2, intA .u32 ((shR a (b.getD 0 0) a.length 0 : Nat) : Int)], .d y2, intA .u32 ((shR a (b.getD 0 0) a.length 0 : Nat) : Int), .d y2, intA .u32 ((shR a (b.getD 0 0) a.length 0 : Nat) : Int), .own 0 0 0 1 1 (some 1), .d y3] ++ us 50, m1⟩) (fun cf => by kernel_rfl) ?_
    refine ev_ret ?_
    exact ⟨(y2, y3), ⟨_, _, hy2, hy3, ok_trim (shW_ok ha hd0 _ _ hd0), ok_trim (ok_cons (Nat.lt_trans (shR_lt a hd0 _ _) hd) ok_nil), nrm_trim _, nrm_trim _, (quoS_val hd0).1, (by rw [val_trim]; show _ + 4294967296 * 0 = _; rw [Nat.mul_zero, Nat.add_zero]; exact (quoS_val hd0).2)⟩, .inr rfl, .tu [.d y2, .d y3], by kernel_rfl, by kernel_rfl⟩
  ·
    have hb1' := of_decide_eq_true hb1
    have hlt : val a < b.getD 0 0 := by rw [← val_one hlb]; rcases cmpL_val ha hb na nb with h | h | h <;> simp only [h.1] at hb1' <;> first | exact h.2 | omega
    refine ev_true (by kernel_rfl) ?_
    refine ev_seq ?_
    refine ev_reg (by kernel_rfl) ?_
    refine rs_all (s1 := ⟨[.d x, .d y, U, U, .d (.v (.slice none 0 0)), .d x] ++ us 8 ++ [.d x, .d y, J (cmpL a b), Yes, .d x] ++ us 65, ⟨[], 0⟩⟩) (fun cf => by kernel_rfl) ?_
    refine ev_ret ?_
    exact ⟨(.v (.slice none 0 0), x), ⟨[], a, ws_nil, hx, ok_nil, ha, .inl rfl, na, (by rw [Nat.div_eq_of_lt hlt]; rfl), (Nat.mod_eq_of_lt hlt).symm⟩, .inr rfl, .tu [.d (.v (.slice none 0 0)), .d x], by kernel_rfl, by kernel_rfl⟩
end Go.Proofs.Ytgkjdfojogemhaa.W
