/-
  The program: the greatest common divisor with a number of one word. Made by program. Conditions: none.
-/
import Derived.Test.YtgkjdfojogemhaaWsb
set_option maxRecDepth 100000
set_option maxHeartbeats 20000000
set_option linter.unusedSimpArgs false
set_option linter.unusedVariables false
namespace Go.Proofs.Ytgkjdfojogemhaa.W
open Go.Am
noncomputable def pgcdC : Code := (lft (lft (lft (rgt (rgt (Try.f58.body.getD .skip))))))
theorem pgcd_round {K : Out → St → Prop} {a b : List Nat} {x y : D} {M : Mem} (x0 x1 x2 x3 x4 x9 x10 x11 x12 : AV) (hx : Ws a x) (hy : Ws b y) (ha : Ok a) (hb : Ok b) (na : Nrm a) (nb : Nrm b) (hla : a.length < 50000000) (hlb : b.length ≤ 1) (z7 z8 z13 z14 z15 z16 z17 z18 z19 z20 z21 z22 z23 : AV) (h0 : b.length = 0 → ∀ z7 z8 z13 z14 z15 z16 z17 z18 z19 z20 z21 z22 z23, K (.exit 0) ⟨[x0, x1, x2, x3, x4, .d x, .d y, z7, z8, x9, x10, x11, x12, z13, z14, z15, z16, z17, z18, z19, z20, z21, z22, z23, U, U], M⟩) (h1 : ∀ (lr : List Nat) (z : D), b.length = 1 → Ws lr z → Ok lr → Nrm lr → val lr = val a % val b → ∀ z7 z8 z13 z14 z15 z16 z17 z18 z19 z20 z21 z22 z23, EvK Try.cx 58 (.loop pgcdC) ⟨[x0, x1, x2, x3, x4, .d y, .d z, z7, z8, x9, x10, x11, x12, z13, z14, z15, z16, z17, z18, z19, z20, z21, z22, z23, U, U], M⟩ K) : EvK Try.cx 58 (.loop pgcdC) ⟨[x0, x1, x2, x3, x4, .d x, .d y, z7, z8, x9, x10, x11, x12, z13, z14, z15, z16, z17, z18, z19, z20, z21, z22, z23, U, U], M⟩ K := by
  refine ev_loop ?_
  refine ev_seq ?_
  refine ev_seq ?_
  refine ev_reg (by kernel_rfl) ?_
  refine rs_up 1 [(13, .d y)] (fun cf => by kernel_rfl) ?_
  refine rs_cl (fun m9 => lenA Try.cx 83 m9 (.d y)) (some 14) (b.length) (fun cf => by kernel_rfl) (len_wsN hy) ?_
  refine rs_all (s1 := ⟨[x0, x1, x2, x3, x4, .d x, .d y, z7, z8, x9, x10, x11, x12, .d y, J (b.length : Int), boolA (decide ((b.length : Int) > 0)), z16, z17, z18, z19, z20, z21, z22, z23, U, U], M⟩) (fun cf => by kernel_rfl) ?_
  rcases hb1 : ((decide ((b.length : Int) > 0)) : Bool) with _ | _
  ·
    have hb1' := of_decide_eq_false hb1
    refine ev_false (by kernel_rfl) ?_
    refine ev_exit ?_
    exact h0 (by omega) _ _ _ _ _ _ _ _ _ _ _ _ _
  ·
    have hb1' := of_decide_eq_true hb1
    refine ev_true (by kernel_rfl) ?_
    refine ev_skip ?_
    refine ev_block ?_
    refine ev_seq ?_
    refine ev_reg (by kernel_rfl) ?_
    refine rs_up 2 [(17, .d x), (18, .d y)] (fun cf => by kernel_rfl) ?_
    obtain ⟨⟨qd, rd⟩, ⟨lq, lr, w1, w2, o1, o2, n1, n2, v1, v2⟩, gdv⟩ := p_div1 hx hy ha hb na nb (by omega) (by omega)
    rw [← val_one (b := b) (by omega)] at v1 v2
    refine rs_cp 75 [.d x, .d y] false (some 19) (.tu [.d qd, .d rd]) (by kernel_rfl) (gdv) (by kernel_rfl) ?_
    refine rs_alu [(7, .d qd), (8, .d rd), (16, .tu [.d qd, .d rd]), (20, .d qd), (21, .d rd)] (fun cf => by kernel_rfl) ?_
    refine ev_reg (by kernel_rfl) ?_
    refine rs_all (s1 := ⟨[x0, x1, x2, x3, x4, .d y, .d rd, .d qd, .d rd, x9, x10, x11, x12, .d y, J (b.length : Int), Yes, .tu [.d qd, .d rd], .d x, .d y, .tu [.d qd, .d rd], .d qd, .d rd, .d y, .d rd, U, U], M⟩) (fun cf => by kernel_rfl) ?_
    exact h1 lr rd (by omega) w2 o2 n2 v2 _ _ _ _ _ _ _ _ _ _ _ _ _
theorem pgcd_loop {K : Out → St → Prop} {M : Mem} (x0 x1 x2 x3 x4 x9 x10 x11 x12 : AV) : ∀ (n : Nat) (a b : List Nat) (x y : D) (z7 z8 z13 z14 z15 z16 z17 z18 z19 z20 z21 z22 z23 : AV) (hn : val b < n) (hx : Ws a x) (hy : Ws b y) (ha : Ok a) (hb : Ok b) (na : Nrm a) (nb : Nrm b) (hla : a.length < 50000000) (hlb : b.length ≤ 1)
    (h : ∀ (lg lz : List Nat) (g z : D) (z7 z8 z13 z14 z15 z16 z17 z18 z19 z20 z21 z22 z23 : AV), Ws lg g → Ok lg → Nrm lg → lg.length < 50000000 → val lg = Nat.gcd (val a) (val b) → K (.exit 0) ⟨[x0, x1, x2, x3, x4, .d g, .d z, z7, z8, x9, x10, x11, x12, z13, z14, z15, z16, z17, z18, z19, z20, z21, z22, z23, U, U], M⟩), EvK Try.cx 58 (.loop pgcdC) ⟨[x0, x1, x2, x3, x4, .d x, .d y, z7, z8, x9, x10, x11, x12, z13, z14, z15, z16, z17, z18, z19, z20, z21, z22, z23, U, U], M⟩ K
  | 0, a, b, x, y, z7, z8, z13, z14, z15, z16, z17, z18, z19, z20, z21, z22, z23, hn, _, _, _, _, _, _, _, _, _ => absurd hn (Nat.not_lt_zero _)
  | n + 1, a, b, x, y, z7, z8, z13, z14, z15, z16, z17, z18, z19, z20, z21, z22, z23, hn, hx, hy, ha, hb, na, nb, hla, hlb, h => by
    refine pgcd_round x0 x1 x2 x3 x4 x9 x10 x11 x12 hx hy ha hb na nb hla hlb z7 z8 z13 z14 z15 z16 z17 z18 z19 z20 z21 z22 z23 (fun h0 z7 z8 z13 z14 z15 z16 z17 z18 z19 z20 z21 z22 z23 => ?_) fun lr z h1 hz oz nz vz z7 z8 z13 z14 z15 z16 z17 z18 z19 z20 z21 z22 z23 => ?_
    · exact h a b x y z7 z8 z13 z14 z15 z16 z17 z18 z19 z20 z21 z22 z23 hx ha na hla (by rw [(len_pos_iff nb).mp h0, Nat.gcd_zero_right])
    · have hp : 0 < val b := Nat.pos_of_ne_zero fun e => by have := (len_pos_iff nb).mpr e; omega
      have hlt : val lr < val b := by rw [vz]; exact Nat.mod_lt _ hp
      have hlr : lr.length ≤ 1 := nrm_len nz (Nat.lt_trans hlt (by have := val_lt hb; rw [h1] at this; exact this))
      refine pgcd_loop x0 x1 x2 x3 x4 x9 x10 x11 x12 n b lr y z z7 z8 z13 z14 z15 z16 z17 z18 z19 z20 z21 z22 z23 (by omega) hy hz hb oz nb nz (by omega) hlr fun lg lz g z' z7 z8 z13 z14 z15 z16 z17 z18 z19 z20 z21 z22 z23 w1 o1 n1 l1 v1 => ?_
      exact h lg lz g z' z7 z8 z13 z14 z15 z16 z17 z18 z19 z20 z21 z22 z23 w1 o1 n1 l1 (by rw [v1, vz, Nat.gcd_comm (val b) (val a % val b), ← Nat.gcd_rec]; exact Nat.gcd_comm _ _)
theorem p_igcd {n m : Int} {s t : Bool} {x y : D} {l p : List Nat} (h : Iv n s x l) (hl : l.length < 40000000) (k : Iv m t y p) (hm : p.length < 40000000) (hlp : p.length ≤ 1) : ∃ res : Bool × D, (fun (r : Bool × D) => ∃ l, Iv ((Nat.gcd n.natAbs m.natAbs : Nat)) r.1 r.2 l) res ∧ Gets Try.cx 58 [.ag [boolA s, .d x], .ag [boolA t, .d y]] ((fun (r : Bool × D) => .ag [boolA r.1, .d r.2]) res) := by
  obtain ⟨hx, ha, na, hn, hs⟩ := h
  obtain ⟨hy, hb, nb, hm2, ht⟩ := k
  refine gets_some (fn := Try.f58) (fun (r : Bool × D) => ∃ l, Iv ((Nat.gcd n.natAbs m.natAbs : Nat)) r.1 r.2 l) (fun (r : Bool × D) => .ag [boolA r.1, .d r.2]) (by kernel_rfl) rfl ?_
  show EvK _ _ _ ⟨[.ag [boolA s, .d x], .ag [boolA t, .d y]] ++ us 24, ⟨[], 0⟩⟩ _
  refine ev_seq ?_
  refine ev_reg (by kernel_rfl) ?_
  refine rs_alm [(2, .ptr 0 0 0), (3, .ptr 1 1 0), (4, .ptr 2 2 0)] ⟨[.row [boolA s, .d x] 0 .ow none, .row [boolA t, .d y] 1 .ow none, .row [No, .d (.v (.slice none 0 0))] 2 .ow none], 3⟩ (fun cf => by kernel_rfl) ?_
  refine ev_seq ?_
  refine ev_reg (by kernel_rfl) ?_
  refine rs_all (s1 := ⟨[.ag [boolA s, .d x], .ag [boolA t, .d y], .ptr 0 0 0, .ptr 1 1 0, .ptr 2 2 0, .d x, .d y, U, U, .ptr 0 0 1, .d x, .ptr 1 1 1, .d y] ++ us 13, ⟨[.row [boolA s, .d x] 0 .ow none, .row [boolA t, .d y] 1 .ow none, .row [No, .d (.v (.slice none 0 0))] 2 .ow none], 3⟩⟩) (fun cf => by kernel_rfl) ?_
  refine ev_seq ?_
  refine ev_block ?_
  refine pgcd_loop _ _ _ _ _ _ _ _ _ (val p + 1) l p x y _ _ _ _ _ _ _ _ _ _ _ _ _ (by omega) hx hy ha hb na nb (by omega) hlp fun lg lz g z v7 v8 v13 v14 v15 v16 v17 v18 v19 v20 v21 v22 v23 wg og ng hlg vg => ?_
  refine ev_seq ?_
  refine ev_reg (by kernel_rfl) ?_
  refine rs_up 1 [(24, .d g)] (fun cf => by kernel_rfl) ?_
  obtain ⟨y1, hy1, gy1⟩ := g_signed (s := false) wg (by omega)
  refine rs_cp 69 [.d g, No] false (some 25) (.ag [boolA (false && decide ((((trimL lg).length : Nat) : Int) > 0)), .d y1]) (by kernel_rfl) (gy1) (by kernel_rfl) ?_
  refine rs_cu (fun m9 => storeA Try.cx 34 m9 (.ptr 2 2 0) (.ag [boolA (false && decide ((((trimL lg).length : Nat) : Int) > 0)), .d y1])) none ⟨[.row [boolA s, .d x] 0 .ow none, .row [boolA t, .d y] 1 .ow none, .row [boolA (false && decide ((((trimL lg).length : Nat) : Int) > 0)), .d y1] 2 .ow none], 3⟩ (fun cf => by kernel_rfl) (store_int hy1 rfl) ?_
  refine rs_all (s1 := ⟨[.ag [boolA s, .d x], .ag [boolA t, .d y], .ptr 0 0 0, .ptr 1 1 0, .ptr 2 2 0, .d g, .d z, v7, v8, .ptr 0 0 1, .d x, .ptr 1 1 1, .d y, v13, v14, v15, v16, v17, v18, v19, v20, v21, v22, v23, .d g, .ag [boolA (false && decide ((((trimL lg).length : Nat) : Int) > 0)), .d y1]], ⟨[.row [boolA s, .d x] 0 .ow none, .row [boolA t, .d y] 1 .ow none, .row [boolA (false && decide ((((trimL lg).length : Nat) : Int) > 0)), .d y1] 2 .ow none], 3⟩⟩) (fun cf => by kernel_rfl) ?_
  refine ev_ret ?_
  exact ⟨((false && decide ((((trimL lg).length : Nat) : Int) > 0)), y1), ⟨_, made_iv (s := false) (n := (Nat.gcd n.natAbs m.natAbs : Nat)) hy1 og (by rw [natAbs_iv hn, natAbs_iv hm2]; show _ = (val lg : Int); rw [vg])⟩, .inr rfl, .ag [boolA (false && decide ((((trimL lg).length : Nat) : Int) > 0)), .d y1], by kernel_rfl, by kernel_rfl⟩
end Go.Proofs.Ytgkjdfojogemhaa.W
