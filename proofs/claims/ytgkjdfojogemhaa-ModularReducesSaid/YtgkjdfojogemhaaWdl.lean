/-
  The reference: rational numbers. Made by program. Conditions: none.
-/
import Derived.Test.YtgkjdfojogemhaaWdk
set_option maxRecDepth 100000
set_option maxHeartbeats 20000000
set_option linter.unusedSimpArgs false
set_option linter.unusedVariables false
namespace Go.Proofs.Ytgkjdfojogemhaa.W
open Go.Am


theorem iv_len {n : Int} {s : Bool} {x : D} {l : List Nat} (h : Iv n s x l) {k : Nat} (hb : n.natAbs < 4294967296 ^ k) : l.length ≤ k := by
  obtain ⟨_, _, nl, hn, _⟩ := h
  rw [natAbs_iv hn] at hb
  exact nrm_len nl hb
theorem iv_lt {n : Int} {s : Bool} {x : D} {l : List Nat} (h : Iv n s x l) : n.natAbs < 4294967296 ^ l.length := by
  obtain ⟨_, ol, _, hn, _⟩ := h
  rw [natAbs_iv hn]
  exact val_lt ol
theorem store_rat {m : Mem} {h g : Nat} {s t : Bool} {l p : List Nat} {x y : D} {c0 c1 c2 c3 : AV} (hx : Ws l x) (hy : Ws p y) (hr : m.b[h]? = some (.row [c0, c1, c2, c3] g .ow none)) : storeA Try.cx 36 m (.ptr h g 0) (.ag [boolA s, .d x, boolA t, .d y]) = some ⟨m.b.set h (.row [boolA s, .d x, boolA t, .d y] g .ow none), m.n⟩ := by
  have e : storeA Try.cx 36 m (.ptr h g 0) (.ag [boolA s, .d x, boolA t, .d y]) = if [boolA s, .d x, boolA t, .d y].length = 4 ∧ [boolA s, .d x, boolA t, .d y].all cellOk = true then (match own? m h g with
    | some (cs, kid) => if 0 + 4 ≤ cs.length then some (m.write h g kid (over cs 0 [boolA s, .d x, boolA t, .d y])) else none
    | none => none) else none := by kernel_rfl
  have ho : own? m h g = some ([c0, c1, c2, c3], none) := by simp [own?, hr]
  have hc : [boolA s, .d x, boolA t, .d y].all cellOk = true := by
    simp only [List.all_cons, List.all_nil, cellOk_ws hx, cellOk_ws hy, Bool.and_true, Bool.true_and]
    rfl
  rw [e, if_pos ⟨rfl, hc⟩, ho]
  rfl
theorem div_natAbs_le (n m : Int) : (n / m).natAbs ≤ n.natAbs := Int.natAbs_ediv_le_natAbs n m

theorem g_exact {n m : Int} {s t : Bool} {x y : D} {l p : List Nat} (h : Iv n s x l) (hl : l.length < 40000000) (k : Iv m t y p) (hm : p.length < 40000000) (hne : m ≠ 0) : ∃ res : Bool × D, (fun (r : Bool × D) => ∃ l, Iv (n / m) r.1 r.2 l) res ∧ Gets Try.cx 64 [.ag [boolA s, .d x], .ag [boolA t, .d y]] ((fun (r : Bool × D) => .ag [boolA r.1, .d r.2]) res) := by
  refine gets_some (fn := Try.f64) (fun (r : Bool × D) => ∃ l, Iv (n / m) r.1 r.2 l) (fun (r : Bool × D) => .ag [boolA r.1, .d r.2]) (by kernel_rfl) rfl ?_
  show EvK _ _ _ ⟨[.ag [boolA s, .d x], .ag [boolA t, .d y]] ++ us 14, ⟨[], 0⟩⟩ _
  refine ev_seq ?_
  refine ev_reg (by kernel_rfl) ?_
  refine rs_alm [(2, .ptr 0 0 0), (3, .ptr 1 1 0), (4, .ptr 2 2 0)] ⟨[.row [boolA s, .d x] 0 .ow none, .row [boolA t, .d y] 1 .ow none, .row [No, .d (.v (.slice none 0 0))] 2 .ow none], 3⟩ (fun cf => by kernel_rfl) ?_
  refine ev_seq ?_
  refine ev_reg (by kernel_rfl) ?_
  refine rs_up 2 [(9, .ag [boolA s, .d x]), (10, .ag [boolA t, .d y])] (fun cf => by kernel_rfl) ?_
  obtain ⟨⟨⟨sq1, xq1⟩, ⟨sr1, xr1⟩⟩, ⟨⟨lq1, Iq1⟩, ⟨lr1, Ir1⟩⟩, g1⟩ := g_divmod h (by omega) k (by omega) (hne)
  refine rs_cp 42 [.ag [boolA s, .d x], .ag [boolA t, .d y]] false (some 11) (.tu [.ag [boolA sq1, .d xq1], .ag [boolA sr1, .d xr1], J 0]) (by kernel_rfl) (g1) (by kernel_rfl) ?_
  refine rs_upm 6 [(5, .ptr 3 3 0), (6, .ptr 4 4 0), (8, .tu [.ag [boolA sq1, .d xq1], .ag [boolA sr1, .d xr1], J 0]), (12, .ag [boolA sq1, .d xq1]), (13, .ag [boolA sr1, .d xr1]), (14, J 0)] ⟨[.row [boolA s, .d x] 0 .ow none, .row [boolA t, .d y] 1 .ow none, .row [No, .d (.v (.slice none 0 0))] 2 .ow none, .row [No, .d (.v (.slice none 0 0))] 3 .ow none, .row [No, .d (.v (.slice none 0 0))] 4 .ow none], 5⟩ (fun cf => by kernel_rfl) ?_
  refine rs_cu (fun m9 => storeA Try.cx 34 m9 (.ptr 3 3 0) (.ag [boolA sq1, .d xq1])) none ⟨[.row [boolA s, .d x] 0 .ow none, .row [boolA t, .d y] 1 .ow none, .row [No, .d (.v (.slice none 0 0))] 2 .ow none, .row [boolA sq1, .d xq1] 3 .ow none, .row [No, .d (.v (.slice none 0 0))] 4 .ow none], 5⟩ (fun cf => by kernel_rfl) (store_int Iq1.1 rfl) ?_
  refine rs_cu (fun m9 => storeA Try.cx 34 m9 (.ptr 4 4 0) (.ag [boolA sr1, .d xr1])) none ⟨[.row [boolA s, .d x] 0 .ow none, .row [boolA t, .d y] 1 .ow none, .row [No, .d (.v (.slice none 0 0))] 2 .ow none, .row [boolA sq1, .d xq1] 3 .ow none, .row [boolA sr1, .d xr1] 4 .ow none], 5⟩ (fun cf => by kernel_rfl) (store_int Ir1.1 rfl) ?_
  refine rs_alu [(7, J 0)] (fun cf => by kernel_rfl) ?_
  refine ev_seq ?_
  refine ev_reg (by kernel_rfl) ?_
  refine rs_up 1 [(15, .ag [boolA sq1, .d xq1])] (fun cf => by kernel_rfl) ?_
  refine rs_cu (fun m9 => storeA Try.cx 34 m9 (.ptr 2 2 0) (.ag [boolA sq1, .d xq1])) none ⟨[.row [boolA s, .d x] 0 .ow none, .row [boolA t, .d y] 1 .ow none, .row [boolA sq1, .d xq1] 2 .ow none, .row [boolA sq1, .d xq1] 3 .ow none, .row [boolA sr1, .d xr1] 4 .ow none], 5⟩ (fun cf => by kernel_rfl) (store_int Iq1.1 rfl) ?_
  refine rs_all (s1 := ⟨[.ag [boolA s, .d x], .ag [boolA t, .d y], .ptr 0 0 0, .ptr 1 1 0, .ptr 2 2 0, .ptr 3 3 0, .ptr 4 4 0, J 0, .tu [.ag [boolA sq1, .d xq1], .ag [boolA sr1, .d xr1], J 0], .ag [boolA s, .d x], .ag [boolA t, .d y], .tu [.ag [boolA sq1, .d xq1], .ag [boolA sr1, .d xr1], J 0], .ag [boolA sq1, .d xq1], .ag [boolA sr1, .d xr1], J 0, .ag [boolA sq1, .d xq1]], ⟨[.row [boolA s, .d x] 0 .ow none, .row [boolA t, .d y] 1 .ow none, .row [boolA sq1, .d xq1] 2 .ow none, .row [boolA sq1, .d xq1] 3 .ow none, .row [boolA sr1, .d xr1] 4 .ow none], 5⟩⟩) (fun cf => by kernel_rfl) ?_
  refine ev_ret ?_
  exact ⟨(sq1, xq1), ⟨_, Iq1⟩, .inr rfl, .ag [boolA sq1, .d xq1], by kernel_rfl, by kernel_rfl⟩
/-- A rational number: numerator and denominator. -/
def Rv (n d : Int) (r : (Bool × D) × (Bool × D)) : Prop := (∃ l, Iv n r.1.1 r.1.2 l) ∧ (∃ l, Iv d r.2.1 r.2.2 l)
/-- What is divided away. -/
def lowG (n d : Int) : Int := if Int.sign d < 0 then -(Nat.gcd n.natAbs d.natAbs : Nat) else (Nat.gcd n.natAbs d.natAbs : Nat)
theorem gcd_ne {n d : Int} (hd : d ≠ 0) : ((Nat.gcd n.natAbs d.natAbs : Nat) : Int) ≠ 0 := by
  have := Nat.gcd_pos_of_pos_right n.natAbs (show 0 < d.natAbs by omega)
  omega

theorem g_lowest {n m : Int} {s t : Bool} {x y : D} {l p : List Nat} (h : Iv n s x l) (hl : l.length < 10000000) (k : Iv m t y p) (hm : p.length < 10000000) (hne : m ≠ 0) : ∃ res : (Bool × D) × (Bool × D), (fun (r : (Bool × D) × (Bool × D)) => Rv (n / lowG n m) (m / lowG n m) r) res ∧ Gets Try.cx 40 [.ag [boolA s, .d x], .ag [boolA t, .d y]] ((fun (r : (Bool × D) × (Bool × D)) => .ag [boolA r.1.1, .d r.1.2, boolA r.2.1, .d r.2.2]) res) := by
  refine gets_some (fn := Try.f40) (fun (r : (Bool × D) × (Bool × D)) => Rv (n / lowG n m) (m / lowG n m) r) (fun (r : (Bool × D) × (Bool × D)) => .ag [boolA r.1.1, .d r.1.2, boolA r.2.1, .d r.2.2]) (by kernel_rfl) rfl ?_
  show EvK _ _ _ ⟨[.ag [boolA s, .d x], .ag [boolA t, .d y]] ++ us 19, ⟨[], 0⟩⟩ _
  refine ev_seq ?_
  refine ev_reg (by kernel_rfl) ?_
  refine rs_alm [(2, .ptr 0 0 0), (3, .ptr 1 1 0), (4, .ptr 2 2 0)] ⟨[.row [boolA s, .d x] 0 .ow none, .row [boolA t, .d y] 1 .ow none, .row [No, .d (.v (.slice none 0 0)), No, .d (.v (.slice none 0 0))] 2 .ow none], 3⟩ (fun cf => by kernel_rfl) ?_
  refine ev_seq ?_
  refine ev_reg (by kernel_rfl) ?_
  refine rs_up 2 [(6, .ag [boolA s, .d x]), (7, .ag [boolA t, .d y])] (fun cf => by kernel_rfl) ?_
  obtain ⟨⟨s1, x1⟩, ⟨l1, I1⟩, g1⟩ := g_gcd h (by omega) k (by omega)
  have hll1 : l1.length ≤ l.length + p.length := iv_len I1 (gcd_lt (iv_lt h) (iv_lt k))
  refine rs_cp 61 [.ag [boolA s, .d x], .ag [boolA t, .d y]] false (some 8) (.ag [boolA s1, .d x1]) (by kernel_rfl) (g1) (by kernel_rfl) ?_
  refine rs_upm 1 [(5, .ptr 3 3 0)] ⟨[.row [boolA s, .d x] 0 .ow none, .row [boolA t, .d y] 1 .ow none, .row [No, .d (.v (.slice none 0 0)), No, .d (.v (.slice none 0 0))] 2 .ow none, .row [No, .d (.v (.slice none 0 0))] 3 .ow none], 4⟩ (fun cf => by kernel_rfl) ?_
  refine rs_cu (fun m9 => storeA Try.cx 34 m9 (.ptr 3 3 0) (.ag [boolA s1, .d x1])) none ⟨[.row [boolA s, .d x] 0 .ow none, .row [boolA t, .d y] 1 .ow none, .row [No, .d (.v (.slice none 0 0)), No, .d (.v (.slice none 0 0))] 2 .ow none, .row [boolA s1, .d x1] 3 .ow none], 4⟩ (fun cf => by kernel_rfl) (store_int I1.1 rfl) ?_
  refine rs_alu [] (fun cf => by kernel_rfl) ?_
  refine ev_seq ?_
  refine ev_seq ?_
  refine ev_reg (by kernel_rfl) ?_
  refine rs_up 1 [(9, .ag [boolA t, .d y])] (fun cf => by kernel_rfl) ?_
  refine rs_cp 31 [.ag [boolA t, .d y]] false (some 10) (J (Int.sign m)) (by kernel_rfl) (g_sign k (by omega)) (by kernel_rfl) ?_
  refine rs_alu [(11, boolA (decide ((Int.sign m) < 0)))] (fun cf => by kernel_rfl) ?_
  rcases hb2 : ((decide ((Int.sign m) < 0)) : Bool) with _ | _
  ·
    have hb2' := of_decide_eq_false hb2
    have hG : lowG n m = (Nat.gcd n.natAbs m.natAbs : Nat) := by unfold lowG; rw [if_neg hb2']
    refine ev_false (by kernel_rfl) ?_
    refine ev_skip ?_
    refine ev_seq ?_
    refine ev_reg (by kernel_rfl) ?_
    refine rs_up 2 [(14, .ag [boolA s, .d x]), (15, .ag [boolA s1, .d x1])] (fun cf => by kernel_rfl) ?_
    obtain ⟨⟨s3, x3⟩, ⟨l3, I3⟩, g3⟩ := g_exact h (by omega) I1 (by omega) (gcd_ne hne)
    refine rs_cp 64 [.ag [boolA s, .d x], .ag [boolA s1, .d x1]] false (some 16) (.ag [boolA s3, .d x3]) (by kernel_rfl) (g3) (by kernel_rfl) ?_
    refine rs_up 2 [(17, .ag [boolA t, .d y]), (18, .ag [boolA s1, .d x1])] (fun cf => by kernel_rfl) ?_
    obtain ⟨⟨s4, x4⟩, ⟨l4, I4⟩, g4⟩ := g_exact k (by omega) I1 (by omega) (gcd_ne hne)
    refine rs_cp 64 [.ag [boolA t, .d y], .ag [boolA s1, .d x1]] false (some 19) (.ag [boolA s4, .d x4]) (by kernel_rfl) (g4) (by kernel_rfl) ?_
    refine rs_up 1 [(20, .ag [boolA s3, .d x3, boolA s4, .d x4])] (fun cf => by kernel_rfl) ?_
    refine rs_cu (fun m9 => storeA Try.cx 36 m9 (.ptr 2 2 0) (.ag [boolA s3, .d x3, boolA s4, .d x4])) none ⟨[.row [boolA s, .d x] 0 .ow none, .row [boolA t, .d y] 1 .ow none, .row [boolA s3, .d x3, boolA s4, .d x4] 2 .ow none, .row [boolA s1, .d x1] 3 .ow none], 4⟩ (fun cf => by kernel_rfl) (store_rat I3.1 I4.1 rfl) ?_
    refine rs_all (s1 := ⟨[.ag [boolA s, .d x], .ag [boolA t, .d y], .ptr 0 0 0, .ptr 1 1 0, .ptr 2 2 0, .ptr 3 3 0, .ag [boolA s, .d x], .ag [boolA t, .d y], .ag [boolA s1, .d x1], .ag [boolA t, .d y], J (Int.sign m), No, U, U, .ag [boolA s, .d x], .ag [boolA s1, .d x1], .ag [boolA s3, .d x3], .ag [boolA t, .d y], .ag [boolA s1, .d x1], .ag [boolA s4, .d x4], .ag [boolA s3, .d x3, boolA s4, .d x4]], ⟨[.row [boolA s, .d x] 0 .ow none, .row [boolA t, .d y] 1 .ow none, .row [boolA s3, .d x3, boolA s4, .d x4] 2 .ow none, .row [boolA s1, .d x1] 3 .ow none], 4⟩⟩) (fun cf => by kernel_rfl) ?_
    refine ev_ret ?_
    exact ⟨((s3, x3), (s4, x4)), ⟨⟨_, by rw [hG]; exact I3⟩, ⟨_, by rw [hG]; exact I4⟩⟩, .inr rfl, .ag [boolA s3, .d x3, boolA s4, .d x4], by kernel_rfl, by kernel_rfl⟩
  ·
    have hb2' := of_decide_eq_true hb2
    have hG : lowG n m = -(Nat.gcd n.natAbs m.natAbs : Nat) := by unfold lowG; rw [if_pos hb2']
    refine ev_true (by kernel_rfl) ?_
    refine ev_reg (by kernel_rfl) ?_
    refine rs_up 1 [(12, .ag [boolA s1, .d x1])] (fun cf => by kernel_rfl) ?_
    obtain ⟨⟨s5, x5⟩, ⟨l5, I5⟩, g5⟩ := g_neg I1 (by omega)
    have hll5 : l5.length ≤ l1.length := iv_len I5 (by rw [Int.natAbs_neg]; exact iv_lt I1)
    refine rs_cp 35 [.ag [boolA s1, .d x1]] false (some 13) (.ag [boolA s5, .d x5]) (by kernel_rfl) (g5) (by kernel_rfl) ?_
    refine rs_cu (fun m9 => storeA Try.cx 34 m9 (.ptr 3 3 0) (.ag [boolA s5, .d x5])) none ⟨[.row [boolA s, .d x] 0 .ow none, .row [boolA t, .d y] 1 .ow none, .row [No, .d (.v (.slice none 0 0)), No, .d (.v (.slice none 0 0))] 2 .ow none, .row [boolA s5, .d x5] 3 .ow none], 4⟩ (fun cf => by kernel_rfl) (store_int I5.1 rfl) ?_
    refine rs_alu [] (fun cf => by kernel_rfl) ?_
    refine ev_seq ?_
    refine ev_reg (by kernel_rfl) ?_
    refine rs_up 2 [(14, .ag [boolA s, .d x]), (15, .ag [boolA s5, .d x5])] (fun cf => by kernel_rfl) ?_
    obtain ⟨⟨s6, x6⟩, ⟨l6, I6⟩, g6⟩ := g_exact h (by omega) I5 (by omega) ((fun e => gcd_ne (n := n) (d := m) hne (by omega)))
    refine rs_cp 64 [.ag [boolA s, .d x], .ag [boolA s5, .d x5]] false (some 16) (.ag [boolA s6, .d x6]) (by kernel_rfl) (g6) (by kernel_rfl) ?_
    refine rs_up 2 [(17, .ag [boolA t, .d y]), (18, .ag [boolA s5, .d x5])] (fun cf => by kernel_rfl) ?_
    obtain ⟨⟨s7, x7⟩, ⟨l7, I7⟩, g7⟩ := g_exact k (by omega) I5 (by omega) ((fun e => gcd_ne (n := n) (d := m) hne (by omega)))
    refine rs_cp 64 [.ag [boolA t, .d y], .ag [boolA s5, .d x5]] false (some 19) (.ag [boolA s7, .d x7]) (by kernel_rfl) (g7) (by kernel_rfl) ?_
    refine rs_up 1 [(20, .ag [boolA s6, .d x6, boolA s7, .d x7])] (fun cf => by kernel_rfl) ?_
    refine rs_cu (fun m9 => storeA Try.cx 36 m9 (.ptr 2 2 0) (.ag [boolA s6, .d x6, boolA s7, .d x7])) none ⟨[.row [boolA s, .d x] 0 .ow none, .row [boolA t, .d y] 1 .ow none, .row [boolA s6, .d x6, boolA s7, .d x7] 2 .ow none, .row [boolA s5, .d x5] 3 .ow none], 4⟩ (fun cf => by kernel_rfl) (store_rat I6.1 I7.1 rfl) ?_
    refine rs_all (s1 := ⟨[.ag [boolA s, .d x], .ag [boolA t, .d y], .ptr 0 0 0, .ptr 1 1 0, .ptr 2 2 0, .ptr 3 3 0, .ag [boolA s, .d x], .ag [boolA t, .d y], .ag [boolA s1, .d x1], .ag [boolA t, .d y], J (Int.sign m), Yes, .ag [boolA s1, .d x1], .ag [boolA s5, .d x5], .ag [boolA s, .d x], .ag [boolA s5, .d x5], .ag [boolA s6, .d x6], .ag [boolA t, .d y], .ag [boolA s5, .d x5], .ag [boolA s7, .d x7], .ag [boolA s6, .d x6, boolA s7, .d x7]], ⟨[.row [boolA s, .d x] 0 .ow none, .row [boolA t, .d y] 1 .ow none, .row [boolA s6, .d x6, boolA s7, .d x7] 2 .ow none, .row [boolA s5, .d x5] 3 .ow none], 4⟩⟩) (fun cf => by kernel_rfl) ?_
    refine ev_ret ?_
    exact ⟨((s6, x6), (s7, x7)), ⟨⟨_, by rw [hG]; exact I6⟩, ⟨_, by rw [hG]; exact I7⟩⟩, .inr rfl, .ag [boolA s6, .d x6, boolA s7, .d x7], by kernel_rfl, by kernel_rfl⟩

theorem mul_lt {n m : Int} {i j : Nat} (h : n.natAbs < 4294967296 ^ i) (k : m.natAbs < 4294967296 ^ j) : (n * m).natAbs < 4294967296 ^ (i + j) := by
  rw [Int.natAbs_mul, Nat.pow_add]
  exact Nat.mul_lt_mul'' h k
theorem add_lt {n m : Int} {i j : Nat} (h : n.natAbs < 4294967296 ^ i) (k : m.natAbs < 4294967296 ^ j) : (n + m).natAbs < 4294967296 ^ (i + j + 1) := by
  have h1 : 4294967296 ^ i ≤ 4294967296 ^ (i + j) := Nat.pow_le_pow_right (by decide) (by omega)
  have h2 : 4294967296 ^ j ≤ 4294967296 ^ (i + j) := Nat.pow_le_pow_right (by decide) (by omega)
  have h3 := Int.natAbs_add_le n m
  rw [Nat.pow_succ]
  generalize 4294967296 ^ (i + j) = z at h1 h2
  generalize 4294967296 ^ i = z1 at h h1
  generalize 4294967296 ^ j = z2 at k h2
  omega
/-- A sum's and a product's numerator and denominator. -/
def addN (a b c d : Int) : Int := a * d + c * b
def ratN (n d : Int) : Int := n / lowG n d
def ratD (n d : Int) : Int := d / lowG n d

theorem g_radd {a b c d : Int} {s t u v : Bool} {x y z q : D} {l p e f : List Nat} (h : Iv a s x l) (hl : l.length < 2000000) (k : Iv b t y p) (hm : p.length < 2000000) (hc : Iv c u z e) (hle : e.length < 2000000) (hd : Iv d v q f) (hlf : f.length < 2000000) (hne : b * d ≠ 0) : ∃ res : (Bool × D) × (Bool × D), (fun (r : (Bool × D) × (Bool × D)) => Rv (ratN (a * d + c * b) (b * d)) (ratD (a * d + c * b) (b * d)) r) res ∧ Gets Try.cx 23 [.ag [boolA s, .d x, boolA t, .d y], .ag [boolA u, .d z, boolA v, .d q]] ((fun (r : (Bool × D) × (Bool × D)) => .ag [boolA r.1.1, .d r.1.2, boolA r.2.1, .d r.2.2]) res) := by
  refine gets_some (fn := Try.f23) (fun (r : (Bool × D) × (Bool × D)) => Rv (ratN (a * d + c * b) (b * d)) (ratD (a * d + c * b) (b * d)) r) (fun (r : (Bool × D) × (Bool × D)) => .ag [boolA r.1.1, .d r.1.2, boolA r.2.1, .d r.2.2]) (by kernel_rfl) rfl ?_
  show EvK _ _ _ ⟨[.ag [boolA s, .d x, boolA t, .d y], .ag [boolA u, .d z, boolA v, .d q]] ++ us 20, ⟨[], 0⟩⟩ _
  refine ev_seq ?_
  refine ev_reg (by kernel_rfl) ?_
  refine rs_alm [(2, .ptr 0 0 0), (3, .ptr 1 1 0), (4, .ptr 2 2 0)] ⟨[.row [boolA s, .d x, boolA t, .d y] 0 .ow none, .row [boolA u, .d z, boolA v, .d q] 1 .ow none, .row [No, .d (.v (.slice none 0 0)), No, .d (.v (.slice none 0 0))] 2 .ow none], 3⟩ (fun cf => by kernel_rfl) ?_
  refine ev_seq ?_
  refine ev_reg (by kernel_rfl) ?_
  refine rs_up 4 [(5, .ptr 0 0 0), (6, .ag [boolA s, .d x]), (7, .ptr 1 1 2), (8, .ag [boolA v, .d q])] (fun cf => by kernel_rfl) ?_
  obtain ⟨⟨s1, x1⟩, ⟨l1, I1⟩, g1⟩ := g_mul h (by omega) hd (by omega)
  have hll1 : l1.length ≤ l.length + f.length := iv_len I1 (mul_lt (iv_lt h) (iv_lt hd))
  refine rs_cp 28 [.ag [boolA s, .d x], .ag [boolA v, .d q]] false (some 9) (.ag [boolA s1, .d x1]) (by kernel_rfl) (g1) (by kernel_rfl) ?_
  refine rs_up 4 [(10, .ptr 1 1 0), (11, .ag [boolA u, .d z]), (12, .ptr 0 0 2), (13, .ag [boolA t, .d y])] (fun cf => by kernel_rfl) ?_
  obtain ⟨⟨s2, x2⟩, ⟨l2, I2⟩, g2⟩ := g_mul hc (by omega) k (by omega)
  have hll2 : l2.length ≤ e.length + p.length := iv_len I2 (mul_lt (iv_lt hc) (iv_lt k))
  refine rs_cp 28 [.ag [boolA u, .d z], .ag [boolA t, .d y]] false (some 14) (.ag [boolA s2, .d x2]) (by kernel_rfl) (g2) (by kernel_rfl) ?_
  obtain ⟨⟨s3, x3⟩, ⟨l3, I3⟩, g3⟩ := g_add I1 (by omega) I2 (by omega)
  have hll3 : l3.length ≤ l1.length + l2.length + 1 := iv_len I3 (add_lt (iv_lt I1) (iv_lt I2))
  refine rs_cp 39 [.ag [boolA s1, .d x1], .ag [boolA s2, .d x2]] false (some 15) (.ag [boolA s3, .d x3]) (by kernel_rfl) (g3) (by kernel_rfl) ?_
  refine rs_up 4 [(16, .ptr 0 0 2), (17, .ag [boolA t, .d y]), (18, .ptr 1 1 2), (19, .ag [boolA v, .d q])] (fun cf => by kernel_rfl) ?_
  obtain ⟨⟨s4, x4⟩, ⟨l4, I4⟩, g4⟩ := g_mul k (by omega) hd (by omega)
  have hll4 : l4.length ≤ p.length + f.length := iv_len I4 (mul_lt (iv_lt k) (iv_lt hd))
  refine rs_cp 28 [.ag [boolA t, .d y], .ag [boolA v, .d q]] false (some 20) (.ag [boolA s4, .d x4]) (by kernel_rfl) (g4) (by kernel_rfl) ?_
  obtain ⟨⟨⟨sa5, xa5⟩, ⟨sb5, xb5⟩⟩, hlow5, g5⟩ := g_lowest I3 (by omega) I4 (by omega) (hne)
  obtain ⟨⟨la5, Ia5⟩, ⟨lb5, Ib5⟩⟩ := hlow5
  refine rs_cp 40 [.ag [boolA s3, .d x3], .ag [boolA s4, .d x4]] false (some 21) (.ag [boolA sa5, .d xa5, boolA sb5, .d xb5]) (by kernel_rfl) (g5) (by kernel_rfl) ?_
  refine rs_cu (fun m9 => storeA Try.cx 36 m9 (.ptr 2 2 0) (.ag [boolA sa5, .d xa5, boolA sb5, .d xb5])) none ⟨[.row [boolA s, .d x, boolA t, .d y] 0 .ow none, .row [boolA u, .d z, boolA v, .d q] 1 .ow none, .row [boolA sa5, .d xa5, boolA sb5, .d xb5] 2 .ow none], 3⟩ (fun cf => by kernel_rfl) (store_rat Ia5.1 Ib5.1 rfl) ?_
  refine rs_all (s1 := ⟨[.ag [boolA s, .d x, boolA t, .d y], .ag [boolA u, .d z, boolA v, .d q], .ptr 0 0 0, .ptr 1 1 0, .ptr 2 2 0, .ptr 0 0 0, .ag [boolA s, .d x], .ptr 1 1 2, .ag [boolA v, .d q], .ag [boolA s1, .d x1], .ptr 1 1 0, .ag [boolA u, .d z], .ptr 0 0 2, .ag [boolA t, .d y], .ag [boolA s2, .d x2], .ag [boolA s3, .d x3], .ptr 0 0 2, .ag [boolA t, .d y], .ptr 1 1 2, .ag [boolA v, .d q], .ag [boolA s4, .d x4], .ag [boolA sa5, .d xa5, boolA sb5, .d xb5]], ⟨[.row [boolA s, .d x, boolA t, .d y] 0 .ow none, .row [boolA u, .d z, boolA v, .d q] 1 .ow none, .row [boolA sa5, .d xa5, boolA sb5, .d xb5] 2 .ow none], 3⟩⟩) (fun cf => by kernel_rfl) ?_
  refine ev_ret ?_
  exact ⟨((sa5, xa5), (sb5, xb5)), ⟨⟨_, Ia5⟩, ⟨_, Ib5⟩⟩, .inr rfl, .ag [boolA sa5, .d xa5, boolA sb5, .d xb5], by kernel_rfl, by kernel_rfl⟩

theorem g_rmul {a b c d : Int} {s t u v : Bool} {x y z q : D} {l p e f : List Nat} (h : Iv a s x l) (hl : l.length < 2000000) (k : Iv b t y p) (hm : p.length < 2000000) (hc : Iv c u z e) (hle : e.length < 2000000) (hd : Iv d v q f) (hlf : f.length < 2000000) (hne : b * d ≠ 0) : ∃ res : (Bool × D) × (Bool × D), (fun (r : (Bool × D) × (Bool × D)) => Rv (ratN (a * c) (b * d)) (ratD (a * c) (b * d)) r) res ∧ Gets Try.cx 24 [.ag [boolA s, .d x, boolA t, .d y], .ag [boolA u, .d z, boolA v, .d q]] ((fun (r : (Bool × D) × (Bool × D)) => .ag [boolA r.1.1, .d r.1.2, boolA r.2.1, .d r.2.2]) res) := by
  refine gets_some (fn := Try.f24) (fun (r : (Bool × D) × (Bool × D)) => Rv (ratN (a * c) (b * d)) (ratD (a * c) (b * d)) r) (fun (r : (Bool × D) × (Bool × D)) => .ag [boolA r.1.1, .d r.1.2, boolA r.2.1, .d r.2.2]) (by kernel_rfl) rfl ?_
  show EvK _ _ _ ⟨[.ag [boolA s, .d x, boolA t, .d y], .ag [boolA u, .d z, boolA v, .d q]] ++ us 14, ⟨[], 0⟩⟩ _
  refine ev_seq ?_
  refine ev_reg (by kernel_rfl) ?_
  refine rs_alm [(2, .ptr 0 0 0), (3, .ptr 1 1 0), (4, .ptr 2 2 0)] ⟨[.row [boolA s, .d x, boolA t, .d y] 0 .ow none, .row [boolA u, .d z, boolA v, .d q] 1 .ow none, .row [No, .d (.v (.slice none 0 0)), No, .d (.v (.slice none 0 0))] 2 .ow none], 3⟩ (fun cf => by kernel_rfl) ?_
  refine ev_seq ?_
  refine ev_reg (by kernel_rfl) ?_
  refine rs_up 4 [(5, .ptr 0 0 0), (6, .ag [boolA s, .d x]), (7, .ptr 1 1 0), (8, .ag [boolA u, .d z])] (fun cf => by kernel_rfl) ?_
  obtain ⟨⟨s1, x1⟩, ⟨l1, I1⟩, g1⟩ := g_mul h (by omega) hc (by omega)
  have hll1 : l1.length ≤ l.length + e.length := iv_len I1 (mul_lt (iv_lt h) (iv_lt hc))
  refine rs_cp 28 [.ag [boolA s, .d x], .ag [boolA u, .d z]] false (some 9) (.ag [boolA s1, .d x1]) (by kernel_rfl) (g1) (by kernel_rfl) ?_
  refine rs_up 4 [(10, .ptr 0 0 2), (11, .ag [boolA t, .d y]), (12, .ptr 1 1 2), (13, .ag [boolA v, .d q])] (fun cf => by kernel_rfl) ?_
  obtain ⟨⟨s2, x2⟩, ⟨l2, I2⟩, g2⟩ := g_mul k (by omega) hd (by omega)
  have hll2 : l2.length ≤ p.length + f.length := iv_len I2 (mul_lt (iv_lt k) (iv_lt hd))
  refine rs_cp 28 [.ag [boolA t, .d y], .ag [boolA v, .d q]] false (some 14) (.ag [boolA s2, .d x2]) (by kernel_rfl) (g2) (by kernel_rfl) ?_
  obtain ⟨⟨⟨sa3, xa3⟩, ⟨sb3, xb3⟩⟩, hlow3, g3⟩ := g_lowest I1 (by omega) I2 (by omega) (hne)
  obtain ⟨⟨la3, Ia3⟩, ⟨lb3, Ib3⟩⟩ := hlow3
  refine rs_cp 40 [.ag [boolA s1, .d x1], .ag [boolA s2, .d x2]] false (some 15) (.ag [boolA sa3, .d xa3, boolA sb3, .d xb3]) (by kernel_rfl) (g3) (by kernel_rfl) ?_
  refine rs_cu (fun m9 => storeA Try.cx 36 m9 (.ptr 2 2 0) (.ag [boolA sa3, .d xa3, boolA sb3, .d xb3])) none ⟨[.row [boolA s, .d x, boolA t, .d y] 0 .ow none, .row [boolA u, .d z, boolA v, .d q] 1 .ow none, .row [boolA sa3, .d xa3, boolA sb3, .d xb3] 2 .ow none], 3⟩ (fun cf => by kernel_rfl) (store_rat Ia3.1 Ib3.1 rfl) ?_
  refine rs_all (s1 := ⟨[.ag [boolA s, .d x, boolA t, .d y], .ag [boolA u, .d z, boolA v, .d q], .ptr 0 0 0, .ptr 1 1 0, .ptr 2 2 0, .ptr 0 0 0, .ag [boolA s, .d x], .ptr 1 1 0, .ag [boolA u, .d z], .ag [boolA s1, .d x1], .ptr 0 0 2, .ag [boolA t, .d y], .ptr 1 1 2, .ag [boolA v, .d q], .ag [boolA s2, .d x2], .ag [boolA sa3, .d xa3, boolA sb3, .d xb3]], ⟨[.row [boolA s, .d x, boolA t, .d y] 0 .ow none, .row [boolA u, .d z, boolA v, .d q] 1 .ow none, .row [boolA sa3, .d xa3, boolA sb3, .d xb3] 2 .ow none], 3⟩⟩) (fun cf => by kernel_rfl) ?_
  refine ev_ret ?_
  exact ⟨((sa3, xa3), (sb3, xb3)), ⟨⟨_, Ia3⟩, ⟨_, Ib3⟩⟩, .inr rfl, .ag [boolA sa3, .d xa3, boolA sb3, .d xb3], by kernel_rfl, by kernel_rfl⟩

end Go.Proofs.Ytgkjdfojogemhaa.W
