/-
  The program: Rebuild: the loop. Made by program. Conditions: none.
-/
import Derived.Test.YtgkjdfojogemhaaWse
set_option maxRecDepth 100000
set_option maxHeartbeats 20000000
set_option linter.unusedSimpArgs false
set_option linter.unusedVariables false
namespace Go.Proofs.Ytgkjdfojogemhaa.W
open Go.Am
theorem cmpZ_pos {n m : Int} : cmpZ n m > 0 ↔ m < n := by unfold cmpZ; split <;> (try split) <;> omega
theorem cmpZ_neg {n m : Int} : cmpZ n m < 0 ↔ n < m := by unfold cmpZ; split <;> (try split) <;> omega
theorem cmpZ_zero {n m : Int} : cmpZ n m = 0 ↔ n = m := by unfold cmpZ; split <;> (try split) <;> omega
theorem iv_pos_len {n : Int} {s : Bool} {x : D} {l : List Nat} (h : Iv n s x l) (h0 : n ≠ 0) : 0 < l.length := by
  obtain ⟨_, _, nl, hn, _⟩ := h
  have h1 := len_pos_iff nl
  refine Nat.pos_of_ne_zero fun e => h0 ?_
  rw [hn, h1.mp e]
  cases s <;> rfl
theorem len_step {A B S T : Int} {sa ss st su : Bool} {xa xs xt xu : D} {la ls lt lu : List Nat} (IA : Iv A sa xa la) (IS : Iv S ss xs ls) (IT : Iv T st xt lt) (IU : Iv (S - A / B * T) su xu lu) : lu.length ≤ max ls.length (la.length + lt.length) + 1 := iv_len IU (by
  have h1 := iv_lt IA
  have h2 := iv_lt IS
  have h3 := iv_lt IT
  have h4 := Nat.lt_of_le_of_lt (div_natAbs_le A B) h1
  have h5 : (A / B * T).natAbs < 4294967296 ^ (la.length + lt.length) := by rw [Int.natAbs_mul, Nat.pow_add]; exact Nat.mul_lt_mul'' h4 h3
  have h6 := pow_mono (Nat.le_max_left ls.length (la.length + lt.length))
  have h7 := pow_mono (Nat.le_max_right ls.length (la.length + lt.length))
  rw [Nat.pow_succ]
  omega)
def euc (L : Int) : Nat → Int → Int → Int → Int → Int × Int
  | 0, _, B, _, T => (B, T)
  | f + 1, A, B, S, T => if L < B then euc L f B (A % B) T (S - A / B * T) else (B, T)
noncomputable def rebC : Code := (lft (lft (lft (rgt (rgt (rgt (rgt (rgt (rgt (rgt (Try.f33.body.getD .skip)))))))))))
theorem reb_round {K : Out → St → Prop} {A B S T : Int} {sa sb ss st : Bool} {xa xb xs xt : D} {la lb ls lt : List Nat} {L : Int} {sl : Bool} {xl : D} {ll : List Nat} {B0 B1 B2 B3 B4 B6 B7 : Blk} {N : Nat} (x0 x1 x2 x3 x4 x5 x6 x7 x8 x10 x11 x12 x13 x14 x18 x19 x20 x21 x22 x23 x24 x25 x26 x27 x28 x29 x30 x31 x32 x33 x34 x35 x36 x37 x38 x39 x40 x41 x42 x43 x44 x45 x46 x47 x48 x49 : AV) (IA : Iv A sa xa la) (IB : Iv B sb xb lb) (IS : Iv S ss xs ls) (IT : Iv T st xt lt) (IL : Iv L sl xl ll) (hL : 0 ≤ L) (hla : la.length ≤ 1) (hlb : lb.length ≤ 1) (hll : ll.length ≤ 1) (hls : ls.length ≤ 10000000) (hlt : lt.length ≤ 10000000) (z50 z51 z52 z53 z54 z55 z56 : AV) (h0 : ¬ L < B → ∀ z50 z51 z52 z53 z54 z55 z56, K (.exit 0) ⟨[x0, x1, x2, x3, x4, x5, x6, x7, x8, .ptr 5 5 0, x10, x11, x12, x13, x14, .ptr 9 9 0, .fn 55 [.ptr 8 8 0, .ptr 9 9 0], U, x18, x19, x20, x21, x22, x23, x24, x25, x26, x27, x28, x29, x30, x31, x32, x33, x34, x35, x36, x37, x38, x39, x40, x41, x42, x43, x44, x45, x46, x47, x48, x49, z50, z51, z52, z53, z54, z55, z56] ++ us 39, ⟨[B0, B1, B2, B3, B4, .row [boolA sl, .d xl] 5 .ow none, B6, B7, .row [boolA sa, .d xa, boolA ss, .d xs] 8 .ow none, .row [boolA sb, .d xb, boolA st, .d xt] 9 .ow none], N⟩⟩) (h1 : L < B → ∀ (r d : Bool × D), (∃ l, Iv (A % B) r.1 r.2 l) → (∃ l, Iv (S - A / B * T) d.1 d.2 l) → ∀ z50 z51 z52 z53 z54 z55 z56, EvK Try.cx 33 (.loop rebC) ⟨[x0, x1, x2, x3, x4, x5, x6, x7, x8, .ptr 5 5 0, x10, x11, x12, x13, x14, .ptr 9 9 0, .fn 55 [.ptr 8 8 0, .ptr 9 9 0], U, x18, x19, x20, x21, x22, x23, x24, x25, x26, x27, x28, x29, x30, x31, x32, x33, x34, x35, x36, x37, x38, x39, x40, x41, x42, x43, x44, x45, x46, x47, x48, x49, z50, z51, z52, z53, z54, z55, z56] ++ us 39, ⟨[B0, B1, B2, B3, B4, .row [boolA sl, .d xl] 5 .ow none, B6, B7, .row [boolA sb, .d xb, boolA st, .d xt] 8 .ow none, .row [boolA r.1, .d r.2, boolA d.1, .d d.2] 9 .ow none], (N + 2)⟩⟩ K) : EvK Try.cx 33 (.loop rebC) ⟨[x0, x1, x2, x3, x4, x5, x6, x7, x8, .ptr 5 5 0, x10, x11, x12, x13, x14, .ptr 9 9 0, .fn 55 [.ptr 8 8 0, .ptr 9 9 0], U, x18, x19, x20, x21, x22, x23, x24, x25, x26, x27, x28, x29, x30, x31, x32, x33, x34, x35, x36, x37, x38, x39, x40, x41, x42, x43, x44, x45, x46, x47, x48, x49, z50, z51, z52, z53, z54, z55, z56] ++ us 39, ⟨[B0, B1, B2, B3, B4, .row [boolA sl, .d xl] 5 .ow none, B6, B7, .row [boolA sa, .d xa, boolA ss, .d xs] 8 .ow none, .row [boolA sb, .d xb, boolA st, .d xt] 9 .ow none], N⟩⟩ K := by
  refine ev_loop ?_
  refine ev_seq ?_
  refine ev_seq ?_
  refine ev_reg (by kernel_rfl) ?_
  refine rs_up 3 [(50, .ptr 9 9 0), (51, .ag [boolA sb, .d xb]), (52, .ag [boolA sl, .d xl])] (fun cf => by kernel_rfl) ?_
  refine rs_cp 56 [.ag [boolA sb, .d xb], .ag [boolA sl, .d xl]] false (some 53) (J (cmpZ B L)) (by kernel_rfl) (p_icmp IB (by omega) IL (by omega)) (by kernel_rfl) ?_
  refine rs_all (s1 := ⟨[x0, x1, x2, x3, x4, x5, x6, x7, x8, .ptr 5 5 0, x10, x11, x12, x13, x14, .ptr 9 9 0, .fn 55 [.ptr 8 8 0, .ptr 9 9 0], U, x18, x19, x20, x21, x22, x23, x24, x25, x26, x27, x28, x29, x30, x31, x32, x33, x34, x35, x36, x37, x38, x39, x40, x41, x42, x43, x44, x45, x46, x47, x48, x49, .ptr 9 9 0, .ag [boolA sb, .d xb], .ag [boolA sl, .d xl], J (cmpZ B L), boolA (decide ((cmpZ B L) > 0)), z55, z56] ++ us 39, ⟨[B0, B1, B2, B3, B4, .row [boolA sl, .d xl] 5 .ow none, B6, B7, .row [boolA sa, .d xa, boolA ss, .d xs] 8 .ow none, .row [boolA sb, .d xb, boolA st, .d xt] 9 .ow none], N⟩⟩) (fun cf => by kernel_rfl) ?_
  rcases hb1 : ((decide ((cmpZ B L) > 0)) : Bool) with _ | _
  ·
    have hb1' := of_decide_eq_false hb1
    have hb1c := mt cmpZ_pos.mpr hb1'
    refine ev_false (by kernel_rfl) ?_
    refine ev_exit ?_
    exact h0 hb1c _ _ _ _ _ _ _
  ·
    have hb1' := of_decide_eq_true hb1
    have hb1c := cmpZ_pos.mp hb1'
    refine ev_true (by kernel_rfl) ?_
    refine ev_skip ?_
    refine ev_block ?_
    refine ev_reg (by kernel_rfl) ?_
    refine rs_up 1 [(55, .fn 55 [.ptr 8 8 0, .ptr 9 9 0])] (fun cf => by kernel_rfl) ?_
    refine rs_take 0 (s1 := ⟨[x0, x1, x2, x3, x4, x5, x6, x7, x8, .ptr 5 5 0, x10, x11, x12, x13, x14, .ptr 9 9 0, .fn 55 [.ptr 8 8 0, .ptr 9 9 0], U, x18, x19, x20, x21, x22, x23, x24, x25, x26, x27, x28, x29, x30, x31, x32, x33, x34, x35, x36, x37, x38, x39, x40, x41, x42, x43, x44, x45, x46, x47, x48, x49, .ptr 9 9 0, .ag [boolA sb, .d xb], .ag [boolA sl, .d xl], J (cmpZ B L), Yes, .fn 55 [.ptr 8 8 0, .ptr 9 9 0], z56] ++ us 39, ⟨[B0, B1, B2, B3, B4, .row [boolA sl, .d xl] 5 .ow none, B6, B7, .row [boolA sa, .d xa, boolA ss, .d xs] 8 .ow none, .row [boolA sb, .d xb, boolA st, .d xt] 9 .ow none], N⟩⟩) (fun cf => by kernel_rfl) ?_
    obtain ⟨⟨⟨sq, xq⟩, ⟨sr, xr⟩, ⟨sd, xd⟩⟩, ⟨hr, hd⟩, hst⟩ := p_step (B0 := B0) (B1 := B1) (B2 := B2) (B3 := B3) (B4 := B4) (B5 := .row [boolA sl, .d xl] 5 .ow none) (B6 := B6) (B7 := B7) (N := N) IA IB IS IT hla (by have := iv_pos_len IB (by omega); omega) (by omega) (by omega) (by omega)
    refine rs_hand2 (g := 55) (av := [.ptr 8 8 0, .ptr 9 9 0]) (r := .tu []) (m1 := ⟨[B0, B1, B2, B3, B4, .row [boolA sl, .d xl] 5 .ow none, B6, B7, .row [boolA sb, .d xb, boolA st, .d xt] 8 .ow none, .row [boolA sr, .d xr, boolA sd, .d xd] 9 .ow none], (N + 2)⟩) (s1 := ⟨[x0, x1, x2, x3, x4, x5, x6, x7, x8, .ptr 5 5 0, x10, x11, x12, x13, x14, .ptr 9 9 0, .fn 55 [.ptr 8 8 0, .ptr 9 9 0], U, x18, x19, x20, x21, x22, x23, x24, x25, x26, x27, x28, x29, x30, x31, x32, x33, x34, x35, x36, x37, x38, x39, x40, x41, x42, x43, x44, x45, x46, x47, x48, x49, .ptr 9 9 0, .ag [boolA sb, .d xb], .ag [boolA sl, .d xl], J (cmpZ B L), Yes, .fn 55 [.ptr 8 8 0, .ptr 9 9 0], .tu []] ++ us 39, ⟨[B0, B1, B2, B3, B4, .row [boolA sl, .d xl] 5 .ow none, B6, B7, .row [boolA sb, .d xb, boolA st, .d xt] 8 .ow none, .row [boolA sr, .d xr, boolA sd, .d xd] 9 .ow none], (N + 2)⟩⟩) (by kernel_rfl) hst (by kernel_rfl) (by kernel_rfl) ?_
    refine rs_done (by kernel_rfl) ?_
    exact h1 hb1c (sr, xr) (sd, xd) hr hd _ _ _ _ _ _ _
theorem reb_loop {K : Out → St → Prop} {L : Int} {sl : Bool} {xl : D} {ll : List Nat} {B0 B1 B2 B3 B4 B6 B7 : Blk} (x0 x1 x2 x3 x4 x5 x6 x7 x8 x10 x11 x12 x13 x14 x18 x19 x20 x21 x22 x23 x24 x25 x26 x27 x28 x29 x30 x31 x32 x33 x34 x35 x36 x37 x38 x39 x40 x41 x42 x43 x44 x45 x46 x47 x48 x49 : AV) (IL : Iv L sl xl ll) (hL : 0 ≤ L) (hll : ll.length ≤ 1) :
    ∀ (f : Nat) (A B S T : Int) (sa sb ss st : Bool) (xa xb xs xt : D) (la lb ls lt : List Nat) (N : Nat) (z50 z51 z52 z53 z54 z55 z56 : AV) (IA : Iv A sa xa la) (IB : Iv B sb xb lb) (IS : Iv S ss xs ls) (IT : Iv T st xt lt) (hla : la.length ≤ 1) (hlb : lb.length ≤ 1) (hB : 0 ≤ B) (hf : B.toNat < f) (hls : ls.length + 2 * f ≤ 1000000) (hlt : lt.length + 2 * f ≤ 1000000)
    (h : ∀ (ra rs rb rt : Bool × D) (N : Nat) (z50 z51 z52 z53 z54 z55 z56 : AV), (∃ l, l.length ≤ 1 ∧ Iv (euc L f A B S T).1 rb.1 rb.2 l) → (∃ l, l.length ≤ 1000000 ∧ Iv (euc L f A B S T).2 rt.1 rt.2 l) → K (.exit 0) ⟨[x0, x1, x2, x3, x4, x5, x6, x7, x8, .ptr 5 5 0, x10, x11, x12, x13, x14, .ptr 9 9 0, .fn 55 [.ptr 8 8 0, .ptr 9 9 0], U, x18, x19, x20, x21, x22, x23, x24, x25, x26, x27, x28, x29, x30, x31, x32, x33, x34, x35, x36, x37, x38, x39, x40, x41, x42, x43, x44, x45, x46, x47, x48, x49, z50, z51, z52, z53, z54, z55, z56] ++ us 39, ⟨[B0, B1, B2, B3, B4, .row [boolA sl, .d xl] 5 .ow none, B6, B7, .row [boolA ra.1, .d ra.2, boolA rs.1, .d rs.2] 8 .ow none, .row [boolA rb.1, .d rb.2, boolA rt.1, .d rt.2] 9 .ow none], N⟩⟩), EvK Try.cx 33 (.loop rebC) ⟨[x0, x1, x2, x3, x4, x5, x6, x7, x8, .ptr 5 5 0, x10, x11, x12, x13, x14, .ptr 9 9 0, .fn 55 [.ptr 8 8 0, .ptr 9 9 0], U, x18, x19, x20, x21, x22, x23, x24, x25, x26, x27, x28, x29, x30, x31, x32, x33, x34, x35, x36, x37, x38, x39, x40, x41, x42, x43, x44, x45, x46, x47, x48, x49, z50, z51, z52, z53, z54, z55, z56] ++ us 39, ⟨[B0, B1, B2, B3, B4, .row [boolA sl, .d xl] 5 .ow none, B6, B7, .row [boolA sa, .d xa, boolA ss, .d xs] 8 .ow none, .row [boolA sb, .d xb, boolA st, .d xt] 9 .ow none], N⟩⟩ K
  | 0, A, B, S, T, sa, sb, ss, st, xa, xb, xs, xt, la, lb, ls, lt, N, z50, z51, z52, z53, z54, z55, z56, _, _, _, _, _, _, _, hf, _, _, _ => absurd hf (Nat.not_lt_zero _)
  | f + 1, A, B, S, T, sa, sb, ss, st, xa, xb, xs, xt, la, lb, ls, lt, N, z50, z51, z52, z53, z54, z55, z56, IA, IB, IS, IT, hla, hlb, hB, hf, hls, hlt, h => by
    have e : euc L (f + 1) A B S T = if L < B then euc L f B (A % B) T (S - A / B * T) else (B, T) := rfl
    rw [e] at h
    refine reb_round x0 x1 x2 x3 x4 x5 x6 x7 x8 x10 x11 x12 x13 x14 x18 x19 x20 x21 x22 x23 x24 x25 x26 x27 x28 x29 x30 x31 x32 x33 x34 x35 x36 x37 x38 x39 x40 x41 x42 x43 x44 x45 x46 x47 x48 x49 IA IB IS IT IL hL hla hlb hll (by omega) (by omega) z50 z51 z52 z53 z54 z55 z56 (fun h0 z50 z51 z52 z53 z54 z55 z56 => ?_) fun h1 r d hr hd z50 z51 z52 z53 z54 z55 z56 => ?_
    · rw [if_neg h0] at h
      exact h (sa, xa) (ss, xs) (sb, xb) (st, xt) N z50 z51 z52 z53 z54 z55 z56 ⟨lb, hlb, IB⟩ ⟨lt, by omega, IT⟩
    · rw [if_pos h1] at h
      obtain ⟨lr, Ir⟩ := hr
      obtain ⟨ld, Id⟩ := hd
      have hlr := len_mod IB (by omega) Ir
      have hld := len_step IA IS IT Id
      have h2 := Int.emod_nonneg A (show B ≠ 0 by omega)
      have h3 := Int.emod_lt_of_pos A (show 0 < B by omega)
      refine reb_loop x0 x1 x2 x3 x4 x5 x6 x7 x8 x10 x11 x12 x13 x14 x18 x19 x20 x21 x22 x23 x24 x25 x26 x27 x28 x29 x30 x31 x32 x33 x34 x35 x36 x37 x38 x39 x40 x41 x42 x43 x44 x45 x46 x47 x48 x49 IL hL hll f B (A % B) T (S - A / B * T) sb r.1 st d.1 xb r.2 xt d.2 lb lr lt ld (N + 2) z50 z51 z52 z53 z54 z55 z56 IB Ir IT Id hlb (by omega) h2 (by omega) (by omega) (by omega) ?_
      exact h
end Go.Proofs.Ytgkjdfojogemhaa.W
