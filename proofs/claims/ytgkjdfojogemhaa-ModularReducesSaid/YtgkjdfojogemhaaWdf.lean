/-
  The reference: lessen and restore, in place. Made by program. Conditions: none.
-/
import Derived.Test.YtgkjdfojogemhaaWde
set_option maxRecDepth 100000
set_option maxHeartbeats 20000000
set_option linter.unusedSimpArgs false
set_option linter.unusedVariables false
namespace Go.Proofs.Ytgkjdfojogemhaa.W
open Go.Am


/-- A memory in which one block holds words. -/
def Mu (M : Mem) (h g : Nat) (ul : List Nat) : Mem := ⟨M.b.set h (.row (wa ul) g .ow none), M.n⟩
theorem mu_at {M : Mem} {h g : Nat} {ul : List Nat} (hh : h < M.b.length) : (Mu M h g ul).b[h]? = some (.row (wa ul) g .ow none) := by
  show (M.b.set h _)[h]? = _
  rw [List.getElem?_set_self hh]
theorem mu_row {M : Mem} {h g : Nat} {ul : List Nat} (hh : h < M.b.length) : row? (Mu M h g ul) h g = some (wa ul) := row_at (mu_at hh)
theorem idx_ownF {m : Mem} {h g n off : Nat} {cap : Option Nat} {cs : List AV} {i : Int} {k : Nat} (hi : i = k) (hr : row? m h g = some cs) (hk : k < n) : indexAddrA Try.cx 32 m (.own h g off n 1 cap) (J i) = some (.ptr h g (off + k)) := by
  subst hi
  have e : ∀ y, indexAddrA Try.cx 32 m (.own h g off n 1 cap) y = match natOf y with
    | none => none
    | some k => if k < n ∧ 1 = 1 ∧ (row? m h g).isSome then some (.ptr h g (off + k * 1)) else none := fun y => by kernel_rfl
  rw [e, natJ]
  simp [hk, hr]
theorem len_own {m : Mem} {h g n off : Nat} {cap : Option Nat} {cs : List AV} (hr : row? m h g = some cs) : lenA Try.cx 32 m (.own h g off n 1 cap) = some n := by
  have e : lenA Try.cx 32 m (.own h g off n 1 cap) = if (row? m h g).isSome then some n else none := by kernel_rfl
  rw [e, hr]
  rfl
theorem store_mu {M : Mem} {h g k : Nat} {ul : List Nat} {v : Nat} (hh : h < M.b.length) (hk : k < ul.length) : storeA Try.cx 22 (Mu M h g ul) (.ptr h g k) (intA .u32 (v : Int)) = some (Mu M h g (ul.set k v)) := by
  rw [store_own (mu_at hh) hk]
  simp [Mu, List.set_set]

def lesF (b : List Nat) (q off : Nat) : Nat → Nat → Nat → Nat → List Nat → List Nat × Nat × Nat
  | 0, _, c, v, ul => (ul, c, v)
  | r + 1, i, c, v, ul => lesF b q off r (i + 1) ((q * b.getD i 0 + c) / 4294967296) (1 - (4294967296 + ul.getD (off + i) 0 - (q * b.getD i 0 + c) % 4294967296 - v) / 4294967296) (ul.set (off + i) ((4294967296 + ul.getD (off + i) 0 - (q * b.getD i 0 + c) % 4294967296 - v) % 4294967296))
theorem lesF_len (b : List Nat) (q off : Nat) : ∀ r i c v ul, (lesF b q off r i c v ul).1.length = ul.length
  | 0, _, _, _, _ => rfl
  | r + 1, i, c, v, ul => by rw [lesF, lesF_len b q off r]; simp
theorem lesF_ok (b : List Nat) (q off : Nat) : ∀ r i c v ul, Ok ul → Ok (lesF b q off r i c v ul).1
  | 0, _, _, _, _, h => h
  | r + 1, i, c, v, ul, h => by rw [lesF]; exact lesF_ok b q off r _ _ _ _ (ok_set h (Nat.mod_lt _ (by decide)))
theorem lesF_far (b : List Nat) (q off : Nat) : ∀ r i c v ul j, j < off + i ∨ off + i + r ≤ j → (lesF b q off r i c v ul).1.getD j 0 = ul.getD j 0
  | 0, _, _, _, _, _, _ => rfl
  | r + 1, i, c, v, ul, j, h => by rw [lesF, lesF_far b q off r (i + 1) _ _ _ j (by omega), getD_set_ne (by omega)]
theorem vF_congr {a b : List Nat} : ∀ r i, (∀ j, i ≤ j → j < i + r → a.getD j 0 = b.getD j 0) → vF a i r = vF b i r
  | 0, _, _ => rfl
  | r + 1, i, h => by rw [vF, vF, h i (Nat.le_refl _) (by omega), vF_congr r (i + 1) fun j h1 h2 => h j (by omega) (by omega)]
theorem les_word {u P v : Nat} (hu : u < 4294967296) (hv : v ≤ 1) : (4294967296 + u - P % 4294967296 - v) % 4294967296 + P % 4294967296 + v = u + 4294967296 * (1 - (4294967296 + u - P % 4294967296 - v) / 4294967296) := by
  have := Nat.mod_lt P (show 0 < 4294967296 by decide)
  generalize P % 4294967296 = t at this
  omega
theorem les_alg {d X p0 Y c v u vu m z P c1 v1 B s : Nat} (hd : d + s + v = u + B * v1) (hP : P = p0 + c) (hs : B * c1 + s = P) (ih : X + (Y + c1) + v1 = vu + m * z) : d + B * X + (p0 + B * Y + c) + v = u + B * vu + m * B * z := by
  have e1 : B * (X + (Y + c1) + v1) = B * vu + B * (m * z) := by rw [ih, Nat.mul_add]
  have e2 : m * B * z = B * (m * z) := by rw [Nat.mul_comm m B, Nat.mul_assoc]
  rw [Nat.mul_add, Nat.mul_add, Nat.mul_add] at e1
  omega
theorem les_alg2 {m B z Y c1 p0 c s : Nat} (h : m * z ≤ Y + c1) (hs : B * c1 + s = p0 + c) : m * B * z ≤ p0 + B * Y + c := by
  have e2 : m * B * z = B * (m * z) := by rw [Nat.mul_comm m B, Nat.mul_assoc]
  have := Nat.mul_le_mul_left B h
  rw [Nat.mul_add] at this
  omega
theorem les_val {b : List Nat} {q off : Nat} : ∀ r i c v ul, Ok ul → v ≤ 1 → off + i + r ≤ ul.length →
    vF (lesF b q off r i c v ul).1 (off + i) r + (q * vF b i r + c) + v = vF ul (off + i) r + 4294967296 ^ r * ((lesF b q off r i c v ul).2.1 + (lesF b q off r i c v ul).2.2) ∧
    4294967296 ^ r * (lesF b q off r i c v ul).2.1 ≤ q * vF b i r + c ∧ (lesF b q off r i c v ul).2.2 ≤ 1
  | 0, i, c, v, ul, ho, hv, hl => by simp [lesF, vF, hv]
  | r + 1, i, c, v, ul, ho, hv, hl => by
    obtain ⟨i1, i2, i3⟩ := les_val (b := b) (q := q) (off := off) r (i + 1) ((q * b.getD i 0 + c) / 4294967296) (1 - (4294967296 + ul.getD (off + i) 0 - (q * b.getD i 0 + c) % 4294967296 - v) / 4294967296) (ul.set (off + i) ((4294967296 + ul.getD (off + i) 0 - (q * b.getD i 0 + c) % 4294967296 - v) % 4294967296)) (ok_set ho (Nat.mod_lt _ (by decide))) (by omega) (by simp; omega)
    have hw := les_word (P := q * b.getD i 0 + c) (ho (off + i)) hv
    have hdm := Nat.div_add_mod (q * b.getD i 0 + c) 4294967296
    have e1 : (lesF b q off (r + 1) i c v ul).1.getD (off + i) 0 = (4294967296 + ul.getD (off + i) 0 - (q * b.getD i 0 + c) % 4294967296 - v) % 4294967296 := by
      rw [lesF, lesF_far b q off r (i + 1) _ _ _ _ (by omega), getD_set_eq (by omega)]
    have e2 : vF (ul.set (off + i) ((4294967296 + ul.getD (off + i) 0 - (q * b.getD i 0 + c) % 4294967296 - v) % 4294967296)) (off + (i + 1)) r = vF ul (off + (i + 1)) r := vF_congr _ _ fun j h1 h2 => getD_set_ne (by omega)
    rw [e2] at i1
    have e3 : lesF b q off (r + 1) i c v ul = lesF b q off r (i + 1) ((q * b.getD i 0 + c) / 4294967296) (1 - (4294967296 + ul.getD (off + i) 0 - (q * b.getD i 0 + c) % 4294967296 - v) / 4294967296) (ul.set (off + i) ((4294967296 + ul.getD (off + i) 0 - (q * b.getD i 0 + c) % 4294967296 - v) % 4294967296)) := by rw [lesF]
    have e4 : vF (lesF b q off (r + 1) i c v ul).1 (off + i) (r + 1) = (4294967296 + ul.getD (off + i) 0 - (q * b.getD i 0 + c) % 4294967296 - v) % 4294967296 + 4294967296 * vF (lesF b q off (r + 1) i c v ul).1 (off + (i + 1)) r := by rw [vF, e1]; rfl
    rw [← e3] at i1 i2 i3
    have e5 : q * vF b i (r + 1) = q * b.getD i 0 + 4294967296 * (q * vF b (i + 1) r) := by rw [vF, Nat.mul_add, Nat.mul_left_comm]
    have e6 : vF ul (off + i) (r + 1) = ul.getD (off + i) 0 + 4294967296 * vF ul (off + (i + 1)) r := rfl
    rw [e4, e5, e6, Nat.pow_succ]
    exact ⟨les_alg hw rfl hdm i1, les_alg2 i2 hdm, i3⟩

noncomputable def lesC : Code := (lft (lft (rgt (lft (rgt (rgt (rgt (Try.f86.body.getD .skip))))))))

theorem les_round {K : Out → St → Prop} {b ul : List Nat} {y : D} {M : Mem} {h g off n q i c v : Nat} {cap : Option Nat}  (hy : Ws b y) (hb : Ok b) (hul : Ok ul) (hn : n < 1000000000) (hq : q < 4294967296) (hh : h < M.b.length) (hoff : off + n ≤ ul.length) (hc : c < 4294967296) (hv : v ≤ 1) (z10 z11 z12 z13 z14 z15 z16 z17 z18 z19 z20 z21 z22 z23 z24 z25 z26 z27 z28 z29 z30 z31 z32 z33 z34 z35 z36 z37 z38 z39 z40 z41 z42 z43 z44 z45 z46 : AV) (h0 : n ≤ i → ∀ z10 z11 z12 z13 z14 z15 z16 z17 z18 z19 z20 z21 z22 z23 z24 z25 z26 z27 z28 z29 z30 z31 z32 z33 z34 z35 z36 z37 z38 z39 z40 z41 z42 z43 z44 z45 z46, K (.exit 0) ⟨[(.own h g off n 1 cap), .d y, intA .u64 (q : Int)] ++ us 3 ++ [No, intA .u64 (c : Int), intA .u64 (v : Int), J (i : Int), z10, z11, z12, z13, z14, z15, z16, z17, z18, z19, z20, z21, z22, z23, z24, z25, z26, z27, z28, z29, z30, z31, z32, z33, z34, z35, z36, z37, z38, z39, z40, z41, z42, z43, z44, z45, z46, U, U], (Mu M h g (ul))⟩) (h1 : i < n → ∀ z10 z11 z12 z13 z14 z15 z16 z17 z18 z19 z20 z21 z22 z23 z24 z25 z26 z27 z28 z29 z30 z31 z32 z33 z34 z35 z36 z37 z38 z39 z40 z41 z42 z43 z44 z45 z46, EvK Try.cx 86 (.loop lesC) ⟨[(.own h g off n 1 cap), .d y, intA .u64 (q : Int)] ++ us 3 ++ [No, intA .u64 (((q * b.getD i 0 + c) / 4294967296 : Nat) : Int), intA .u64 ((1 - (4294967296 + ul.getD (off + i) 0 - (q * b.getD i 0 + c) % 4294967296 - v) / 4294967296 : Nat) : Int), J ((i + 1 : Nat) : Int), z10, z11, z12, z13, z14, z15, z16, z17, z18, z19, z20, z21, z22, z23, z24, z25, z26, z27, z28, z29, z30, z31, z32, z33, z34, z35, z36, z37, z38, z39, z40, z41, z42, z43, z44, z45, z46, U, U], (Mu M h g (ul.set (off + i) ((4294967296 + ul.getD (off + i) 0 - (q * b.getD i 0 + c) % 4294967296 - v) % 4294967296)))⟩ K) : EvK Try.cx 86 (.loop lesC) ⟨[(.own h g off n 1 cap), .d y, intA .u64 (q : Int)] ++ us 3 ++ [No, intA .u64 (c : Int), intA .u64 (v : Int), J (i : Int), z10, z11, z12, z13, z14, z15, z16, z17, z18, z19, z20, z21, z22, z23, z24, z25, z26, z27, z28, z29, z30, z31, z32, z33, z34, z35, z36, z37, z38, z39, z40, z41, z42, z43, z44, z45, z46, U, U], (Mu M h g (ul))⟩ K := by
  refine ev_loop ?_
  refine ev_seq ?_
  refine ev_seq ?_
  refine ev_reg (by kernel_rfl) ?_
  refine rs_up 2 [(12, J (i : Int)), (13, (.own h g off n 1 cap))] (fun cf => by kernel_rfl) ?_
  refine rs_cl (fun m9 => lenA Try.cx 32 (Mu M h g (ul)) (.own h g off n 1 cap)) (some 14) (n) (fun cf => by kernel_rfl) (len_own (mu_row hh)) ?_
  refine rs_all (s1 := ⟨[(.own h g off n 1 cap), .d y, intA .u64 (q : Int)] ++ us 3 ++ [No, intA .u64 (c : Int), intA .u64 (v : Int), J (i : Int), z10, z11, J (i : Int), (.own h g off n 1 cap), J (n : Int), boolA (decide ((i : Int) < (n : Int))), z16, z17, z18, z19, z20, z21, z22, z23, z24, z25, z26, z27, z28, z29, z30, z31, z32, z33, z34, z35, z36, z37, z38, z39, z40, z41, z42, z43, z44, z45, z46, U, U], (Mu M h g (ul))⟩) (fun cf => by kernel_rfl) ?_
  rcases hb1 : ((decide ((i : Int) < (n : Int))) : Bool) with _ | _
  ·
    have hb1' := of_decide_eq_false hb1
    refine ev_false (by kernel_rfl) ?_
    refine ev_exit ?_
    exact h0 (by omega) _ _ _ _ _ _ _ _ _ _ _ _ _ _ _ _ _ _ _ _ _ _ _ _ _ _ _ _ _ _ _ _ _ _ _ _ _
  ·
    have hb1' := of_decide_eq_true hb1
    refine ev_true (by kernel_rfl) ?_
    refine ev_skip ?_
    refine ev_seq ?_
    refine ev_block ?_
    refine ev_seq ?_
    refine ev_reg (by kernel_rfl) ?_
    refine rs_up 3 [(18, intA .u64 (q : Int)), (19, .d y), (20, J (i : Int))] (fun cf => by kernel_rfl) ?_
    refine rs_cp 82 [.d y, J (i : Int)] false (some 21) (intA .u64 ((b.getD i 0 : Nat) : Int)) (by kernel_rfl) (g_word (i := i) hy hb) (by kernel_rfl) ?_
    refine rs_up 1 [(22, intA .u64 (IntKind.wrap .u64 ((q : Int) * ((b.getD i 0 : Nat) : Int))))] (fun cf => by kernel_rfl) ?_
    rw [mulU (a := (q : Int)) (b := ((b.getD i 0 : Nat) : Int)) (A := q) (B := b.getD i 0) (by rfl) (by rfl) (by have := mulB hq (hb i); omega)]
    refine rs_up 2 [(23, intA .u64 (c : Int)), (24, intA .u64 (IntKind.wrap .u64 (((q * (b.getD i 0) : Nat) : Int) + (c : Int))))] (fun cf => by kernel_rfl) ?_
    rw [addU (a := ((q * (b.getD i 0) : Nat) : Int)) (b := (c : Int)) (A := q * (b.getD i 0)) (B := c) (by rfl) (by rfl) (by have := mulB hq (hb i); omega)]
    refine rs_alu [(10, intA .u64 (((q * (b.getD i 0)) + c : Nat) : Int))] (fun cf => by kernel_rfl) ?_
    refine ev_seq ?_
    refine ev_reg (by kernel_rfl) ?_
    refine rs_up 2 [(25, intA .u64 (((q * (b.getD i 0)) + c : Nat) : Int)), (26, intA .u64 (IntKind.wrap .u64 (Int.tdiv (((q * (b.getD i 0)) + c : Nat) : Int) 4294967296)))] (fun cf => by kernel_rfl) ?_
    rw [quoU (a := (((q * (b.getD i 0)) + c : Nat) : Int)) (b := 4294967296) (A := (q * (b.getD i 0)) + c) (B := 4294967296) (by rfl) (by rfl) (by have := mulB hq (hb i); omega)]
    refine rs_alu [(7, intA .u64 ((((q * (b.getD i 0)) + c) / 4294967296 : Nat) : Int))] (fun cf => by kernel_rfl) ?_
    refine ev_seq ?_
    refine ev_reg (by kernel_rfl) ?_
    refine rs_up 2 [(27, (.own h g off n 1 cap)), (28, J (i : Int))] (fun cf => by kernel_rfl) ?_
    refine rs_cv (fun m9 => indexAddrA Try.cx 32 (Mu M h g (ul)) (.own h g off n 1 cap) (J (i : Int))) (some 29) (.ptr h g (off + i)) (fun cf => by kernel_rfl) (idx_ownF (k := i) (by rfl) (mu_row hh) (by omega)) ?_
    refine rs_cv (fun m9 => loadA Try.cx 22 (Mu M h g (ul)) (.ptr h g (off + i))) (some 30) (intA .u32 ((ul.getD (off + i) 0 : Nat) : Int)) (fun cf => by kernel_rfl) (load_own (mu_row hh) (by omega)) ?_
    refine rs_up 1 [(31, intA .u64 (IntKind.wrap .u64 ((ul.getD (off + i) 0 : Nat) : Int)))] (fun cf => by kernel_rfl) ?_
    rw [wrapU (n := ul.getD (off + i) 0) (by have := hul (off + i); omega)]
    refine rs_up 1 [(32, intA .u64 (IntKind.wrap .u64 (4294967296 + ((ul.getD (off + i) 0 : Nat) : Int))))] (fun cf => by kernel_rfl) ?_
    rw [addU (a := 4294967296) (b := ((ul.getD (off + i) 0 : Nat) : Int)) (A := 4294967296) (B := ul.getD (off + i) 0) (by rfl) (by rfl) (by have := hul (off + i); omega)]
    refine rs_up 2 [(33, intA .u64 (((q * (b.getD i 0)) + c : Nat) : Int)), (34, intA .u64 (Int.tmod (((q * (b.getD i 0)) + c : Nat) : Int) 4294967296))] (fun cf => by kernel_rfl) ?_
    rw [remN (a := (((q * (b.getD i 0)) + c : Nat) : Int)) (b := 4294967296) (A := (q * (b.getD i 0)) + c) (B := 4294967296) (by rfl) (by rfl)]
    refine rs_up 1 [(35, intA .u64 (IntKind.wrap .u64 (((4294967296 + (ul.getD (off + i) 0) : Nat) : Int) - ((((q * (b.getD i 0)) + c) % 4294967296 : Nat) : Int))))] (fun cf => by kernel_rfl) ?_
    rw [subU (a := ((4294967296 + (ul.getD (off + i) 0) : Nat) : Int)) (b := ((((q * (b.getD i 0)) + c) % 4294967296 : Nat) : Int)) (A := 4294967296 + (ul.getD (off + i) 0)) (B := ((q * (b.getD i 0)) + c) % 4294967296) (by rfl) (by rfl) (by have := hul (off + i); omega)]
    refine rs_up 2 [(36, intA .u64 (v : Int)), (37, intA .u64 (IntKind.wrap .u64 ((((4294967296 + (ul.getD (off + i) 0)) - (((q * (b.getD i 0)) + c) % 4294967296) : Nat) : Int) - (v : Int))))] (fun cf => by kernel_rfl) ?_
    rw [subU (a := (((4294967296 + (ul.getD (off + i) 0)) - (((q * (b.getD i 0)) + c) % 4294967296) : Nat) : Int)) (b := (v : Int)) (A := (4294967296 + (ul.getD (off + i) 0)) - (((q * (b.getD i 0)) + c) % 4294967296)) (B := v) (by rfl) (by rfl) (by have := hul (off + i); omega)]
    refine rs_alu [(11, intA .u64 ((((4294967296 + (ul.getD (off + i) 0)) - (((q * (b.getD i 0)) + c) % 4294967296)) - v : Nat) : Int))] (fun cf => by kernel_rfl) ?_
    refine ev_seq ?_
    refine ev_reg (by kernel_rfl) ?_
    refine rs_up 4 [(38, (.own h g off n 1 cap)), (39, J (i : Int)), (40, intA .u64 ((((4294967296 + (ul.getD (off + i) 0)) - (((q * (b.getD i 0)) + c) % 4294967296)) - v : Nat) : Int)), (41, intA .u64 (Int.tmod ((((4294967296 + (ul.getD (off + i) 0)) - (((q * (b.getD i 0)) + c) % 4294967296)) - v : Nat) : Int) 4294967296))] (fun cf => by kernel_rfl) ?_
    rw [remN (a := ((((4294967296 + (ul.getD (off + i) 0)) - (((q * (b.getD i 0)) + c) % 4294967296)) - v : Nat) : Int)) (b := 4294967296) (A := ((4294967296 + (ul.getD (off + i) 0)) - (((q * (b.getD i 0)) + c) % 4294967296)) - v) (B := 4294967296) (by rfl) (by rfl)]
    refine rs_up 1 [(42, intA .u32 (IntKind.wrap .u32 (((((4294967296 + (ul.getD (off + i) 0)) - (((q * (b.getD i 0)) + c) % 4294967296)) - v) % 4294967296 : Nat) : Int)))] (fun cf => by kernel_rfl) ?_
    rw [wrapW (n := (((4294967296 + (ul.getD (off + i) 0)) - (((q * (b.getD i 0)) + c) % 4294967296)) - v) % 4294967296) (by omega)]
    refine rs_cv (fun m9 => indexAddrA Try.cx 32 (Mu M h g (ul)) (.own h g off n 1 cap) (J (i : Int))) (some 43) (.ptr h g (off + i)) (fun cf => by kernel_rfl) (idx_ownF (k := i) (by rfl) (mu_row hh) (by omega)) ?_
    refine rs_cu (fun m9 => storeA Try.cx 22 (Mu M h g (ul)) (.ptr h g (off + i)) (intA .u32 (((((4294967296 + (ul.getD (off + i) 0)) - (((q * (b.getD i 0)) + c) % 4294967296)) - v) % 4294967296 : Nat) : Int))) none (Mu M h g (ul.set (off + i) ((((4294967296 + (ul.getD (off + i) 0)) - (((q * (b.getD i 0)) + c) % 4294967296)) - v) % 4294967296))) (fun cf => by kernel_rfl) (store_mu (v := (((4294967296 + (ul.getD (off + i) 0)) - (((q * (b.getD i 0)) + c) % 4294967296)) - v) % 4294967296) hh (by omega)) ?_
    refine rs_alu [] (fun cf => by kernel_rfl) ?_
    refine ev_reg (by kernel_rfl) ?_
    refine rs_up 2 [(44, intA .u64 ((((4294967296 + (ul.getD (off + i) 0)) - (((q * (b.getD i 0)) + c) % 4294967296)) - v : Nat) : Int)), (45, intA .u64 (IntKind.wrap .u64 (Int.tdiv ((((4294967296 + (ul.getD (off + i) 0)) - (((q * (b.getD i 0)) + c) % 4294967296)) - v : Nat) : Int) 4294967296)))] (fun cf => by kernel_rfl) ?_
    rw [quoU (a := ((((4294967296 + (ul.getD (off + i) 0)) - (((q * (b.getD i 0)) + c) % 4294967296)) - v : Nat) : Int)) (b := 4294967296) (A := ((4294967296 + (ul.getD (off + i) 0)) - (((q * (b.getD i 0)) + c) % 4294967296)) - v) (B := 4294967296) (by rfl) (by rfl) (by have := hul (off + i); omega)]
    refine rs_up 1 [(46, intA .u64 (IntKind.wrap .u64 (1 - (((((4294967296 + (ul.getD (off + i) 0)) - (((q * (b.getD i 0)) + c) % 4294967296)) - v) / 4294967296 : Nat) : Int))))] (fun cf => by kernel_rfl) ?_
    rw [subU (a := 1) (b := (((((4294967296 + (ul.getD (off + i) 0)) - (((q * (b.getD i 0)) + c) % 4294967296)) - v) / 4294967296 : Nat) : Int)) (A := 1) (B := (((4294967296 + (ul.getD (off + i) 0)) - (((q * (b.getD i 0)) + c) % 4294967296)) - v) / 4294967296) (by rfl) (by rfl) (by have := hul (off + i); omega)]
    refine rs_alu [(8, intA .u64 ((1 - ((((4294967296 + (ul.getD (off + i) 0)) - (((q * (b.getD i 0)) + c) % 4294967296)) - v) / 4294967296) : Nat) : Int))] (fun cf => by kernel_rfl) ?_
    refine ev_reg (by kernel_rfl) ?_
    refine rs_up 2 [(16, J (i : Int)), (17, J (IntKind.wrap .i64 ((i : Int) + 1)))] (fun cf => by kernel_rfl) ?_
    rw [addI (a := (i : Int)) (b := 1) (A := i) (B := 1) (by rfl) (by rfl) (by omega)]
    refine rs_all (s1 := ⟨[(.own h g off n 1 cap), .d y, intA .u64 (q : Int)] ++ us 3 ++ [No, intA .u64 ((((q * (b.getD i 0)) + c) / 4294967296 : Nat) : Int), intA .u64 ((1 - ((((4294967296 + (ul.getD (off + i) 0)) - (((q * (b.getD i 0)) + c) % 4294967296)) - v) / 4294967296) : Nat) : Int), J ((i + 1 : Nat) : Int), intA .u64 (((q * (b.getD i 0)) + c : Nat) : Int), intA .u64 ((((4294967296 + (ul.getD (off + i) 0)) - (((q * (b.getD i 0)) + c) % 4294967296)) - v : Nat) : Int), J (i : Int), (.own h g off n 1 cap), J (n : Int), Yes, J (i : Int), J ((i + 1 : Nat) : Int), intA .u64 (q : Int), .d y, J (i : Int), intA .u64 ((b.getD i 0 : Nat) : Int), intA .u64 ((q * (b.getD i 0) : Nat) : Int), intA .u64 (c : Int), intA .u64 (((q * (b.getD i 0)) + c : Nat) : Int), intA .u64 (((q * (b.getD i 0)) + c : Nat) : Int), intA .u64 ((((q * (b.getD i 0)) + c) / 4294967296 : Nat) : Int), (.own h g off n 1 cap), J (i : Int), .ptr h g (off + i), intA .u32 ((ul.getD (off + i) 0 : Nat) : Int), intA .u64 ((ul.getD (off + i) 0 : Nat) : Int), intA .u64 ((4294967296 + (ul.getD (off + i) 0) : Nat) : Int), intA .u64 (((q * (b.getD i 0)) + c : Nat) : Int), intA .u64 ((((q * (b.getD i 0)) + c) % 4294967296 : Nat) : Int), intA .u64 (((4294967296 + (ul.getD (off + i) 0)) - (((q * (b.getD i 0)) + c) % 4294967296) : Nat) : Int), intA .u64 (v : Int), intA .u64 ((((4294967296 + (ul.getD (off + i) 0)) - (((q * (b.getD i 0)) + c) % 4294967296)) - v : Nat) : Int), (.own h g off n 1 cap), J (i : Int), intA .u64 ((((4294967296 + (ul.getD (off + i) 0)) - (((q * (b.getD i 0)) + c) % 4294967296)) - v : Nat) : Int), intA .u64 (((((4294967296 + (ul.getD (off + i) 0)) - (((q * (b.getD i 0)) + c) % 4294967296)) - v) % 4294967296 : Nat) : Int), intA .u32 (((((4294967296 + (ul.getD (off + i) 0)) - (((q * (b.getD i 0)) + c) % 4294967296)) - v) % 4294967296 : Nat) : Int), .ptr h g (off + i), intA .u64 ((((4294967296 + (ul.getD (off + i) 0)) - (((q * (b.getD i 0)) + c) % 4294967296)) - v : Nat) : Int), intA .u64 (((((4294967296 + (ul.getD (off + i) 0)) - (((q * (b.getD i 0)) + c) % 4294967296)) - v) / 4294967296 : Nat) : Int), intA .u64 ((1 - ((((4294967296 + (ul.getD (off + i) 0)) - (((q * (b.getD i 0)) + c) % 4294967296)) - v) / 4294967296) : Nat) : Int), U, U], (Mu M h g (ul.set (off + i) ((((4294967296 + (ul.getD (off + i) 0)) - (((q * (b.getD i 0)) + c) % 4294967296)) - v) % 4294967296)))⟩) (fun cf => by kernel_rfl) ?_
    exact h1 (by omega) _ _ _ _ _ _ _ _ _ _ _ _ _ _ _ _ _ _ _ _ _ _ _ _ _ _ _ _ _ _ _ _ _ _ _ _ _

theorem les_loop {K : Out → St → Prop} {b : List Nat} {y : D} {M : Mem} {h g off n q : Nat} {cap : Option Nat} (hy : Ws b y) (hb : Ok b) (hn : n < 1000000000) (hq : q < 4294967296) (hh : h < M.b.length) :
    ∀ (r i c v : Nat) (ul : List Nat) (z10 z11 z12 z13 z14 z15 z16 z17 z18 z19 z20 z21 z22 z23 z24 z25 z26 z27 z28 z29 z30 z31 z32 z33 z34 z35 z36 z37 z38 z39 z40 z41 z42 z43 z44 z45 z46 : AV) (he : i + r = n) (hul : Ok ul) (hoff : off + n ≤ ul.length) (hc : c < 4294967296) (hv : v ≤ 1) (h9 : ∀ (z10 z11 z12 z13 z14 z15 z16 z17 z18 z19 z20 z21 z22 z23 z24 z25 z26 z27 z28 z29 z30 z31 z32 z33 z34 z35 z36 z37 z38 z39 z40 z41 z42 z43 z44 z45 z46 : AV), K (.exit 0) ⟨[(.own h g off n 1 cap), .d y, intA .u64 (q : Int)] ++ us 3 ++ [No, intA .u64 (((lesF b q off r i c v ul).2.1 : Nat) : Int), intA .u64 (((lesF b q off r i c v ul).2.2 : Nat) : Int), J (n : Int), z10, z11, z12, z13, z14, z15, z16, z17, z18, z19, z20, z21, z22, z23, z24, z25, z26, z27, z28, z29, z30, z31, z32, z33, z34, z35, z36, z37, z38, z39, z40, z41, z42, z43, z44, z45, z46, U, U], (Mu M h g ((lesF b q off r i c v ul).1))⟩), EvK Try.cx 86 (.loop lesC) ⟨[(.own h g off n 1 cap), .d y, intA .u64 (q : Int)] ++ us 3 ++ [No, intA .u64 (c : Int), intA .u64 (v : Int), J (i : Int), z10, z11, z12, z13, z14, z15, z16, z17, z18, z19, z20, z21, z22, z23, z24, z25, z26, z27, z28, z29, z30, z31, z32, z33, z34, z35, z36, z37, z38, z39, z40, z41, z42, z43, z44, z45, z46, U, U], (Mu M h g (ul))⟩ K
  | 0, i, c, v, ul, z10, z11, z12, z13, z14, z15, z16, z17, z18, z19, z20, z21, z22, z23, z24, z25, z26, z27, z28, z29, z30, z31, z32, z33, z34, z35, z36, z37, z38, z39, z40, z41, z42, z43, z44, z45, z46, he, hul, hoff, hc, hv, h9 => by
    have hk : i = n := by omega
    subst hk
    exact les_round hy hb hul hn hq hh hoff hc hv z10 z11 z12 z13 z14 z15 z16 z17 z18 z19 z20 z21 z22 z23 z24 z25 z26 z27 z28 z29 z30 z31 z32 z33 z34 z35 z36 z37 z38 z39 z40 z41 z42 z43 z44 z45 z46 (fun _ => h9) fun h1 => by omega
  | r + 1, i, c, v, ul, z10, z11, z12, z13, z14, z15, z16, z17, z18, z19, z20, z21, z22, z23, z24, z25, z26, z27, z28, z29, z30, z31, z32, z33, z34, z35, z36, z37, z38, z39, z40, z41, z42, z43, z44, z45, z46, he, hul, hoff, hc, hv, h9 => by
    have h2 := mulB hq (hb i)
    refine les_round hy hb hul hn hq hh hoff hc hv z10 z11 z12 z13 z14 z15 z16 z17 z18 z19 z20 z21 z22 z23 z24 z25 z26 z27 z28 z29 z30 z31 z32 z33 z34 z35 z36 z37 z38 z39 z40 z41 z42 z43 z44 z45 z46 (fun h0 => by omega) fun _ z10 z11 z12 z13 z14 z15 z16 z17 z18 z19 z20 z21 z22 z23 z24 z25 z26 z27 z28 z29 z30 z31 z32 z33 z34 z35 z36 z37 z38 z39 z40 z41 z42 z43 z44 z45 z46 => ?_
    refine les_loop hy hb hn hq hh r (i + 1) _ _ _ z10 z11 z12 z13 z14 z15 z16 z17 z18 z19 z20 z21 z22 z23 z24 z25 z26 z27 z28 z29 z30 z31 z32 z33 z34 z35 z36 z37 z38 z39 z40 z41 z42 z43 z44 z45 z46 (by omega) (ok_set hul (Nat.mod_lt _ (by decide))) (by simp; omega) (by omega) (by omega) ?_
    rw [lesF] at h9
    exact h9

theorem g_lessen {b ul : List Nat} {y : D} {M : Mem} {h g off n q : Nat} {cap : Option Nat} (hy : Ws b y) (hb : Ok b) (hul : Ok ul) (hn : n < 100000000) (hq : q < 4294967296) (hh : h < M.b.length) (hoff : off + n ≤ ul.length) : Runs1 Try.cx 86 [(.own h g off n 1 cap), .d y, intA .u64 (q : Int)] (Mu M h g ul) (boolA (((lesF b q off n 0 0 0 ul).2.2 : Int) == 1)) (Mu M h g (lesF b q off n 0 0 0 ul).1) := by
  refine runs_of (fn := Try.f86) (by kernel_rfl) rfl ?_
  show EvK _ _ _ ⟨[(.own h g off n 1 cap), .d y, intA .u64 (q : Int)] ++ us 46, (Mu M h g ul)⟩ _
  refine ev_seq ?_
  refine ev_reg (by kernel_rfl) ?_
  refine rs_alu [(6, No)] (fun cf => by kernel_rfl) ?_
  refine ev_seq ?_
  refine ev_reg (by kernel_rfl) ?_
  refine rs_alu [(7, intA .u64 0)] (fun cf => by kernel_rfl) ?_
  refine ev_seq ?_
  refine ev_reg (by kernel_rfl) ?_
  refine rs_alu [(8, intA .u64 0)] (fun cf => by kernel_rfl) ?_
  refine ev_seq ?_
  refine ev_seq ?_
  refine ev_reg (by kernel_rfl) ?_
  refine rs_all (s1 := ⟨[(.own h g off n 1 cap), .d y, intA .u64 (q : Int)] ++ us 3 ++ [No, intA .u64 0, intA .u64 0, J 0] ++ us 39, (Mu M h g ul)⟩) (fun cf => by kernel_rfl) ?_
  refine ev_block ?_
  refine les_loop hy hb (by omega) hq hh n 0 0 0 ul _ _ _ _ _ _ _ _ _ _ _ _ _ _ _ _ _ _ _ _ _ _ _ _ _ _ _ _ _ _ _ _ _ _ _ _ _ (by omega) hul hoff (by decide) (by decide) fun v10 v11 v12 v13 v14 v15 v16 v17 v18 v19 v20 v21 v22 v23 v24 v25 v26 v27 v28 v29 v30 v31 v32 v33 v34 v35 v36 v37 v38 v39 v40 v41 v42 v43 v44 v45 v46 => ?_
  refine ev_seq ?_
  refine ev_reg (by kernel_rfl) ?_
  refine rs_all (s1 := ⟨[(.own h g off n 1 cap), .d y, intA .u64 (q : Int)] ++ us 3 ++ [boolA ((((lesF b q off n 0 0 0 ul).2.2 : Nat) : Int) == 1), intA .u64 (((lesF b q off n 0 0 0 ul).2.1 : Nat) : Int), intA .u64 (((lesF b q off n 0 0 0 ul).2.2 : Nat) : Int), J (n : Int), v10, v11, v12, v13, v14, v15, v16, v17, v18, v19, v20, v21, v22, v23, v24, v25, v26, v27, v28, v29, v30, v31, v32, v33, v34, v35, v36, v37, v38, v39, v40, v41, v42, v43, v44, v45, v46, intA .u64 (((lesF b q off n 0 0 0 ul).2.2 : Nat) : Int), boolA ((((lesF b q off n 0 0 0 ul).2.2 : Nat) : Int) == 1)], (Mu M h g (lesF b q off n 0 0 0 ul).1)⟩) (fun cf => by kernel_rfl) ?_
  refine ev_ret ?_
  exact ⟨.inr rfl, by kernel_rfl, rfl⟩
def resF (b : List Nat) (off : Nat) : Nat → Nat → Nat → List Nat → List Nat × Nat
  | 0, _, c, ul => (ul, c)
  | r + 1, i, c, ul => resF b off r (i + 1) ((ul.getD (off + i) 0 + b.getD i 0 + c) / 4294967296) (ul.set (off + i) ((ul.getD (off + i) 0 + b.getD i 0 + c) % 4294967296))
theorem resF_len (b : List Nat) (off : Nat) : ∀ r i c ul, (resF b off r i c ul).1.length = ul.length
  | 0, _, _, _ => rfl
  | r + 1, i, c, ul => by rw [resF, resF_len b off r]; simp
theorem resF_ok (b : List Nat) (off : Nat) : ∀ r i c ul, Ok ul → Ok (resF b off r i c ul).1
  | 0, _, _, _, h => h
  | r + 1, i, c, ul, h => by rw [resF]; exact resF_ok b off r _ _ _ (ok_set h (Nat.mod_lt _ (by decide)))
theorem resF_far (b : List Nat) (off : Nat) : ∀ r i c ul j, j < off + i ∨ off + i + r ≤ j → (resF b off r i c ul).1.getD j 0 = ul.getD j 0
  | 0, _, _, _, _, _ => rfl
  | r + 1, i, c, ul, j, h => by rw [resF, resF_far b off r (i + 1) _ _ j (by omega), getD_set_ne (by omega)]
theorem res_alg {X m z vu vb t c1 B d u b c : Nat} (hd : B * c1 + d = t) (ht : t = u + b + c) (ih : X + m * z = vu + vb + c1) : d + B * X + m * B * z = (u + B * vu) + (b + B * vb) + c := by
  have e1 : B * (X + m * z) = B * (vu + vb + c1) := by rw [ih]
  have e2 : m * B * z = B * (m * z) := by rw [Nat.mul_comm m B, Nat.mul_assoc]
  rw [Nat.mul_add, Nat.mul_add, Nat.mul_add] at e1
  omega
theorem res_val {b : List Nat} {off : Nat} : ∀ r i c ul, off + i + r ≤ ul.length → vF (resF b off r i c ul).1 (off + i) r + 4294967296 ^ r * (resF b off r i c ul).2 = vF ul (off + i) r + vF b i r + c
  | 0, i, c, ul, _ => by simp [resF, vF]
  | r + 1, i, c, ul, hl => by
    have i1 := res_val (b := b) (off := off) r (i + 1) ((ul.getD (off + i) 0 + b.getD i 0 + c) / 4294967296) (ul.set (off + i) ((ul.getD (off + i) 0 + b.getD i 0 + c) % 4294967296)) (by simp; omega)
    have hdm := Nat.div_add_mod (ul.getD (off + i) 0 + b.getD i 0 + c) 4294967296
    have e1 : (resF b off (r + 1) i c ul).1.getD (off + i) 0 = (ul.getD (off + i) 0 + b.getD i 0 + c) % 4294967296 := by
      rw [resF, resF_far b off r (i + 1) _ _ _ (by omega), getD_set_eq (by omega)]
    have e2 : vF (ul.set (off + i) ((ul.getD (off + i) 0 + b.getD i 0 + c) % 4294967296)) (off + (i + 1)) r = vF ul (off + (i + 1)) r := vF_congr _ _ fun j h1 h2 => getD_set_ne (by omega)
    have e3 : resF b off (r + 1) i c ul = resF b off r (i + 1) ((ul.getD (off + i) 0 + b.getD i 0 + c) / 4294967296) (ul.set (off + i) ((ul.getD (off + i) 0 + b.getD i 0 + c) % 4294967296)) := by rw [resF]
    have e4 : vF (resF b off (r + 1) i c ul).1 (off + i) (r + 1) = (ul.getD (off + i) 0 + b.getD i 0 + c) % 4294967296 + 4294967296 * vF (resF b off (r + 1) i c ul).1 (off + (i + 1)) r := by rw [vF, e1]; rfl
    have e6 : ∀ (l : List Nat) k, vF l k (r + 1) = l.getD k 0 + 4294967296 * vF l (k + 1) r := fun _ _ => rfl
    rw [e2, ← e3] at i1
    rw [e4, e6 ul, e6 b, Nat.pow_succ]
    exact res_alg hdm rfl i1

noncomputable def resC : Code := (lft (lft (rgt (rgt (Try.f87.body.getD .skip)))))

theorem res_round {K : Out → St → Prop} {b ul : List Nat} {y : D} {M : Mem} {h g off n i c : Nat} {cap : Option Nat}  (hy : Ws b y) (hb : Ok b) (hul : Ok ul) (hn : n < 1000000000) (hh : h < M.b.length) (hoff : off + n ≤ ul.length) (hc : c ≤ 1) (z6 z7 z8 z9 z10 z11 z12 z13 z14 z15 z16 z17 z18 z19 z20 z21 z22 z23 z24 z25 z26 z27 z28 z29 z30 z31 : AV) (h0 : n ≤ i → ∀ z6 z7 z8 z9 z10 z11 z12 z13 z14 z15 z16 z17 z18 z19 z20 z21 z22 z23 z24 z25 z26 z27 z28 z29 z30 z31, K (.exit 0) ⟨[(.own h g off n 1 cap), .d y, U, U, intA .u64 (c : Int), J (i : Int), z6, z7, z8, z9, z10, z11, z12, z13, z14, z15, z16, z17, z18, z19, z20, z21, z22, z23, z24, z25, z26, z27, z28, z29, z30, z31], (Mu M h g (ul))⟩) (h1 : i < n → ∀ z6 z7 z8 z9 z10 z11 z12 z13 z14 z15 z16 z17 z18 z19 z20 z21 z22 z23 z24 z25 z26 z27 z28 z29 z30 z31, EvK Try.cx 87 (.loop resC) ⟨[(.own h g off n 1 cap), .d y, U, U, intA .u64 (((ul.getD (off + i) 0 + b.getD i 0 + c) / 4294967296 : Nat) : Int), J ((i + 1 : Nat) : Int), z6, z7, z8, z9, z10, z11, z12, z13, z14, z15, z16, z17, z18, z19, z20, z21, z22, z23, z24, z25, z26, z27, z28, z29, z30, z31], (Mu M h g (ul.set (off + i) ((ul.getD (off + i) 0 + b.getD i 0 + c) % 4294967296)))⟩ K) : EvK Try.cx 87 (.loop resC) ⟨[(.own h g off n 1 cap), .d y, U, U, intA .u64 (c : Int), J (i : Int), z6, z7, z8, z9, z10, z11, z12, z13, z14, z15, z16, z17, z18, z19, z20, z21, z22, z23, z24, z25, z26, z27, z28, z29, z30, z31], (Mu M h g (ul))⟩ K := by
  refine ev_loop ?_
  refine ev_seq ?_
  refine ev_seq ?_
  refine ev_reg (by kernel_rfl) ?_
  refine rs_up 2 [(7, J (i : Int)), (8, (.own h g off n 1 cap))] (fun cf => by kernel_rfl) ?_
  refine rs_cl (fun m9 => lenA Try.cx 32 (Mu M h g (ul)) (.own h g off n 1 cap)) (some 9) (n) (fun cf => by kernel_rfl) (len_own (mu_row hh)) ?_
  refine rs_all (s1 := ⟨[(.own h g off n 1 cap), .d y, U, U, intA .u64 (c : Int), J (i : Int), z6, J (i : Int), (.own h g off n 1 cap), J (n : Int), boolA (decide ((i : Int) < (n : Int))), z11, z12, z13, z14, z15, z16, z17, z18, z19, z20, z21, z22, z23, z24, z25, z26, z27, z28, z29, z30, z31], (Mu M h g (ul))⟩) (fun cf => by kernel_rfl) ?_
  rcases hb1 : ((decide ((i : Int) < (n : Int))) : Bool) with _ | _
  ·
    have hb1' := of_decide_eq_false hb1
    refine ev_false (by kernel_rfl) ?_
    refine ev_exit ?_
    exact h0 (by omega) _ _ _ _ _ _ _ _ _ _ _ _ _ _ _ _ _ _ _ _ _ _ _ _ _ _
  ·
    have hb1' := of_decide_eq_true hb1
    refine ev_true (by kernel_rfl) ?_
    refine ev_skip ?_
    refine ev_seq ?_
    refine ev_block ?_
    refine ev_seq ?_
    refine ev_reg (by kernel_rfl) ?_
    refine rs_up 2 [(13, (.own h g off n 1 cap)), (14, J (i : Int))] (fun cf => by kernel_rfl) ?_
    refine rs_cv (fun m9 => indexAddrA Try.cx 32 (Mu M h g (ul)) (.own h g off n 1 cap) (J (i : Int))) (some 15) (.ptr h g (off + i)) (fun cf => by kernel_rfl) (idx_ownF (k := i) (by rfl) (mu_row hh) (by omega)) ?_
    refine rs_cv (fun m9 => loadA Try.cx 22 (Mu M h g (ul)) (.ptr h g (off + i))) (some 16) (intA .u32 ((ul.getD (off + i) 0 : Nat) : Int)) (fun cf => by kernel_rfl) (load_own (mu_row hh) (by omega)) ?_
    refine rs_up 1 [(17, intA .u64 (IntKind.wrap .u64 ((ul.getD (off + i) 0 : Nat) : Int)))] (fun cf => by kernel_rfl) ?_
    rw [wrapU (n := ul.getD (off + i) 0) (by have := hul (off + i); have := hb i; omega)]
    refine rs_up 2 [(18, .d y), (19, J (i : Int))] (fun cf => by kernel_rfl) ?_
    refine rs_cp 82 [.d y, J (i : Int)] false (some 20) (intA .u64 ((b.getD i 0 : Nat) : Int)) (by kernel_rfl) (g_word (i := i) hy hb) (by kernel_rfl) ?_
    refine rs_up 1 [(21, intA .u64 (IntKind.wrap .u64 (((ul.getD (off + i) 0 : Nat) : Int) + ((b.getD i 0 : Nat) : Int))))] (fun cf => by kernel_rfl) ?_
    rw [addU (a := ((ul.getD (off + i) 0 : Nat) : Int)) (b := ((b.getD i 0 : Nat) : Int)) (A := ul.getD (off + i) 0) (B := b.getD i 0) (by rfl) (by rfl) (by have := hul (off + i); have := hb i; omega)]
    refine rs_up 2 [(22, intA .u64 (c : Int)), (23, intA .u64 (IntKind.wrap .u64 ((((ul.getD (off + i) 0) + (b.getD i 0) : Nat) : Int) + (c : Int))))] (fun cf => by kernel_rfl) ?_
    rw [addU (a := (((ul.getD (off + i) 0) + (b.getD i 0) : Nat) : Int)) (b := (c : Int)) (A := (ul.getD (off + i) 0) + (b.getD i 0)) (B := c) (by rfl) (by rfl) (by have := hul (off + i); have := hb i; omega)]
    refine rs_alu [(6, intA .u64 ((((ul.getD (off + i) 0) + (b.getD i 0)) + c : Nat) : Int))] (fun cf => by kernel_rfl) ?_
    refine ev_seq ?_
    refine ev_reg (by kernel_rfl) ?_
    refine rs_up 4 [(24, (.own h g off n 1 cap)), (25, J (i : Int)), (26, intA .u64 ((((ul.getD (off + i) 0) + (b.getD i 0)) + c : Nat) : Int)), (27, intA .u64 (Int.tmod ((((ul.getD (off + i) 0) + (b.getD i 0)) + c : Nat) : Int) 4294967296))] (fun cf => by kernel_rfl) ?_
    rw [remN (a := ((((ul.getD (off + i) 0) + (b.getD i 0)) + c : Nat) : Int)) (b := 4294967296) (A := ((ul.getD (off + i) 0) + (b.getD i 0)) + c) (B := 4294967296) (by rfl) (by rfl)]
    refine rs_up 1 [(28, intA .u32 (IntKind.wrap .u32 (((((ul.getD (off + i) 0) + (b.getD i 0)) + c) % 4294967296 : Nat) : Int)))] (fun cf => by kernel_rfl) ?_
    rw [wrapW (n := (((ul.getD (off + i) 0) + (b.getD i 0)) + c) % 4294967296) (by omega)]
    refine rs_cv (fun m9 => indexAddrA Try.cx 32 (Mu M h g (ul)) (.own h g off n 1 cap) (J (i : Int))) (some 29) (.ptr h g (off + i)) (fun cf => by kernel_rfl) (idx_ownF (k := i) (by rfl) (mu_row hh) (by omega)) ?_
    refine rs_cu (fun m9 => storeA Try.cx 22 (Mu M h g (ul)) (.ptr h g (off + i)) (intA .u32 (((((ul.getD (off + i) 0) + (b.getD i 0)) + c) % 4294967296 : Nat) : Int))) none (Mu M h g (ul.set (off + i) ((((ul.getD (off + i) 0) + (b.getD i 0)) + c) % 4294967296))) (fun cf => by kernel_rfl) (store_mu (v := (((ul.getD (off + i) 0) + (b.getD i 0)) + c) % 4294967296) hh (by omega)) ?_
    refine rs_alu [] (fun cf => by kernel_rfl) ?_
    refine ev_reg (by kernel_rfl) ?_
    refine rs_up 2 [(30, intA .u64 ((((ul.getD (off + i) 0) + (b.getD i 0)) + c : Nat) : Int)), (31, intA .u64 (IntKind.wrap .u64 (Int.tdiv ((((ul.getD (off + i) 0) + (b.getD i 0)) + c : Nat) : Int) 4294967296)))] (fun cf => by kernel_rfl) ?_
    rw [quoU (a := ((((ul.getD (off + i) 0) + (b.getD i 0)) + c : Nat) : Int)) (b := 4294967296) (A := ((ul.getD (off + i) 0) + (b.getD i 0)) + c) (B := 4294967296) (by rfl) (by rfl) (by have := hul (off + i); have := hb i; omega)]
    refine rs_alu [(4, intA .u64 (((((ul.getD (off + i) 0) + (b.getD i 0)) + c) / 4294967296 : Nat) : Int))] (fun cf => by kernel_rfl) ?_
    refine ev_reg (by kernel_rfl) ?_
    refine rs_up 2 [(11, J (i : Int)), (12, J (IntKind.wrap .i64 ((i : Int) + 1)))] (fun cf => by kernel_rfl) ?_
    rw [addI (a := (i : Int)) (b := 1) (A := i) (B := 1) (by rfl) (by rfl) (by omega)]
    refine rs_all (s1 := ⟨[(.own h g off n 1 cap), .d y, U, U, intA .u64 (((((ul.getD (off + i) 0) + (b.getD i 0)) + c) / 4294967296 : Nat) : Int), J ((i + 1 : Nat) : Int), intA .u64 ((((ul.getD (off + i) 0) + (b.getD i 0)) + c : Nat) : Int), J (i : Int), (.own h g off n 1 cap), J (n : Int), Yes, J (i : Int), J ((i + 1 : Nat) : Int), (.own h g off n 1 cap), J (i : Int), .ptr h g (off + i), intA .u32 ((ul.getD (off + i) 0 : Nat) : Int), intA .u64 ((ul.getD (off + i) 0 : Nat) : Int), .d y, J (i : Int), intA .u64 ((b.getD i 0 : Nat) : Int), intA .u64 (((ul.getD (off + i) 0) + (b.getD i 0) : Nat) : Int), intA .u64 (c : Int), intA .u64 ((((ul.getD (off + i) 0) + (b.getD i 0)) + c : Nat) : Int), (.own h g off n 1 cap), J (i : Int), intA .u64 ((((ul.getD (off + i) 0) + (b.getD i 0)) + c : Nat) : Int), intA .u64 (((((ul.getD (off + i) 0) + (b.getD i 0)) + c) % 4294967296 : Nat) : Int), intA .u32 (((((ul.getD (off + i) 0) + (b.getD i 0)) + c) % 4294967296 : Nat) : Int), .ptr h g (off + i), intA .u64 ((((ul.getD (off + i) 0) + (b.getD i 0)) + c : Nat) : Int), intA .u64 (((((ul.getD (off + i) 0) + (b.getD i 0)) + c) / 4294967296 : Nat) : Int)], (Mu M h g (ul.set (off + i) ((((ul.getD (off + i) 0) + (b.getD i 0)) + c) % 4294967296)))⟩) (fun cf => by kernel_rfl) ?_
    exact h1 (by omega) _ _ _ _ _ _ _ _ _ _ _ _ _ _ _ _ _ _ _ _ _ _ _ _ _ _

theorem res_loop {K : Out → St → Prop} {b : List Nat} {y : D} {M : Mem} {h g off n : Nat} {cap : Option Nat} (hy : Ws b y) (hb : Ok b) (hn : n < 1000000000) (hh : h < M.b.length) :
    ∀ (r i c : Nat) (ul : List Nat) (z6 z7 z8 z9 z10 z11 z12 z13 z14 z15 z16 z17 z18 z19 z20 z21 z22 z23 z24 z25 z26 z27 z28 z29 z30 z31 : AV) (he : i + r = n) (hul : Ok ul) (hoff : off + n ≤ ul.length) (hc : c ≤ 1) (h9 : ∀ (z6 z7 z8 z9 z10 z11 z12 z13 z14 z15 z16 z17 z18 z19 z20 z21 z22 z23 z24 z25 z26 z27 z28 z29 z30 z31 : AV), K (.exit 0) ⟨[(.own h g off n 1 cap), .d y, U, U, intA .u64 (((resF b off r i c ul).2 : Nat) : Int), J (n : Int), z6, z7, z8, z9, z10, z11, z12, z13, z14, z15, z16, z17, z18, z19, z20, z21, z22, z23, z24, z25, z26, z27, z28, z29, z30, z31], (Mu M h g ((resF b off r i c ul).1))⟩), EvK Try.cx 87 (.loop resC) ⟨[(.own h g off n 1 cap), .d y, U, U, intA .u64 (c : Int), J (i : Int), z6, z7, z8, z9, z10, z11, z12, z13, z14, z15, z16, z17, z18, z19, z20, z21, z22, z23, z24, z25, z26, z27, z28, z29, z30, z31], (Mu M h g (ul))⟩ K
  | 0, i, c, ul, z6, z7, z8, z9, z10, z11, z12, z13, z14, z15, z16, z17, z18, z19, z20, z21, z22, z23, z24, z25, z26, z27, z28, z29, z30, z31, he, hul, hoff, hc, h9 => by
    have hk : i = n := by omega
    subst hk
    exact res_round hy hb hul hn hh hoff hc z6 z7 z8 z9 z10 z11 z12 z13 z14 z15 z16 z17 z18 z19 z20 z21 z22 z23 z24 z25 z26 z27 z28 z29 z30 z31 (fun _ => h9) fun h1 => by omega
  | r + 1, i, c, ul, z6, z7, z8, z9, z10, z11, z12, z13, z14, z15, z16, z17, z18, z19, z20, z21, z22, z23, z24, z25, z26, z27, z28, z29, z30, z31, he, hul, hoff, hc, h9 => by
    have h2 := hul (off + i)
    have h3 := hb i
    refine res_round hy hb hul hn hh hoff hc z6 z7 z8 z9 z10 z11 z12 z13 z14 z15 z16 z17 z18 z19 z20 z21 z22 z23 z24 z25 z26 z27 z28 z29 z30 z31 (fun h0 => by omega) fun _ z6 z7 z8 z9 z10 z11 z12 z13 z14 z15 z16 z17 z18 z19 z20 z21 z22 z23 z24 z25 z26 z27 z28 z29 z30 z31 => ?_
    refine res_loop hy hb hn hh r (i + 1) _ _ z6 z7 z8 z9 z10 z11 z12 z13 z14 z15 z16 z17 z18 z19 z20 z21 z22 z23 z24 z25 z26 z27 z28 z29 z30 z31 (by omega) (ok_set hul (Nat.mod_lt _ (by decide))) (by simp; omega) (by omega) ?_
    rw [resF] at h9
    exact h9

theorem g_restore {b ul : List Nat} {y : D} {M : Mem} {h g off n : Nat} {cap : Option Nat} (hy : Ws b y) (hb : Ok b) (hul : Ok ul) (hn : n < 100000000) (hh : h < M.b.length) (hoff : off + n ≤ ul.length) : Runs1 Try.cx 87 [(.own h g off n 1 cap), .d y] (Mu M h g ul) (.tu []) (Mu M h g (resF b off n 0 0 ul).1) := by
  refine runs_of (fn := Try.f87) (by kernel_rfl) rfl ?_
  show EvK _ _ _ ⟨[(.own h g off n 1 cap), .d y] ++ us 30, (Mu M h g ul)⟩ _
  refine ev_seq ?_
  refine ev_reg (by kernel_rfl) ?_
  refine rs_alu [(4, intA .u64 0)] (fun cf => by kernel_rfl) ?_
  refine ev_seq ?_
  refine ev_reg (by kernel_rfl) ?_
  refine rs_all (s1 := ⟨[(.own h g off n 1 cap), .d y, U, U, intA .u64 0, J 0] ++ us 26, (Mu M h g ul)⟩) (fun cf => by kernel_rfl) ?_
  refine ev_block ?_
  refine res_loop hy hb (by omega) hh n 0 0 ul _ _ _ _ _ _ _ _ _ _ _ _ _ _ _ _ _ _ _ _ _ _ _ _ _ _ (by omega) hul hoff (by decide) fun v6 v7 v8 v9 v10 v11 v12 v13 v14 v15 v16 v17 v18 v19 v20 v21 v22 v23 v24 v25 v26 v27 v28 v29 v30 v31 => ?_
  exact ⟨.inl rfl, by kernel_rfl, rfl⟩

end Go.Proofs.Ytgkjdfojogemhaa.W
