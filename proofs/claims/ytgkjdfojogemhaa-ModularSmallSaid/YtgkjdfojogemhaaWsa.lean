/-
  The program: products of words. Made by program. Conditions: none.
-/
import Derived.Test.YtgkjdfojogemhaaWnj
set_option maxRecDepth 100000
set_option maxHeartbeats 20000000
set_option linter.unusedSimpArgs false
set_option linter.unusedVariables false
namespace Go.Proofs.Ytgkjdfojogemhaa.W
open Go.Am
noncomputable def pmulInC : Code := (lft (lft (rgt (lft (rgt (rgt (lft (lft (rgt (rgt (lft (lft (rgt (lft (rgt (rgt (Try.f73.body.getD .skip)))))))))))))))))
theorem pmulin_round {K : Out → St → Prop} {a b o : List Nat} {x y : D} {n i k c : Nat} (x11 x12 x13 x14 x15 x16 x20 x21 x22 x23 x56 x57 x58 x59 x60 x61 x62 x63 x64 x65 x66 : AV) (hx : Ws a x) (hy : Ws b y) (ha : Ok a) (hb : Ok b) (hoo : Ok o) (hn : n < 1000000000) (ho : o.length = n) (hi : i < a.length) (hl : a.length + b.length = n) (hc : c < 4294967296) (z9 z10 z27 z28 z29 z30 z31 z32 z33 z34 z35 z36 z37 z38 z39 z40 z41 z42 z43 z44 z45 z46 z47 z48 z49 z50 z51 z52 z53 z54 z55 : AV) (h0 : b.length ≤ k → ∀ z9 z10 z27 z28 z29 z30 z31 z32 z33 z34 z35 z36 z37 z38 z39 z40 z41 z42 z43 z44 z45 z46 z47 z48 z49 z50 z51 z52 z53 z54 z55, K (.exit 2) ⟨[.d x, .d y, U, U, .d (.v (.slice none 0 0)), .own 0 0 0 n 1 (some n), J (i : Int), intA .u32 ((a.getD i 0 : Nat) : Int), intA .u64 (c : Int), z9, z10, x11, x12, x13, x14, x15, x16, .d x, J (a.length : Int), J (i : Int), x20, x21, x22, x23, .d y, J (b.length : Int), J (k : Int), z27, z28, z29, z30, z31, z32, z33, z34, z35, z36, z37, z38, z39, z40, z41, z42, z43, z44, z45, z46, z47, z48, z49, z50, z51, z52, z53, z54, z55, x56, x57, x58, x59, x60, x61, x62, x63, x64, x65, x66], ⟨[.row (wa (o)) 0 .ow none], 1⟩⟩) (h1 : k < b.length → ∀ z9 z10 z27 z28 z29 z30 z31 z32 z33 z34 z35 z36 z37 z38 z39 z40 z41 z42 z43 z44 z45 z46 z47 z48 z49 z50 z51 z52 z53 z54 z55, EvK Try.cx 73 (.loop pmulInC) ⟨[.d x, .d y, U, U, .d (.v (.slice none 0 0)), .own 0 0 0 n 1 (some n), J (i : Int), intA .u32 ((a.getD i 0 : Nat) : Int), intA .u64 (((c + (a.getD i 0 * b.getD k 0 + o.getD (i + k) 0)) / 4294967296 : Nat) : Int), z9, z10, x11, x12, x13, x14, x15, x16, .d x, J (a.length : Int), J (i : Int), x20, x21, x22, x23, .d y, J (b.length : Int), J ((k + 1 : Nat) : Int), z27, z28, z29, z30, z31, z32, z33, z34, z35, z36, z37, z38, z39, z40, z41, z42, z43, z44, z45, z46, z47, z48, z49, z50, z51, z52, z53, z54, z55, x56, x57, x58, x59, x60, x61, x62, x63, x64, x65, x66], ⟨[.row (wa (o.set (i + k) ((c + (a.getD i 0 * b.getD k 0 + o.getD (i + k) 0)) % 4294967296))) 0 .ow none], 1⟩⟩ K) : EvK Try.cx 73 (.loop pmulInC) ⟨[.d x, .d y, U, U, .d (.v (.slice none 0 0)), .own 0 0 0 n 1 (some n), J (i : Int), intA .u32 ((a.getD i 0 : Nat) : Int), intA .u64 (c : Int), z9, z10, x11, x12, x13, x14, x15, x16, .d x, J (a.length : Int), J (i : Int), x20, x21, x22, x23, .d y, J (b.length : Int), J (k : Int), z27, z28, z29, z30, z31, z32, z33, z34, z35, z36, z37, z38, z39, z40, z41, z42, z43, z44, z45, z46, z47, z48, z49, z50, z51, z52, z53, z54, z55, x56, x57, x58, x59, x60, x61, x62, x63, x64, x65, x66], ⟨[.row (wa (o)) 0 .ow none], 1⟩⟩ K := by
  refine ev_loop ?_
  refine ev_seq ?_
  refine ev_reg (by kernel_rfl) ?_
  refine rs_all (s1 := ⟨[.d x, .d y, U, U, .d (.v (.slice none 0 0)), .own 0 0 0 n 1 (some n), J (i : Int), intA .u32 ((a.getD i 0 : Nat) : Int), intA .u64 (c : Int), z9, z10, x11, x12, x13, x14, x15, x16, .d x, J (a.length : Int), J (i : Int), x20, x21, x22, x23, .d y, J (b.length : Int), J (k : Int), boolA (decide ((k : Int) < (b.length : Int))), z28, z29, z30, z31, z32, z33, z34, z35, z36, z37, z38, z39, z40, z41, z42, z43, z44, z45, z46, z47, z48, z49, z50, z51, z52, z53, z54, z55, x56, x57, x58, x59, x60, x61, x62, x63, x64, x65, x66], ⟨[.row (wa (o)) 0 .ow none], 1⟩⟩) (fun cf => by kernel_rfl) ?_
  refine ev_seq ?_
  rcases hb1 : ((decide ((k : Int) < (b.length : Int))) : Bool) with _ | _
  ·
    have hb1' := of_decide_eq_false hb1
    refine ev_false (by kernel_rfl) ?_
    refine ev_exit ?_
    exact h0 (by omega) _ _ _ _ _ _ _ _ _ _ _ _ _ _ _ _ _ _ _ _ _ _ _ _ _ _ _ _ _ _ _
  ·
    have hb1' := of_decide_eq_true hb1
    refine ev_true (by kernel_rfl) ?_
    refine ev_skip ?_
    refine ev_seq ?_
    refine ev_block ?_
    refine ev_seq ?_
    refine ev_reg (by kernel_rfl) ?_
    refine rs_up 1 [(28, J (k : Int))] (fun cf => by kernel_rfl) ?_
    refine rs_cv (fun m9 => indexAddrA Try.cx 83 m9 (.d y) (J (k : Int))) (some 29) (.rp [.v (.int .u32 ((b.getD k 0 : Nat) : Int))]) (fun cf => by kernel_rfl) (idx_wsN (k := k) hy (by rfl) (by omega)) ?_
    refine rs_alu [(9, J (k : Int)), (10, intA .u32 ((b.getD k 0 : Nat) : Int)), (30, intA .u32 ((b.getD k 0 : Nat) : Int))] (fun cf => by kernel_rfl) ?_
    refine ev_seq ?_
    refine ev_reg (by kernel_rfl) ?_
    refine rs_up 3 [(31, intA .u64 (c : Int)), (32, intA .u32 ((a.getD i 0 : Nat) : Int)), (33, intA .u64 (IntKind.wrap .u64 ((a.getD i 0 : Nat) : Int)))] (fun cf => by kernel_rfl) ?_
    rw [wrapU (n := a.getD i 0) (by have := ha i; omega)]
    refine rs_up 2 [(34, intA .u32 ((b.getD k 0 : Nat) : Int)), (35, intA .u64 (IntKind.wrap .u64 ((b.getD k 0 : Nat) : Int)))] (fun cf => by kernel_rfl) ?_
    rw [wrapU (n := b.getD k 0) (by have := hb k; omega)]
    refine rs_up 1 [(36, intA .u64 (IntKind.wrap .u64 (((a.getD i 0 : Nat) : Int) * ((b.getD k 0 : Nat) : Int))))] (fun cf => by kernel_rfl) ?_
    rw [mulU (a := ((a.getD i 0 : Nat) : Int)) (b := ((b.getD k 0 : Nat) : Int)) (A := a.getD i 0) (B := b.getD k 0) (by rfl) (by rfl) (by have := mulB (ha i) (hb k); have := hoo (i + k); omega)]
    refine rs_up 4 [(37, .own 0 0 0 n 1 (some n)), (38, J (i : Int)), (39, J (k : Int)), (40, J (IntKind.wrap .i64 ((i : Int) + (k : Int))))] (fun cf => by kernel_rfl) ?_
    rw [addI (a := (i : Int)) (b := (k : Int)) (A := i) (B := k) (by rfl) (by rfl) (by omega)]
    refine rs_cv (fun m9 => indexAddrA Try.cx 83 m9 (.own 0 0 0 n 1 (some n)) (J ((i + k : Nat) : Int))) (some 41) (.ptr 0 0 (i + k)) (fun cf => by kernel_rfl) (idx_ownN (k := i + k) (by rfl) (row_at rfl) (by omega)) ?_
    refine rs_cv (fun m9 => loadA Try.cx 22 m9 (.ptr 0 0 (i + k))) (some 42) (intA .u32 ((o.getD (i + k) 0 : Nat) : Int)) (fun cf => by kernel_rfl) (load_own (row_at rfl) (by omega)) ?_
    refine rs_up 1 [(43, intA .u64 (IntKind.wrap .u64 ((o.getD (i + k) 0 : Nat) : Int)))] (fun cf => by kernel_rfl) ?_
    rw [wrapU (n := o.getD (i + k) 0) (by have := hoo (i + k); omega)]
    refine rs_up 1 [(44, intA .u64 (IntKind.wrap .u64 ((((a.getD i 0) * (b.getD k 0) : Nat) : Int) + ((o.getD (i + k) 0 : Nat) : Int))))] (fun cf => by kernel_rfl) ?_
    rw [addU (a := (((a.getD i 0) * (b.getD k 0) : Nat) : Int)) (b := ((o.getD (i + k) 0 : Nat) : Int)) (A := (a.getD i 0) * (b.getD k 0)) (B := o.getD (i + k) 0) (by rfl) (by rfl) (by have := mulB (ha i) (hb k); have := hoo (i + k); omega)]
    refine rs_up 1 [(45, intA .u64 (IntKind.wrap .u64 ((c : Int) + ((((a.getD i 0) * (b.getD k 0)) + (o.getD (i + k) 0) : Nat) : Int))))] (fun cf => by kernel_rfl) ?_
    rw [addU (a := (c : Int)) (b := ((((a.getD i 0) * (b.getD k 0)) + (o.getD (i + k) 0) : Nat) : Int)) (A := c) (B := ((a.getD i 0) * (b.getD k 0)) + (o.getD (i + k) 0)) (by rfl) (by rfl) (by have := mulB (ha i) (hb k); have := hoo (i + k); omega)]
    refine rs_alu [(8, intA .u64 ((c + (((a.getD i 0) * (b.getD k 0)) + (o.getD (i + k) 0)) : Nat) : Int))] (fun cf => by kernel_rfl) ?_
    refine ev_seq ?_
    refine ev_reg (by kernel_rfl) ?_
    refine rs_up 4 [(46, .own 0 0 0 n 1 (some n)), (47, J (i : Int)), (48, J (k : Int)), (49, J (IntKind.wrap .i64 ((i : Int) + (k : Int))))] (fun cf => by kernel_rfl) ?_
    rw [addI (a := (i : Int)) (b := (k : Int)) (A := i) (B := k) (by rfl) (by rfl) (by omega)]
    refine rs_up 2 [(50, intA .u64 ((c + (((a.getD i 0) * (b.getD k 0)) + (o.getD (i + k) 0)) : Nat) : Int)), (51, intA .u32 (IntKind.wrap .u32 ((c + (((a.getD i 0) * (b.getD k 0)) + (o.getD (i + k) 0)) : Nat) : Int)))] (fun cf => by kernel_rfl) ?_
    rw [wrapM (n := c + (((a.getD i 0) * (b.getD k 0)) + (o.getD (i + k) 0)))]
    refine rs_cv (fun m9 => indexAddrA Try.cx 83 m9 (.own 0 0 0 n 1 (some n)) (J ((i + k : Nat) : Int))) (some 52) (.ptr 0 0 (i + k)) (fun cf => by kernel_rfl) (idx_ownN (k := i + k) (by rfl) (row_at rfl) (by omega)) ?_
    refine rs_cu (fun m9 => storeA Try.cx 22 m9 (.ptr 0 0 (i + k)) (intA .u32 (((c + (((a.getD i 0) * (b.getD k 0)) + (o.getD (i + k) 0))) % 4294967296 : Nat) : Int))) none ⟨[.row (wa (o.set (i + k) ((c + (((a.getD i 0) * (b.getD k 0)) + (o.getD (i + k) 0))) % 4294967296))) 0 .ow none], 1⟩ (fun cf => by kernel_rfl) (store_own (v := (c + (((a.getD i 0) * (b.getD k 0)) + (o.getD (i + k) 0))) % 4294967296) rfl (by omega)) ?_
    refine rs_alu [] (fun cf => by kernel_rfl) ?_
    refine ev_reg (by kernel_rfl) ?_
    refine rs_up 2 [(53, intA .u64 ((c + (((a.getD i 0) * (b.getD k 0)) + (o.getD (i + k) 0)) : Nat) : Int)), (54, intA .u64 (Int.fdiv ((c + (((a.getD i 0) * (b.getD k 0)) + (o.getD (i + k) 0)) : Nat) : Int) (2 ^ 32)))] (fun cf => by kernel_rfl) ?_
    rw [shrN (A := c + (((a.getD i 0) * (b.getD k 0)) + (o.getD (i + k) 0))) (k := 32) (by rfl) (by rfl)]
    refine rs_alu [(8, intA .u64 (((c + (((a.getD i 0) * (b.getD k 0)) + (o.getD (i + k) 0))) / 4294967296 : Nat) : Int))] (fun cf => by kernel_rfl) ?_
    refine ev_reg (by kernel_rfl) ?_
    refine rs_up 1 [(55, J (IntKind.wrap .i64 ((k : Int) + 1)))] (fun cf => by kernel_rfl) ?_
    rw [addI (a := (k : Int)) (b := 1) (A := k) (B := 1) (by rfl) (by rfl) (by omega)]
    refine rs_all (s1 := ⟨[.d x, .d y, U, U, .d (.v (.slice none 0 0)), .own 0 0 0 n 1 (some n), J (i : Int), intA .u32 ((a.getD i 0 : Nat) : Int), intA .u64 (((c + (((a.getD i 0) * (b.getD k 0)) + (o.getD (i + k) 0))) / 4294967296 : Nat) : Int), J (k : Int), intA .u32 ((b.getD k 0 : Nat) : Int), x11, x12, x13, x14, x15, x16, .d x, J (a.length : Int), J (i : Int), x20, x21, x22, x23, .d y, J (b.length : Int), J ((k + 1 : Nat) : Int), Yes, J (k : Int), .rp [.v (.int .u32 ((b.getD k 0 : Nat) : Int))], intA .u32 ((b.getD k 0 : Nat) : Int), intA .u64 (c : Int), intA .u32 ((a.getD i 0 : Nat) : Int), intA .u64 ((a.getD i 0 : Nat) : Int), intA .u32 ((b.getD k 0 : Nat) : Int), intA .u64 ((b.getD k 0 : Nat) : Int), intA .u64 (((a.getD i 0) * (b.getD k 0) : Nat) : Int), .own 0 0 0 n 1 (some n), J (i : Int), J (k : Int), J ((i + k : Nat) : Int), .ptr 0 0 (i + k), intA .u32 ((o.getD (i + k) 0 : Nat) : Int), intA .u64 ((o.getD (i + k) 0 : Nat) : Int), intA .u64 ((((a.getD i 0) * (b.getD k 0)) + (o.getD (i + k) 0) : Nat) : Int), intA .u64 ((c + (((a.getD i 0) * (b.getD k 0)) + (o.getD (i + k) 0)) : Nat) : Int), .own 0 0 0 n 1 (some n), J (i : Int), J (k : Int), J ((i + k : Nat) : Int), intA .u64 ((c + (((a.getD i 0) * (b.getD k 0)) + (o.getD (i + k) 0)) : Nat) : Int), intA .u32 (((c + (((a.getD i 0) * (b.getD k 0)) + (o.getD (i + k) 0))) % 4294967296 : Nat) : Int), .ptr 0 0 (i + k), intA .u64 ((c + (((a.getD i 0) * (b.getD k 0)) + (o.getD (i + k) 0)) : Nat) : Int), intA .u64 (((c + (((a.getD i 0) * (b.getD k 0)) + (o.getD (i + k) 0))) / 4294967296 : Nat) : Int), J ((k + 1 : Nat) : Int), x56, x57, x58, x59, x60, x61, x62, x63, x64, x65, x66], ⟨[.row (wa (o.set (i + k) ((c + (((a.getD i 0) * (b.getD k 0)) + (o.getD (i + k) 0))) % 4294967296))) 0 .ow none], 1⟩⟩) (fun cf => by kernel_rfl) ?_
    exact h1 (by omega) _ _ _ _ _ _ _ _ _ _ _ _ _ _ _ _ _ _ _ _ _ _ _ _ _ _ _ _ _ _ _
theorem pmulin_loop {K : Out → St → Prop} {a b : List Nat} {x y : D} {n i : Nat} (x11 x12 x13 x14 x15 x16 x20 x21 x22 x23 x56 x57 x58 x59 x60 x61 x62 x63 x64 x65 x66 : AV) (hx : Ws a x) (hy : Ws b y) (ha : Ok a) (hb : Ok b) (hn : n < 1000000000) (hi : i < a.length) (hl : a.length + b.length = n) :
    ∀ (r k c : Nat) (o : List Nat) (z9 z10 z27 z28 z29 z30 z31 z32 z33 z34 z35 z36 z37 z38 z39 z40 z41 z42 z43 z44 z45 z46 z47 z48 z49 z50 z51 z52 z53 z54 z55 : AV) (he : k + r = b.length) (hoo : Ok o) (ho : o.length = n) (hc : c < 4294967296) (h : ∀ (z9 z10 z27 z28 z29 z30 z31 z32 z33 z34 z35 z36 z37 z38 z39 z40 z41 z42 z43 z44 z45 z46 z47 z48 z49 z50 z51 z52 z53 z54 z55 : AV), K (.exit 2) ⟨[.d x, .d y, U, U, .d (.v (.slice none 0 0)), .own 0 0 0 n 1 (some n), J (i : Int), intA .u32 ((a.getD i 0 : Nat) : Int), intA .u64 (((macI a b i r k c o).2 : Nat) : Int), z9, z10, x11, x12, x13, x14, x15, x16, .d x, J (a.length : Int), J (i : Int), x20, x21, x22, x23, .d y, J (b.length : Int), J (b.length : Int), z27, z28, z29, z30, z31, z32, z33, z34, z35, z36, z37, z38, z39, z40, z41, z42, z43, z44, z45, z46, z47, z48, z49, z50, z51, z52, z53, z54, z55, x56, x57, x58, x59, x60, x61, x62, x63, x64, x65, x66], ⟨[.row (wa ((macI a b i r k c o).1)) 0 .ow none], 1⟩⟩), EvK Try.cx 73 (.loop pmulInC) ⟨[.d x, .d y, U, U, .d (.v (.slice none 0 0)), .own 0 0 0 n 1 (some n), J (i : Int), intA .u32 ((a.getD i 0 : Nat) : Int), intA .u64 (c : Int), z9, z10, x11, x12, x13, x14, x15, x16, .d x, J (a.length : Int), J (i : Int), x20, x21, x22, x23, .d y, J (b.length : Int), J (k : Int), z27, z28, z29, z30, z31, z32, z33, z34, z35, z36, z37, z38, z39, z40, z41, z42, z43, z44, z45, z46, z47, z48, z49, z50, z51, z52, z53, z54, z55, x56, x57, x58, x59, x60, x61, x62, x63, x64, x65, x66], ⟨[.row (wa (o)) 0 .ow none], 1⟩⟩ K
  | 0, k, c, o, z9, z10, z27, z28, z29, z30, z31, z32, z33, z34, z35, z36, z37, z38, z39, z40, z41, z42, z43, z44, z45, z46, z47, z48, z49, z50, z51, z52, z53, z54, z55, he, hoo, ho, hc, h => by
    have hk : k = b.length := by omega
    subst hk
    exact pmulin_round x11 x12 x13 x14 x15 x16 x20 x21 x22 x23 x56 x57 x58 x59 x60 x61 x62 x63 x64 x65 x66 hx hy ha hb hoo hn ho hi hl hc z9 z10 z27 z28 z29 z30 z31 z32 z33 z34 z35 z36 z37 z38 z39 z40 z41 z42 z43 z44 z45 z46 z47 z48 z49 z50 z51 z52 z53 z54 z55 (fun _ => h) fun h1 => by omega
  | r + 1, k, c, o, z9, z10, z27, z28, z29, z30, z31, z32, z33, z34, z35, z36, z37, z38, z39, z40, z41, z42, z43, z44, z45, z46, z47, z48, z49, z50, z51, z52, z53, z54, z55, he, hoo, ho, hc, h => by
    have h2 := mulB (ha i) (hb k)
    have h3 := hoo (i + k)
    refine pmulin_round x11 x12 x13 x14 x15 x16 x20 x21 x22 x23 x56 x57 x58 x59 x60 x61 x62 x63 x64 x65 x66 hx hy ha hb hoo hn ho hi hl hc z9 z10 z27 z28 z29 z30 z31 z32 z33 z34 z35 z36 z37 z38 z39 z40 z41 z42 z43 z44 z45 z46 z47 z48 z49 z50 z51 z52 z53 z54 z55 (fun h0 => by omega) fun _ z9 z10 z27 z28 z29 z30 z31 z32 z33 z34 z35 z36 z37 z38 z39 z40 z41 z42 z43 z44 z45 z46 z47 z48 z49 z50 z51 z52 z53 z54 z55 => ?_
    refine pmulin_loop x11 x12 x13 x14 x15 x16 x20 x21 x22 x23 x56 x57 x58 x59 x60 x61 x62 x63 x64 x65 x66 hx hy ha hb hn hi hl r (k + 1) _ _ z9 z10 z27 z28 z29 z30 z31 z32 z33 z34 z35 z36 z37 z38 z39 z40 z41 z42 z43 z44 z45 z46 z47 z48 z49 z50 z51 z52 z53 z54 z55 (by omega) (ok_set hoo (Nat.mod_lt _ (by decide))) (by simp; omega) (by omega) ?_
    rw [macI, Nat.add_comm _ c] at h
    exact h
noncomputable def pmulOutC : Code := (lft (lft (rgt (lft (rgt (rgt (Try.f73.body.getD .skip)))))))
theorem pmulout_round {K : Out → St → Prop} {a b o : List Nat} {x y : D} {n i : Nat} (x11 x12 x13 x14 x15 x16 : AV) (hx : Ws a x) (hy : Ws b y) (ha : Ok a) (hb : Ok b) (hoo : Ok o) (hn : n < 1000000000) (ho : o.length = n) (hl : a.length + b.length = n) (z6 z7 z8 z9 z10 z20 z21 z22 z23 z24 z25 z26 z27 z28 z29 z30 z31 z32 z33 z34 z35 z36 z37 z38 z39 z40 z41 z42 z43 z44 z45 z46 z47 z48 z49 z50 z51 z52 z53 z54 z55 z56 z57 z58 z59 z60 z61 z62 z63 z64 : AV) (h0 : a.length ≤ i → ∀ z6 z7 z8 z9 z10 z20 z21 z22 z23 z24 z25 z26 z27 z28 z29 z30 z31 z32 z33 z34 z35 z36 z37 z38 z39 z40 z41 z42 z43 z44 z45 z46 z47 z48 z49 z50 z51 z52 z53 z54 z55 z56 z57 z58 z59 z60 z61 z62 z63 z64, K (.exit 0) ⟨[.d x, .d y, U, U, .d (.v (.slice none 0 0)), .own 0 0 0 n 1 (some n), z6, z7, z8, z9, z10, x11, x12, x13, x14, x15, x16, .d x, J (a.length : Int), J (i : Int), z20, z21, z22, z23, z24, z25, z26, z27, z28, z29, z30, z31, z32, z33, z34, z35, z36, z37, z38, z39, z40, z41, z42, z43, z44, z45, z46, z47, z48, z49, z50, z51, z52, z53, z54, z55, z56, z57, z58, z59, z60, z61, z62, z63, z64, U, U], ⟨[.row (wa (o)) 0 .ow none], 1⟩⟩) (h1 : i < a.length → ∀ z6 z7 z8 z9 z10 z20 z21 z22 z23 z24 z25 z26 z27 z28 z29 z30 z31 z32 z33 z34 z35 z36 z37 z38 z39 z40 z41 z42 z43 z44 z45 z46 z47 z48 z49 z50 z51 z52 z53 z54 z55 z56 z57 z58 z59 z60 z61 z62 z63 z64, EvK Try.cx 73 (.loop pmulOutC) ⟨[.d x, .d y, U, U, .d (.v (.slice none 0 0)), .own 0 0 0 n 1 (some n), z6, z7, z8, z9, z10, x11, x12, x13, x14, x15, x16, .d x, J (a.length : Int), J ((i + 1 : Nat) : Int), z20, z21, z22, z23, z24, z25, z26, z27, z28, z29, z30, z31, z32, z33, z34, z35, z36, z37, z38, z39, z40, z41, z42, z43, z44, z45, z46, z47, z48, z49, z50, z51, z52, z53, z54, z55, z56, z57, z58, z59, z60, z61, z62, z63, z64, U, U], ⟨[.row (wa ((macI a b i b.length 0 0 o).1.set (i + b.length) (macI a b i b.length 0 0 o).2)) 0 .ow none], 1⟩⟩ K) : EvK Try.cx 73 (.loop pmulOutC) ⟨[.d x, .d y, U, U, .d (.v (.slice none 0 0)), .own 0 0 0 n 1 (some n), z6, z7, z8, z9, z10, x11, x12, x13, x14, x15, x16, .d x, J (a.length : Int), J (i : Int), z20, z21, z22, z23, z24, z25, z26, z27, z28, z29, z30, z31, z32, z33, z34, z35, z36, z37, z38, z39, z40, z41, z42, z43, z44, z45, z46, z47, z48, z49, z50, z51, z52, z53, z54, z55, z56, z57, z58, z59, z60, z61, z62, z63, z64, U, U], ⟨[.row (wa (o)) 0 .ow none], 1⟩⟩ K := by
  refine ev_loop ?_
  refine ev_seq ?_
  refine ev_reg (by kernel_rfl) ?_
  refine rs_all (s1 := ⟨[.d x, .d y, U, U, .d (.v (.slice none 0 0)), .own 0 0 0 n 1 (some n), z6, z7, z8, z9, z10, x11, x12, x13, x14, x15, x16, .d x, J (a.length : Int), J (i : Int), boolA (decide ((i : Int) < (a.length : Int))), z21, z22, z23, z24, z25, z26, z27, z28, z29, z30, z31, z32, z33, z34, z35, z36, z37, z38, z39, z40, z41, z42, z43, z44, z45, z46, z47, z48, z49, z50, z51, z52, z53, z54, z55, z56, z57, z58, z59, z60, z61, z62, z63, z64, U, U], ⟨[.row (wa (o)) 0 .ow none], 1⟩⟩) (fun cf => by kernel_rfl) ?_
  refine ev_seq ?_
  rcases hb1 : ((decide ((i : Int) < (a.length : Int))) : Bool) with _ | _
  ·
    have hb1' := of_decide_eq_false hb1
    refine ev_false (by kernel_rfl) ?_
    refine ev_exit ?_
    exact h0 (by omega) _ _ _ _ _ _ _ _ _ _ _ _ _ _ _ _ _ _ _ _ _ _ _ _ _ _ _ _ _ _ _ _ _ _ _ _ _ _ _ _ _ _ _ _ _ _ _ _ _ _
  ·
    have hb1' := of_decide_eq_true hb1
    refine ev_true (by kernel_rfl) ?_
    refine ev_skip ?_
    refine ev_seq ?_
    refine ev_block ?_
    refine ev_seq ?_
    refine ev_reg (by kernel_rfl) ?_
    refine rs_up 1 [(21, J (i : Int))] (fun cf => by kernel_rfl) ?_
    refine rs_cv (fun m9 => indexAddrA Try.cx 83 m9 (.d x) (J (i : Int))) (some 22) (.rp [.v (.int .u32 ((a.getD i 0 : Nat) : Int))]) (fun cf => by kernel_rfl) (idx_wsN (k := i) hx (by rfl) (by omega)) ?_
    refine rs_alu [(6, J (i : Int)), (7, intA .u32 ((a.getD i 0 : Nat) : Int)), (23, intA .u32 ((a.getD i 0 : Nat) : Int))] (fun cf => by kernel_rfl) ?_
    refine ev_seq ?_
    refine ev_reg (by kernel_rfl) ?_
    refine rs_alu [(8, intA .u64 0)] (fun cf => by kernel_rfl) ?_
    refine ev_seq ?_
    refine ev_seq ?_
    refine ev_reg (by kernel_rfl) ?_
    refine rs_up 1 [(24, .d y)] (fun cf => by kernel_rfl) ?_
    refine rs_cl (fun m9 => lenA Try.cx 83 m9 (.d y)) (some 25) (b.length) (fun cf => by kernel_rfl) (len_wsN hy) ?_
    refine rs_all (s1 := ⟨[.d x, .d y, U, U, .d (.v (.slice none 0 0)), .own 0 0 0 n 1 (some n), J (i : Int), intA .u32 ((a.getD i 0 : Nat) : Int), intA .u64 0, z9, z10, x11, x12, x13, x14, x15, x16, .d x, J (a.length : Int), J (i : Int), Yes, J (i : Int), .rp [.v (.int .u32 ((a.getD i 0 : Nat) : Int))], intA .u32 ((a.getD i 0 : Nat) : Int), .d y, J (b.length : Int), J 0, z27, z28, z29, z30, z31, z32, z33, z34, z35, z36, z37, z38, z39, z40, z41, z42, z43, z44, z45, z46, z47, z48, z49, z50, z51, z52, z53, z54, z55, z56, z57, z58, z59, z60, z61, z62, z63, z64, U, U], ⟨[.row (wa (o)) 0 .ow none], 1⟩⟩) (fun cf => by kernel_rfl) ?_
    refine ev_block ?_
    have hm := macI_ok (i := i) ha hb b.length 0 0 o hoo (by decide)
    have hml := macI_len a b i b.length 0 0 o
    refine pmulin_loop (a := a) (b := b) (n := n) (i := i) _ _ _ _ _ _ _ _ _ _ _ _ _ _ _ _ _ _ _ _ _ hx hy ha hb hn (by omega) hl b.length 0 0 o _ _ _ _ _ _ _ _ _ _ _ _ _ _ _ _ _ _ _ _ _ _ _ _ _ _ _ _ _ _ _ (by omega) hoo ho (by decide) fun v9 v10 v27 v28 v29 v30 v31 v32 v33 v34 v35 v36 v37 v38 v39 v40 v41 v42 v43 v44 v45 v46 v47 v48 v49 v50 v51 v52 v53 v54 v55 => ?_
    refine ev_reg (by kernel_rfl) ?_
    refine rs_up 3 [(56, .own 0 0 0 n 1 (some n)), (57, J (i : Int)), (58, .d y)] (fun cf => by kernel_rfl) ?_
    refine rs_cl (fun m9 => lenA Try.cx 83 m9 (.d y)) (some 59) (b.length) (fun cf => by kernel_rfl) (len_wsN hy) ?_
    refine rs_up 1 [(60, J (IntKind.wrap .i64 ((i : Int) + (b.length : Int))))] (fun cf => by kernel_rfl) ?_
    rw [addI (a := (i : Int)) (b := (b.length : Int)) (A := i) (B := b.length) (by rfl) (by rfl) (by omega)]
    refine rs_up 2 [(61, intA .u64 (((macI a b i b.length 0 0 o).2 : Nat) : Int)), (62, intA .u32 (IntKind.wrap .u32 (((macI a b i b.length 0 0 o).2 : Nat) : Int)))] (fun cf => by kernel_rfl) ?_
    rw [wrapW (n := (macI a b i b.length 0 0 o).2) (hm.2)]
    refine rs_cv (fun m9 => indexAddrA Try.cx 83 m9 (.own 0 0 0 n 1 (some n)) (J ((i + b.length : Nat) : Int))) (some 63) (.ptr 0 0 (i + b.length)) (fun cf => by kernel_rfl) (idx_ownN (k := i + b.length) (by rfl) (row_at rfl) (by omega)) ?_
    refine rs_cu (fun m9 => storeA Try.cx 22 m9 (.ptr 0 0 (i + b.length)) (intA .u32 (((macI a b i b.length 0 0 o).2 : Nat) : Int))) none ⟨[.row (wa (((macI a b i b.length 0 0 o).1).set (i + b.length) ((macI a b i b.length 0 0 o).2))) 0 .ow none], 1⟩ (fun cf => by kernel_rfl) (store_own (v := (macI a b i b.length 0 0 o).2) rfl (by omega)) ?_
    refine rs_alu [] (fun cf => by kernel_rfl) ?_
    refine ev_reg (by kernel_rfl) ?_
    refine rs_up 1 [(64, J (IntKind.wrap .i64 ((i : Int) + 1)))] (fun cf => by kernel_rfl) ?_
    rw [addI (a := (i : Int)) (b := 1) (A := i) (B := 1) (by rfl) (by rfl) (by omega)]
    refine rs_all (s1 := ⟨[.d x, .d y, U, U, .d (.v (.slice none 0 0)), .own 0 0 0 n 1 (some n), J (i : Int), intA .u32 ((a.getD i 0 : Nat) : Int), intA .u64 (((macI a b i b.length 0 0 o).2 : Nat) : Int), v9, v10, x11, x12, x13, x14, x15, x16, .d x, J (a.length : Int), J ((i + 1 : Nat) : Int), Yes, J (i : Int), .rp [.v (.int .u32 ((a.getD i 0 : Nat) : Int))], intA .u32 ((a.getD i 0 : Nat) : Int), .d y, J (b.length : Int), J (b.length : Int), v27, v28, v29, v30, v31, v32, v33, v34, v35, v36, v37, v38, v39, v40, v41, v42, v43, v44, v45, v46, v47, v48, v49, v50, v51, v52, v53, v54, v55, .own 0 0 0 n 1 (some n), J (i : Int), .d y, J (b.length : Int), J ((i + b.length : Nat) : Int), intA .u64 (((macI a b i b.length 0 0 o).2 : Nat) : Int), intA .u32 (((macI a b i b.length 0 0 o).2 : Nat) : Int), .ptr 0 0 (i + b.length), J ((i + 1 : Nat) : Int), U, U], ⟨[.row (wa (((macI a b i b.length 0 0 o).1).set (i + b.length) ((macI a b i b.length 0 0 o).2))) 0 .ow none], 1⟩⟩) (fun cf => by kernel_rfl) ?_
    exact h1 (by omega) _ _ _ _ _ _ _ _ _ _ _ _ _ _ _ _ _ _ _ _ _ _ _ _ _ _ _ _ _ _ _ _ _ _ _ _ _ _ _ _ _ _ _ _ _ _ _ _ _ _
theorem pmulout_loop {K : Out → St → Prop} {a b : List Nat} {x y : D} {n : Nat} (x11 x12 x13 x14 x15 x16 : AV) (hx : Ws a x) (hy : Ws b y) (ha : Ok a) (hb : Ok b) (hn : n < 1000000000) (hl : a.length + b.length = n) :
    ∀ (r i : Nat) (o : List Nat) (z6 z7 z8 z9 z10 z20 z21 z22 z23 z24 z25 z26 z27 z28 z29 z30 z31 z32 z33 z34 z35 z36 z37 z38 z39 z40 z41 z42 z43 z44 z45 z46 z47 z48 z49 z50 z51 z52 z53 z54 z55 z56 z57 z58 z59 z60 z61 z62 z63 z64 : AV) (he : i + r = a.length) (hoo : Ok o) (ho : o.length = n) (h : ∀ (z6 z7 z8 z9 z10 z20 z21 z22 z23 z24 z25 z26 z27 z28 z29 z30 z31 z32 z33 z34 z35 z36 z37 z38 z39 z40 z41 z42 z43 z44 z45 z46 z47 z48 z49 z50 z51 z52 z53 z54 z55 z56 z57 z58 z59 z60 z61 z62 z63 z64 : AV), K (.exit 0) ⟨[.d x, .d y, U, U, .d (.v (.slice none 0 0)), .own 0 0 0 n 1 (some n), z6, z7, z8, z9, z10, x11, x12, x13, x14, x15, x16, .d x, J (a.length : Int), J (a.length : Int), z20, z21, z22, z23, z24, z25, z26, z27, z28, z29, z30, z31, z32, z33, z34, z35, z36, z37, z38, z39, z40, z41, z42, z43, z44, z45, z46, z47, z48, z49, z50, z51, z52, z53, z54, z55, z56, z57, z58, z59, z60, z61, z62, z63, z64, U, U], ⟨[.row (wa (mulO a b r i o)) 0 .ow none], 1⟩⟩), EvK Try.cx 73 (.loop pmulOutC) ⟨[.d x, .d y, U, U, .d (.v (.slice none 0 0)), .own 0 0 0 n 1 (some n), z6, z7, z8, z9, z10, x11, x12, x13, x14, x15, x16, .d x, J (a.length : Int), J (i : Int), z20, z21, z22, z23, z24, z25, z26, z27, z28, z29, z30, z31, z32, z33, z34, z35, z36, z37, z38, z39, z40, z41, z42, z43, z44, z45, z46, z47, z48, z49, z50, z51, z52, z53, z54, z55, z56, z57, z58, z59, z60, z61, z62, z63, z64, U, U], ⟨[.row (wa (o)) 0 .ow none], 1⟩⟩ K
  | 0, i, o, z6, z7, z8, z9, z10, z20, z21, z22, z23, z24, z25, z26, z27, z28, z29, z30, z31, z32, z33, z34, z35, z36, z37, z38, z39, z40, z41, z42, z43, z44, z45, z46, z47, z48, z49, z50, z51, z52, z53, z54, z55, z56, z57, z58, z59, z60, z61, z62, z63, z64, he, hoo, ho, h => by
    have hk : i = a.length := by omega
    subst hk
    exact pmulout_round x11 x12 x13 x14 x15 x16 hx hy ha hb hoo hn ho hl z6 z7 z8 z9 z10 z20 z21 z22 z23 z24 z25 z26 z27 z28 z29 z30 z31 z32 z33 z34 z35 z36 z37 z38 z39 z40 z41 z42 z43 z44 z45 z46 z47 z48 z49 z50 z51 z52 z53 z54 z55 z56 z57 z58 z59 z60 z61 z62 z63 z64 (fun _ => h) fun h1 => by omega
  | r + 1, i, o, z6, z7, z8, z9, z10, z20, z21, z22, z23, z24, z25, z26, z27, z28, z29, z30, z31, z32, z33, z34, z35, z36, z37, z38, z39, z40, z41, z42, z43, z44, z45, z46, z47, z48, z49, z50, z51, z52, z53, z54, z55, z56, z57, z58, z59, z60, z61, z62, z63, z64, he, hoo, ho, h => by
    have hm := macI_ok (i := i) ha hb b.length 0 0 o hoo (by decide)
    refine pmulout_round x11 x12 x13 x14 x15 x16 hx hy ha hb hoo hn ho hl z6 z7 z8 z9 z10 z20 z21 z22 z23 z24 z25 z26 z27 z28 z29 z30 z31 z32 z33 z34 z35 z36 z37 z38 z39 z40 z41 z42 z43 z44 z45 z46 z47 z48 z49 z50 z51 z52 z53 z54 z55 z56 z57 z58 z59 z60 z61 z62 z63 z64 (fun h0 => by omega) fun _ z6 z7 z8 z9 z10 z20 z21 z22 z23 z24 z25 z26 z27 z28 z29 z30 z31 z32 z33 z34 z35 z36 z37 z38 z39 z40 z41 z42 z43 z44 z45 z46 z47 z48 z49 z50 z51 z52 z53 z54 z55 z56 z57 z58 z59 z60 z61 z62 z63 z64 => ?_
    refine pmulout_loop x11 x12 x13 x14 x15 x16 hx hy ha hb hn hl r (i + 1) _ z6 z7 z8 z9 z10 z20 z21 z22 z23 z24 z25 z26 z27 z28 z29 z30 z31 z32 z33 z34 z35 z36 z37 z38 z39 z40 z41 z42 z43 z44 z45 z46 z47 z48 z49 z50 z51 z52 z53 z54 z55 z56 z57 z58 z59 z60 z61 z62 z63 z64 (by omega) (ok_set hm.1 hm.2) (by simp [macI_len, ho]) ?_
    rw [mulO] at h
    exact h
theorem p_mul {a b : List Nat} {x y : D} (hx : Ws a x) (hy : Ws b y) (ha : Ok a) (hb : Ok b) (hl : a.length < 100000000) (hm : b.length < 100000000) : ∃ res : D, (fun y => Ws (timesL a b) y) res ∧ Gets Try.cx 73 [.d x, .d y] ((fun y => .d y) res) := by
  refine gets_some (fn := Try.f73) (fun y => Ws (timesL a b) y) (fun y => .d y) (by kernel_rfl) rfl ?_
  show EvK _ _ _ ⟨[.d x, .d y] ++ us 65, ⟨[], 0⟩⟩ _
  refine ev_seq ?_
  refine ev_reg (by kernel_rfl) ?_
  refine rs_alu [(4, .d (.v (.slice none 0 0)))] (fun cf => by kernel_rfl) ?_
  refine ev_seq ?_
  refine ev_reg (by kernel_rfl) ?_
  refine rs_up 1 [(11, .d x)] (fun cf => by kernel_rfl) ?_
  refine rs_cl (fun m9 => lenA Try.cx 83 m9 (.d x)) (some 12) (a.length) (fun cf => by kernel_rfl) (len_wsN hx) ?_
  refine rs_up 1 [(13, .d y)] (fun cf => by kernel_rfl) ?_
  refine rs_cl (fun m9 => lenA Try.cx 83 m9 (.d y)) (some 14) (b.length) (fun cf => by kernel_rfl) (len_wsN hy) ?_
  refine rs_up 1 [(15, J (IntKind.wrap .i64 ((a.length : Int) + (b.length : Int))))] (fun cf => by kernel_rfl) ?_
  rw [addI (a := (a.length : Int)) (b := (b.length : Int)) (A := a.length) (B := b.length) (by rfl) (by rfl) (by omega)]
  refine rs_co (fun m9 => opA Try.cx (fun _ => false) [J ((a.length + b.length : Nat) : Int)] m9 ⟨none, .makeSlice 83 (.tmp 0) (.tmp 0), 0, "", #[], none⟩) (some 16) (.own 0 0 0 (a.length + b.length) 1 (some (a.length + b.length))) ⟨[.row (wa (List.replicate (a.length + b.length) 0)) 0 .ow none], 1⟩ (fun cf => by kernel_rfl) (make_wsN (k := a.length + b.length) (by rfl) (by omega)) ?_
  refine rs_alu [(5, .own 0 0 0 (a.length + b.length) 1 (some (a.length + b.length)))] (fun cf => by kernel_rfl) ?_
  refine ev_seq ?_
  refine ev_seq ?_
  refine ev_reg (by kernel_rfl) ?_
  refine rs_up 1 [(17, .d x)] (fun cf => by kernel_rfl) ?_
  refine rs_cl (fun m9 => lenA Try.cx 83 m9 (.d x)) (some 18) (a.length) (fun cf => by kernel_rfl) (len_wsN hx) ?_
  refine rs_all (s1 := ⟨[.d x, .d y, U, U, .d (.v (.slice none 0 0)), .own 0 0 0 (a.length + b.length) 1 (some (a.length + b.length))] ++ us 5 ++ [.d x, J (a.length : Int), .d y, J (b.length : Int), J ((a.length + b.length : Nat) : Int), .own 0 0 0 (a.length + b.length) 1 (some (a.length + b.length)), .d x, J (a.length : Int), J 0] ++ us 47, ⟨[.row (wa (List.replicate (a.length + b.length) 0)) 0 .ow none], 1⟩⟩) (fun cf => by kernel_rfl) ?_
  refine ev_block ?_
  refine pmulout_loop _ _ _ _ _ _ hx hy ha hb (by omega) rfl a.length 0 _ _ _ _ _ _ _ _ _ _ _ _ _ _ _ _ _ _ _ _ _ _ _ _ _ _ _ _ _ _ _ _ _ _ _ _ _ _ _ _ _ _ _ _ _ _ _ _ _ _ _ (by omega) (ok_zeros _) (by simp) fun v6 v7 v8 v9 v10 v20 v21 v22 v23 v24 v25 v26 v27 v28 v29 v30 v31 v32 v33 v34 v35 v36 v37 v38 v39 v40 v41 v42 v43 v44 v45 v46 v47 v48 v49 v50 v51 v52 v53 v54 v55 v56 v57 v58 v59 v60 v61 v62 v63 v64 => ?_
  have hlen : (mulO a b a.length 0 (List.replicate (a.length + b.length) 0)).length = a.length + b.length := by rw [mulO_len, List.length_replicate]
  refine ev_seq ?_
  refine ev_reg (by kernel_rfl) ?_
  refine rs_up 1 [(65, .own 0 0 0 (a.length + b.length) 1 (some (a.length + b.length)))] (fun cf => by kernel_rfl) ?_
  refine rs_take 0 (s1 := ⟨[.d x, .d y, U, U, .d (.v (.slice none 0 0)), .own 0 0 0 (a.length + b.length) 1 (some (a.length + b.length)), v6, v7, v8, v9, v10, .d x, J (a.length : Int), .d y, J (b.length : Int), J ((a.length + b.length : Nat) : Int), .own 0 0 0 (a.length + b.length) 1 (some (a.length + b.length)), .d x, J (a.length : Int), J (a.length : Int), v20, v21, v22, v23, v24, v25, v26, v27, v28, v29, v30, v31, v32, v33, v34, v35, v36, v37, v38, v39, v40, v41, v42, v43, v44, v45, v46, v47, v48, v49, v50, v51, v52, v53, v54, v55, v56, v57, v58, v59, v60, v61, v62, v63, v64, .own 0 0 0 (a.length + b.length) 1 (some (a.length + b.length)), U], ⟨[.row (wa (mulO a b a.length 0 (List.replicate (a.length + b.length) 0))) 0 .ow none], 1⟩⟩) (fun cf => by kernel_rfl) ?_
  obtain ⟨y1, hy1, gy1⟩ := g_norm (ws_sl false (mulO a b a.length 0 (List.replicate (a.length + b.length) 0))) (by omega)
  refine rs_frz (g := 88) (bs := [.d (.sl false (mulO a b a.length 0 (List.replicate (a.length + b.length) 0)).length (wd (mulO a b a.length 0 (List.replicate (a.length + b.length) 0))))]) (ow := true) (r := .d y1) (Eq.trans (b := match mapO (snapA (⟨[.row (wa (mulO a b a.length 0 (List.replicate (a.length + b.length) 0))) 0 .ow none], 1⟩ : Mem)) [.own 0 0 0 (a.length + b.length) 1 (some (a.length + b.length))] with | some bs => some (88, bs, true) | none => none) (by kernel_rfl) (by rw [mapO_one (snap_own (l := mulO a b a.length 0 (List.replicate (a.length + b.length) 0)) (row_at rfl) (by omega))])) (gy1) fun m1 hEm1 _ => ?_
  show RS _ _ _ _ _ ⟨[.d x, .d y, U, U, .d (.v (.slice none 0 0)), .own 0 0 0 (a.length + b.length) 1 (some (a.length + b.length)), v6, v7, v8, v9, v10, .d x, J (a.length : Int), .d y, J (b.length : Int), J ((a.length + b.length : Nat) : Int), .own 0 0 0 (a.length + b.length) 1 (some (a.length + b.length)), .d x, J (a.length : Int), J (a.length : Int), v20, v21, v22, v23, v24, v25, v26, v27, v28, v29, v30, v31, v32, v33, v34, v35, v36, v37, v38, v39, v40, v41, v42, v43, v44, v45, v46, v47, v48, v49, v50, v51, v52, v53, v54, v55, v56, v57, v58, v59, v60, v61, v62, v63, v64, .own 0 0 0 (a.length + b.length) 1 (some (a.length + b.length)), .d y1], m1⟩ _
  refine rs_all (s1 := ⟨[.d x, .d y, U, U, .d y1, .own 0 0 0 (a.length + b.length) 1 (some (a.length + b.length)), v6, v7, v8, v9, v10, .d x, J (a.length : Int), .d y, J (b.length : Int), J ((a.length + b.length : Nat) : Int), .own 0 0 0 (a.length + b.length) 1 (some (a.length + b.length)), .d x, J (a.length : Int), J (a.length : Int), v20, v21, v22, v23, v24, v25, v26, v27, v28, v29, v30, v31, v32, v33, v34, v35, v36, v37, v38, v39, v40, v41, v42, v43, v44, v45, v46, v47, v48, v49, v50, v51, v52, v53, v54, v55, v56, v57, v58, v59, v60, v61, v62, v63, v64, .own 0 0 0 (a.length + b.length) 1 (some (a.length + b.length)), .d y1], m1⟩) (fun cf => by kernel_rfl) ?_
  refine ev_ret ?_
  exact ⟨y1, hy1, .inr rfl, .d y1, by kernel_rfl, by kernel_rfl⟩
end Go.Proofs.Ytgkjdfojogemhaa.W
