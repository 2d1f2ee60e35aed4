/-
  The program: words. Made by program. Conditions: none.
-/
import Derived.Test.YtgkjdfojogemhaaWdm
set_option maxRecDepth 100000
set_option maxHeartbeats 20000000
set_option linter.unusedSimpArgs false
set_option linter.unusedVariables false
namespace Go.Proofs.Ytgkjdfojogemhaa.W
open Go.Am
theorem len_wsN {m : Mem} {l : List Nat} {x : D} (h : Ws l x) : lenA Try.cx 83 m (.d x) = some l.length := by
  rcases h with ⟨b, rfl⟩ | ⟨rfl, rfl⟩ <;> kernel_rfl
theorem idx_wsN {m : Mem} {l : List Nat} {x : D} {i : Int} {k : Nat} (h : Ws l x) (hi : i = k) (hk : k < l.length) : indexAddrA Try.cx 83 m (.d x) (J i) = some (.rp [.v (.int .u32 (l.getD k 0 : Nat))]) := by
  subst hi
  rcases h with ⟨b, rfl⟩ | ⟨rfl, rfl⟩
  · have e : ∀ y, indexAddrA Try.cx 83 m (.d (.sl b l.length (wd l))) y = match natOf y with
      | none => none
      | some k => if k < l.length ∧ (wd l).length = l.length * 1 then some (.rp (((wd l).drop (k * 1)).take 1)) else none := fun y => by kernel_rfl
    rw [e, natJ]
    simp only [wd_len, Nat.mul_one, hk, and_self, if_true]
    have h2 : ((wd l).drop k).take 1 = [.v (.int .u32 (l.getD k 0 : Nat))] := by
      rw [List.take_one, List.head?_drop]
      simp only [wd, List.getElem?_map, List.getD_eq_getElem?_getD, List.getElem?_eq_getElem hk]
      rfl
    rw [h2]
  · exact absurd hk (Nat.not_lt_zero _)
theorem make_wsN {m : Mem} {i : Int} {k : Nat} (hi : i = k) (hk : k < 1000000000000) : opA Try.cx (fun _ => false) [J i] m ⟨none, .makeSlice 83 (.tmp 0) (.tmp 0), 0, "", #[], none⟩ = some (.own m.b.length m.n 0 k 1 (some k), m.push (wa (List.replicate k 0))) := by
  subst hi
  have e : ∀ y, opA Try.cx (fun _ => false) [y] m ⟨none, .makeSlice 83 (.tmp 0) (.tmp 0), 0, "", #[], none⟩ = match natOf y, natOf y with
    | some l, some c => if l ≤ c ∧ c * 4 ≤ room ∧ c ≤ room then some (.own m.b.length m.n 0 l 1 (some c), m.push (zerosA Try.ti22 c)) else none
    | _, _ => none := fun y => by kernel_rfl
  have hz : ∀ n, zerosA Try.ti22 n = wa (List.replicate n 0) := by
    intro n
    induction n with
    | zero => rfl
    | succ n ih => simp only [zerosA, ih, List.replicate_succ]; rfl
  rw [e, natJ]
  simp only [hz]
  rw [if_pos ⟨Nat.le_refl _, by unfold room; omega, by unfold room; omega⟩]
theorem idx_ownN {m : Mem} {h g n : Nat} {cap : Option Nat} {cs : List AV} {i : Int} {k : Nat} (hi : i = k) (hr : row? m h g = some cs) (hk : k < n) : indexAddrA Try.cx 83 m (.own h g 0 n 1 cap) (J i) = some (.ptr h g k) := by
  subst hi
  have e : ∀ y, indexAddrA Try.cx 83 m (.own h g 0 n 1 cap) y = match natOf y with
    | none => none
    | some k => if k < n ∧ 1 = 1 ∧ (row? m h g).isSome then some (.ptr h g (0 + k * 1)) else none := fun y => by kernel_rfl
  rw [e, natJ]
  simp [hk, hr]
theorem cut3_ws {m : Mem} {l : List Nat} {x : D} {i : Int} {k : Nat} (h : Ws l x) (hi : i = k) (hk : k ≤ l.length) : ∃ y, Ws (l.take k) y ∧ sliceA Try.cx 83 m (.d x) none (some (J i)) (some (J i)) = some (.d y) := by
  subst hi
  have hb : ∀ (t most : Nat), boundA (J (t : Int)) most = if t ≤ most then some t else none := fun t most => by simp [boundA, intA, J]
  rcases h with ⟨b, rfl⟩ | ⟨rfl, rfl⟩
  · have e : ∀ y, sliceA Try.cx 83 m (.d (.sl b l.length (wd l))) none (some y) (some y) = if (wd l).length = l.length * 1 then (match bounds l.length l.length (if b then some l.length else none) none (some y) (some y) with
        | some (lo, r, c) => if lo = r then some (.d (.sl (c == some r) 0 [])) else some (.d (.sl (c == some r) (r - lo) (((wd l).drop (lo * 1)).take ((r - lo) * 1))))
        | none => none) else none := fun y => by kernel_rfl
    rw [e]
    simp only [wd_len, Nat.mul_one, if_true, bounds, hb, hk, Nat.le_refl]
    by_cases h0 : 0 = k
    · rw [if_pos h0]
      subst h0
      exact ⟨_, ws_sl _ [], rfl⟩
    · rw [if_neg h0]
      refine ⟨_, ?_, rfl⟩
      have e1 : (wd l).take k = wd (l.take k) := by simp [wd, List.map_take]
      have e2 : k = (l.take k).length := by simp [Nat.min_eq_left hk]
      simp only [Nat.sub_zero, List.drop_zero, e1]
      conv => arg 2; arg 2; rw [e2]
      exact .inl ⟨_, rfl⟩
  · have hk0 : k = 0 := by simpa using hk
    subst hk0
    refine ⟨_, ws_nil, ?_⟩
    kernel_rfl
theorem shrN {a : Int} {A k d : Nat} (ha : a = A) (hd : 2 ^ k = d) : Int.fdiv a (2 ^ k) = ((A / d : Nat) : Int) := by
  subst ha hd
  have h : (2 : Int) ^ k = ((2 ^ k : Nat) : Int) := by simp
  rw [h, Int.fdiv_eq_ediv_of_nonneg _ (Int.natCast_nonneg _), Int.natCast_ediv]
theorem shlU {a : Int} {A k d : Nat} (ha : a = A) (hd : 2 ^ k = d) (h : A * d < 18446744073709551616) : IntKind.wrap .u64 (a * 2 ^ k) = ((A * d : Nat) : Int) := by
  subst ha hd
  have h2 : (2 : Int) ^ k = ((2 ^ k : Nat) : Int) := by simp
  rw [h2, ← Int.natCast_mul]
  exact wrapU h
theorem orU {a b : Int} {A B : Nat} (ha : a = ((A * 4294967296 : Nat) : Int)) (hb : b = B) (h : A < 4294967296 ∧ B < 4294967296) : IntKind.wrap .u64 (BitVec.ofInt (IntKind.bits .u64) a ||| BitVec.ofInt (IntKind.bits .u64) b).toNat = ((A * 4294967296 + B : Nat) : Int) := by
  subst ha hb
  obtain ⟨hA, hB⟩ := h
  have e : (BitVec.ofInt (IntKind.bits .u64) ((A * 4294967296 : Nat) : Int) ||| BitVec.ofInt (IntKind.bits .u64) ((B : Nat) : Int)).toNat = A * 4294967296 + B := by
    rw [BitVec.toNat_or, BitVec.ofInt_natCast, BitVec.ofInt_natCast, BitVec.toNat_ofNat, BitVec.toNat_ofNat]
    rw [Nat.mod_eq_of_lt (show A * 4294967296 < 2 ^ IntKind.bits .u64 by show _ < 2 ^ 64; omega), Nat.mod_eq_of_lt (show B < 2 ^ IntKind.bits .u64 by show _ < 2 ^ 64; omega)]
    have := Nat.shiftLeft_add_eq_or_of_lt (i := 32) (b := B) (by omega) A
    rw [Nat.shiftLeft_eq] at this
    exact this.symm
  rw [e]
  exact wrapU (by omega)
theorem g_at {l : List Nat} {x : D} {i : Nat} (hx : Ws l x) : Gets Try.cx 83 [.d x, J (i : Int)] (intA .u32 ((l.getD i 0 : Nat) : Int)) := by
  refine gets_of (fn := Try.f83) (by kernel_rfl) rfl ?_
  show EvK _ _ _ ⟨[.d x, J (i : Int)] ++ us 11, ⟨[], 0⟩⟩ _
  refine ev_seq ?_
  refine ev_reg (by kernel_rfl) ?_
  refine rs_alu [(4, intA .u32 0)] (fun cf => by kernel_rfl) ?_
  refine ev_seq ?_
  refine ev_seq ?_
  refine ev_reg (by kernel_rfl) ?_
  refine rs_up 2 [(5, J (i : Int)), (6, .d x)] (fun cf => by kernel_rfl) ?_
  refine rs_cl (fun m9 => lenA Try.cx 83 m9 (.d x)) (some 7) (l.length) (fun cf => by kernel_rfl) (len_wsN hx) ?_
  refine rs_alu [(8, boolA (decide ((i : Int) < (l.length : Int))))] (fun cf => by kernel_rfl) ?_
  rcases hb1 : ((decide ((i : Int) < (l.length : Int))) : Bool) with _ | _
  ·
    have hb1' := of_decide_eq_false hb1
    refine ev_false (by kernel_rfl) ?_
    refine ev_skip ?_
    refine ev_seq ?_
    refine ev_reg (by kernel_rfl) ?_
    refine rs_all (s1 := ⟨[.d x, J (i : Int), U, U, intA .u32 0, J (i : Int), .d x, J (l.length : Int), No] ++ us 4, ⟨[], 0⟩⟩) (fun cf => by kernel_rfl) ?_
    refine ev_ret ?_
    refine leaf (r0 := intA .u32 0) (r1 := intA .u32 0) (.inr rfl) (by kernel_rfl) (by kernel_rfl) ?_
    rw [getD_out (by omega)]
    rfl
  ·
    have hb1' := of_decide_eq_true hb1
    refine ev_true (by kernel_rfl) ?_
    refine ev_seq ?_
    refine ev_reg (by kernel_rfl) ?_
    refine rs_up 2 [(9, .d x), (10, J (i : Int))] (fun cf => by kernel_rfl) ?_
    refine rs_cv (fun m9 => indexAddrA Try.cx 83 m9 (.d x) (J (i : Int))) (some 11) (.rp [.v (.int .u32 ((l.getD i 0 : Nat) : Int))]) (fun cf => by kernel_rfl) (idx_wsN (k := i) hx (by rfl) (by omega)) ?_
    refine rs_all (s1 := ⟨[.d x, J (i : Int), U, U, intA .u32 ((l.getD i 0 : Nat) : Int), J (i : Int), .d x, J (l.length : Int), Yes, .d x, J (i : Int), .rp [.v (.int .u32 ((l.getD i 0 : Nat) : Int))], intA .u32 ((l.getD i 0 : Nat) : Int)], ⟨[], 0⟩⟩) (fun cf => by kernel_rfl) ?_
    refine ev_ret ?_
    refine leaf (r0 := intA .u32 ((l.getD i 0 : Nat) : Int)) (r1 := intA .u32 ((l.getD i 0 : Nat) : Int)) (.inr rfl) (by kernel_rfl) (by kernel_rfl) ?_
    rfl
end Go.Proofs.Ytgkjdfojogemhaa.W
