/-
  The reference: division of words. Made by program. Conditions: none.
-/
import Derived.Test.YtgkjdfojogemhaaWdf
set_option maxRecDepth 100000
set_option maxHeartbeats 20000000
set_option linter.unusedSimpArgs false
set_option linter.unusedVariables false
namespace Go.Proofs.Ytgkjdfojogemhaa.W
open Go.Am


theorem nrm_low {l : List Nat} (h : Nrm l) (h0 : l ≠ []) : 4294967296 ^ (l.length - 1) ≤ val l := by
  rcases h with h | h
  · exact absurd h h0
  · have hl : l.length ≠ 0 := fun h => h0 (List.eq_nil_of_length_eq_zero h)
    obtain ⟨n, hn⟩ : ∃ n, l.length = n + 1 := ⟨l.length - 1, by omega⟩
    have e := vF_top l n
    rw [vF_val (by omega)] at e
    rw [hn, Nat.add_sub_cancel] at h ⊢
    have : 4294967296 ^ n * 1 ≤ 4294967296 ^ n * l.getD n 0 := Nat.mul_le_mul_left _ (by omega)
    omega
theorem cmpN_val {a b : List Nat} (ha : Ok a) (hb : Ok b) : ∀ n, (cmpN a b n = -1 ∧ vF a 0 n < vF b 0 n) ∨ (cmpN a b n = 1 ∧ vF b 0 n < vF a 0 n) ∨ (cmpN a b n = 0 ∧ vF a 0 n = vF b 0 n)
  | 0 => .inr (.inr ⟨rfl, rfl⟩)
  | n + 1 => by
    have ih := cmpN_val ha hb n
    have h1 := vF_lt ha n 0
    have h2 := vF_lt hb n 0
    rw [vF_top, vF_top]
    simp only [cmpN]
    have key : ∀ {s t : Nat}, s < t → 4294967296 ^ n * s + 4294967296 ^ n ≤ 4294967296 ^ n * t := fun {s t} h => by
      have := Nat.mul_le_mul_left (4294967296 ^ n) h
      rwa [Nat.mul_succ] at this
    by_cases hlt : a.getD n 0 < b.getD n 0
    · have := key hlt
      rw [if_pos hlt]
      left
      exact ⟨rfl, by omega⟩
    · by_cases hgt : b.getD n 0 < a.getD n 0
      · have := key hgt
        rw [if_neg hlt, if_pos hgt]
        right; left
        exact ⟨rfl, by omega⟩
      · have he : a.getD n 0 = b.getD n 0 := by omega
        rw [if_neg hlt, if_neg (by omega), he]
        omega
theorem cmpL_val {a b : List Nat} (ha : Ok a) (hb : Ok b) (na : Nrm a) (nb : Nrm b) : (cmpL a b = -1 ∧ val a < val b) ∨ (cmpL a b = 1 ∧ val b < val a) ∨ (cmpL a b = 0 ∧ val a = val b) := by
  have key : ∀ {l m : List Nat}, Ok l → Nrm m → l.length < m.length → val l < val m := fun {l m} hl nm h => by
    have h1 := val_lt hl
    have h2 := nrm_low nm (fun e => by rw [e] at h; exact absurd h (Nat.not_lt_zero _))
    have h3 : 4294967296 ^ l.length ≤ 4294967296 ^ (m.length - 1) := Nat.pow_le_pow_right (by decide) (by omega)
    omega
  unfold cmpL
  by_cases h1 : a.length < b.length
  · rw [if_pos h1]; exact .inl ⟨rfl, key ha nb h1⟩
  · by_cases h2 : a.length > b.length
    · rw [if_neg h1, if_pos h2]; exact .inr (.inl ⟨rfl, key hb na h2⟩)
    · rw [if_neg h1, if_neg h2]
      have := cmpN_val ha hb a.length
      rwa [vF_val (Nat.le_refl _), vF_val (show b.length ≤ a.length by omega)] at this

theorem vF_split (l : List Nat) : ∀ (i r k : Nat), vF l k (i + r) = vF l k i + 4294967296 ^ i * vF l (k + i) r
  | 0, r, k => by simp [vF]
  | i + 1, r, k => by
    rw [show i + 1 + r = (i + r) + 1 by omega, vF, vF_split l i r (k + 1), vF, Nat.mul_add, Nat.pow_succ, show k + 1 + i = k + (i + 1) by omega, ← Nat.mul_assoc, Nat.mul_comm 4294967296 (4294967296 ^ i)]
    omega

/-- The digit that is guessed, put right. -/
theorem digit_ok {V2 lo U3 low m Q q V P : Nat} (hV : V = V2 * m + lo) (hlo : lo < m) (hP : P = U3 * m + low) (hlow : low < m) (hPV : P < V * 4294967296) (hV2 : 4294967296 ≤ V2) (hQ : Q = P / V) (hq : q < 4294967296) (hq1 : q * V2 ≤ U3) (hq2 : ∀ Q, Q < 4294967296 → Q * V2 ≤ U3 → Q ≤ q) : q = Q ∨ q = Q + 1 := by
  have hm : 0 < m := by omega
  have hVp : 0 < V := by
    have : 1 * 1 ≤ V2 * m := Nat.mul_le_mul (by omega) hm
    omega
  have hQb : Q < 4294967296 := by rw [hQ]; exact Nat.div_lt_of_lt_mul hPV
  have hQV : Q * V ≤ P := by rw [hQ]; exact Nat.div_mul_le_self P V
  have h1 : Q ≤ q := by
    refine hq2 Q hQb ?_
    have e : Q * V = Q * V2 * m + Q * lo := by rw [hV, Nat.mul_add, Nat.mul_assoc]
    have h2 : Q * V2 * m < (U3 + 1) * m := by rw [Nat.add_mul]; omega
    exact Nat.le_of_lt_succ (Nat.lt_of_mul_lt_mul_right h2)
  have h2 : q ≤ Q + 1 := by
    by_cases h0 : q = 0
    · omega
    · obtain ⟨p, rfl⟩ : ∃ p, q = p + 1 := ⟨q - 1, by omega⟩
      have h3 : p * V ≤ P := by
        have e : p * V = p * V2 * m + p * lo := by rw [hV, Nat.mul_add, Nat.mul_assoc]
        have e2 : p * lo ≤ p * m := Nat.mul_le_mul_left _ (Nat.le_of_lt hlo)
        have e3 : (p + 1) * V2 * m ≤ U3 * m := Nat.mul_le_mul_right _ hq1
        have e4 : (p + 1) * V2 * m = p * V2 * m + V2 * m := by rw [Nat.add_mul, Nat.one_mul, Nat.add_mul]
        have e5 : p * m ≤ V2 * m := Nat.mul_le_mul_right _ (by omega)
        omega
      have h4 : p ≤ Q := by rw [hQ]; exact (Nat.le_div_iff_mul_le hVp).mpr h3
      omega
  omega
/-- What the part holds after the digit's multiple is taken away, and perhaps given back. -/
theorem part_ok {X P V q Q m c v : Nat} (hX : X < m) (hPm : P < m) (hVm : V ≤ m) (hqm : q * V < m) (h : X + q * V = P + m * (c + v)) (hc : m * c ≤ q * V) (hv : v ≤ 1) (hQ : Q = P / V) (hVp : 0 < V) (hq : q = Q ∨ q = Q + 1) :
    (v ≠ 1 → q = Q ∧ X = P % V) ∧ (v = 1 → q = Q + 1 ∧ ∀ Y z, Y < m → Y + m * z = X + V → Y = P % V) := by
  have hc0 : c = 0 := by
    cases c with
    | zero => rfl
    | succ c => rw [Nat.mul_succ] at hc; omega
  subst hc0
  have hdm := Nat.div_add_mod P V
  rw [← hQ] at hdm
  have hlt := Nat.mod_lt P hVp
  rw [Nat.zero_add] at h
  have hqq : (Q + 1) * V = V * Q + V := by rw [Nat.add_mul, Nat.one_mul, Nat.mul_comm]
  have hq0 : Q * V = V * Q := Nat.mul_comm _ _
  constructor
  · intro h1
    have hv0 : v = 0 := by omega
    subst hv0
    rw [Nat.mul_zero, Nat.add_zero] at h
    rcases hq with rfl | rfl
    · exact ⟨rfl, by omega⟩
    · omega
  · intro h1
    subst h1
    rw [Nat.mul_one] at h
    rcases hq with rfl | rfl
    · omega
    · refine ⟨rfl, fun Y z hY hYz => ?_⟩
      have hz : z = 1 := by
        cases z with
        | zero => rw [Nat.mul_zero] at hYz; omega
        | succ z => cases z with
          | zero => rfl
          | succ z =>
            have : m * (z + 1 + 1) = m * z + m + m := by rw [Nat.mul_succ, Nat.mul_succ]
            omega
      subst hz
      omega

theorem mapO_two {α β : Type} {f : α → Option β} {x x' : α} {y y' : β} (h : f x = some y) (h' : f x' = some y') : mapO f [x, x'] = some [y, y'] := by simp [mapO, h, h']
theorem snap_ownF {m : Mem} {h g n off : Nat} {cap : Option Nat} {l : List Nat} (hr : row? m h g = some (wa l)) (hn : off + n ≤ l.length) : snapA m (.own h g off n 1 cap) = some (.d (.sl false ((l.drop off).take n).length (wd ((l.drop off).take n)))) := by
  have ht : cut (wa l) off (n * 1) = wa ((l.drop off).take n) := by simp [cut, wa, List.map_take, List.map_drop]
  have h1 : off + n * 1 ≤ (wa l).length := by rw [wa_len]; omega
  have hlen : ((l.drop off).take n).length = n := by simp; omega
  have e : snapD m depth (.own h g off n 1 cap) = some (.sl false n (wd ((l.drop off).take n))) := by
    show snapD _ 8 _ = _
    unfold snapD
    simp only [hr, h1, if_true, ht, snap_wa, Option.map_some]
  show (snapD m depth (.own h g off n 1 cap)).map AV.d = _
  rw [e, hlen]
  rfl
theorem part_at {l : List Nat} {off n k : Nat} (hk : k < n) : ((l.drop off).take n).getD k 0 = l.getD (off + k) 0 := by
  rw [List.getD_eq_getElem?_getD, List.getElem?_take, if_pos hk, List.getElem?_drop, ← List.getD_eq_getElem?_getD]
theorem slice_own {m : Mem} {h g j k n N : Nat} {a b : Int} {cs : List AV} (ha : a = j) (hb : b = k) (hr : row? m h g = some cs) (hcs : cs.length = N) (hk : k ≤ N) (hj : j < N) (hn : k = j + n) : sliceA Try.cx 32 m (.own h g 0 N 1 (some N)) (some (J a)) (some (J b)) none = some (.own h g j n 1 (some (N - j))) := by
  subst ha hb hcs hn
  have hbd : ∀ (t most : Nat), boundA (J (t : Int)) most = if t ≤ most then some t else none := fun t most => by simp [boundA, intA, J]
  have e : ∀ x y, sliceA Try.cx 32 m (.own h g 0 cs.length 1 (some cs.length)) (some x) (some y) none = match row? m h g with
    | some cs' => if 1 = 1 ∧ 0 + cs.length * 1 ≤ cs'.length then (match bounds cs.length (min ((cs'.length - 0) / 1) cs.length) (some cs.length) (some x) (some y) none with
      | some (l, r, some c) => if c = l then some emptyA else some (.own h g (0 + l * 1) (r - l) 1 (some (c - l)))
      | some (l, r, none) => if l = r then some bareA else some (.own h g (0 + l * 1) (r - l) 1 none)
      | none => none) else none
    | none => none := fun x y => by kernel_rfl
  rw [e, hr]
  have hm : min ((cs.length - 0) / 1) cs.length = cs.length := by simp
  simp only [hm, bounds, hbd, hk, if_true, Nat.le_add_right, Nat.zero_add, Nat.mul_one, Nat.le_refl, and_self, Option.map_some]
  rw [if_neg (by omega), Nat.add_sub_cancel_left]

/-- A call that sees memory, whose own blocks are gone. -/
theorem rs_hand {Γ : Ctx} {f : FuncId} {ops : Array Oper} {d : Bool} {l : List (Bool × Oper)} {s : St} {L : St → Prop} {g : FuncId} {av : List AV} {r : AV} {m1 : Mem} {s1 : St} (hp : prepM Γ ops d l s = some (2, g, av)) (hr : Runs1 Γ g av s.m r m1) (hl : m1.b.length = s.m.b.length)
    (hs : (⟨putA' s.t (dstS l) r, m1⟩ : St) = s1) (h : RS Γ f ops d (l.drop 1) s1 L) : RS Γ f ops d l s L := by
  refine rs_mem (k := 2) (m1 := m1) hp ?_ hs h
  obtain ⟨n, hn⟩ := hr
  refine ⟨n, ?_⟩
  show (match run Γ n g av s.m with | some (r, m') => some (r, ⟨m'.b.take s.m.b.length, m'.n⟩) | none => none) = some (r, m1)
  rw [hn]
  simp only
  rw [List.take_of_length_le (by omega)]

noncomputable def divC : Code := (lft (lft (rgt (lft (rgt (rgt (rgt (rgt (rgt (rgt (rgt (rgt (rgt (Try.f66.body.getD .skip))))))))))))))

theorem div_round {K : Out → St → Prop} {a b v ul ql : List Nat} {x y z : D} {la n dd q j : Nat} (x6 x7 x18 x19 x20 x21 x22 x23 x24 x25 x26 x27 x28 x29 x30 x31 x32 x33 x34 x35 x36 x37 x38 x39 x40 x41 x42 x43 x44 x45 x46 x47 x48 x49 x50 x51 x52 x53 x54 x55 x56 x57 x58 x59 x60 x61 x62 x63 x64 x65 x66 x67 x68 x69 x70 x71 : AV) (hz : Ws v z) (hv : Ok v) (hul : Ok ul) (hq : q < 4294967296) (gq : Gets Try.cx 85 [.d (.sl false ((ul.drop j).take (n + 1)).length (wd ((ul.drop j).take (n + 1)))), .d z] (intA .u64 (q : Int))) (hlen : ul.length = la + 1) (hql : ql.length = la - n + 1) (hn : n ≤ la) (hla : la < 100000000) (hnn : n < 99999999) (hj : j + n ≤ la) (hq1 : (lesF v q j (n + 1) 0 0 0 ul).2.2 = 1 → 1 ≤ q) (z14 z15 z72 z73 z74 z75 z76 z77 z78 z79 z80 z81 z82 z83 z84 z85 z86 z87 z88 z89 z90 z91 z92 z93 z94 z95 z96 z97 z98 z99 : AV) (h0 : (lesF v q j (n + 1) 0 0 0 ul).2.2 ≠ 1 → ∀ z14 z15 z72 z73 z74 z75 z76 z77 z78 z79 z80 z81 z82 z83 z84 z85 z86 z87 z88 z89 z90 z91 z92 z93 z94 z95 z96 z97 z98 z99, EvK Try.cx 66 (.loop divC) ⟨[.d x, .d y, U, U, .d (.v (.slice none 0 0)), .d (.v (.slice none 0 0)), x6, x7, J (n : Int), intA .u64 (dd : Int), .d z, .own 0 0 0 (la + 1) 1 (some (la + 1)), .own 1 1 0 (la - n + 1) 1 (some (la - n + 1)), J ((j : Int) - 1), z14, z15, U, U, x18, x19, x20, x21, x22, x23, x24, x25, x26, x27, x28, x29, x30, x31, x32, x33, x34, x35, x36, x37, x38, x39, x40, x41, x42, x43, x44, x45, x46, x47, x48, x49, x50, x51, x52, x53, x54, x55, x56, x57, x58, x59, x60, x61, x62, x63, x64, x65, x66, x67, x68, x69, x70, x71, z72, z73, z74, z75, z76, z77, z78, z79, z80, z81, z82, z83, z84, z85, z86, z87, z88, z89, z90, z91, z92, z93, z94, z95, z96, z97, z98, z99] ++ us 10, ⟨[.row (wa ((lesF v q j (n + 1) 0 0 0 ul).1)) 0 .ow none, .row (wa (ql.set j q)) 1 .ow none], 2⟩⟩ K) (h1 : (lesF v q j (n + 1) 0 0 0 ul).2.2 = 1 → ∀ z14 z15 z72 z73 z74 z75 z76 z77 z78 z79 z80 z81 z82 z83 z84 z85 z86 z87 z88 z89 z90 z91 z92 z93 z94 z95 z96 z97 z98 z99, EvK Try.cx 66 (.loop divC) ⟨[.d x, .d y, U, U, .d (.v (.slice none 0 0)), .d (.v (.slice none 0 0)), x6, x7, J (n : Int), intA .u64 (dd : Int), .d z, .own 0 0 0 (la + 1) 1 (some (la + 1)), .own 1 1 0 (la - n + 1) 1 (some (la - n + 1)), J ((j : Int) - 1), z14, z15, U, U, x18, x19, x20, x21, x22, x23, x24, x25, x26, x27, x28, x29, x30, x31, x32, x33, x34, x35, x36, x37, x38, x39, x40, x41, x42, x43, x44, x45, x46, x47, x48, x49, x50, x51, x52, x53, x54, x55, x56, x57, x58, x59, x60, x61, x62, x63, x64, x65, x66, x67, x68, x69, x70, x71, z72, z73, z74, z75, z76, z77, z78, z79, z80, z81, z82, z83, z84, z85, z86, z87, z88, z89, z90, z91, z92, z93, z94, z95, z96, z97, z98, z99] ++ us 10, ⟨[.row (wa ((resF v j (n + 1) 0 0 (lesF v q j (n + 1) 0 0 0 ul).1).1)) 0 .ow none, .row (wa (ql.set j (q - 1))) 1 .ow none], 2⟩⟩ K) : EvK Try.cx 66 (.loop divC) ⟨[.d x, .d y, U, U, .d (.v (.slice none 0 0)), .d (.v (.slice none 0 0)), x6, x7, J (n : Int), intA .u64 (dd : Int), .d z, .own 0 0 0 (la + 1) 1 (some (la + 1)), .own 1 1 0 (la - n + 1) 1 (some (la - n + 1)), J (j : Int), z14, z15, U, U, x18, x19, x20, x21, x22, x23, x24, x25, x26, x27, x28, x29, x30, x31, x32, x33, x34, x35, x36, x37, x38, x39, x40, x41, x42, x43, x44, x45, x46, x47, x48, x49, x50, x51, x52, x53, x54, x55, x56, x57, x58, x59, x60, x61, x62, x63, x64, x65, x66, x67, x68, x69, x70, x71, z72, z73, z74, z75, z76, z77, z78, z79, z80, z81, z82, z83, z84, z85, z86, z87, z88, z89, z90, z91, z92, z93, z94, z95, z96, z97, z98, z99] ++ us 10, ⟨[.row (wa (ul)) 0 .ow none, .row (wa (ql)) 1 .ow none], 2⟩⟩ K := by
  refine ev_loop ?_
  refine ev_seq ?_
  refine ev_seq ?_
  refine ev_reg (by kernel_rfl) ?_
  refine rs_up 2 [(72, J (j : Int)), (73, boolA (decide ((j : Int) ≥ 0)))] (fun cf => by kernel_rfl) ?_
  rw [(show decide ((j : Int) ≥ 0) = true from decide_eq_true (by omega))]
  refine rs_alu [] (fun cf => by kernel_rfl) ?_
  refine ev_true (by kernel_rfl) ?_
  refine ev_skip ?_
  refine ev_seq ?_
  refine ev_block ?_
  refine ev_seq ?_
  refine ev_reg (by kernel_rfl) ?_
  refine rs_up 5 [(76, .own 0 0 0 (la + 1) 1 (some (la + 1))), (77, J (j : Int)), (78, J (j : Int)), (79, J (n : Int)), (80, J (IntKind.wrap .i64 ((j : Int) + (n : Int))))] (fun cf => by kernel_rfl) ?_
  rw [addI (a := (j : Int)) (b := (n : Int)) (A := j) (B := n) (by rfl) (by rfl) (by omega)]
  refine rs_up 1 [(81, J (IntKind.wrap .i64 (((j + n : Nat) : Int) + 1)))] (fun cf => by kernel_rfl) ?_
  rw [addI (a := ((j + n : Nat) : Int)) (b := 1) (A := j + n) (B := 1) (by rfl) (by rfl) (by omega)]
  refine rs_cv (fun m9 => sliceA Try.cx 32 m9 (.own 0 0 0 (la + 1) 1 (some (la + 1))) (some (J (j : Int))) (some (J (((j + n) + 1 : Nat) : Int))) none) (some 82) (.own 0 0 j (n + 1) 1 (some (la + 1 - j))) (fun cf => by kernel_rfl) (slice_own (j := j) (k := (j + n) + 1) (n := n + 1) (by rfl) (by rfl) (row_at rfl) (by rw [wa_len]; exact hlen) (by omega) (by omega) (by omega)) ?_
  refine rs_alu [(14, .own 0 0 j (n + 1) 1 (some (la + 1 - j)))] (fun cf => by kernel_rfl) ?_
  refine ev_seq ?_
  refine ev_reg (by kernel_rfl) ?_
  refine rs_up 2 [(83, .own 0 0 j (n + 1) 1 (some (la + 1 - j))), (84, .d z)] (fun cf => by kernel_rfl) ?_
  refine rs_take 0 (s1 := ⟨[.d x, .d y, U, U, .d (.v (.slice none 0 0)), .d (.v (.slice none 0 0)), x6, x7, J (n : Int), intA .u64 (dd : Int), .d z, .own 0 0 0 (la + 1) 1 (some (la + 1)), .own 1 1 0 (la - n + 1) 1 (some (la - n + 1)), J (j : Int), .own 0 0 j (n + 1) 1 (some (la + 1 - j)), z15, U, U, x18, x19, x20, x21, x22, x23, x24, x25, x26, x27, x28, x29, x30, x31, x32, x33, x34, x35, x36, x37, x38, x39, x40, x41, x42, x43, x44, x45, x46, x47, x48, x49, x50, x51, x52, x53, x54, x55, x56, x57, x58, x59, x60, x61, x62, x63, x64, x65, x66, x67, x68, x69, x70, x71, J (j : Int), Yes, z74, z75, .own 0 0 0 (la + 1) 1 (some (la + 1)), J (j : Int), J (j : Int), J (n : Int), J ((j + n : Nat) : Int), J (((j + n) + 1 : Nat) : Int), .own 0 0 j (n + 1) 1 (some (la + 1 - j)), .own 0 0 j (n + 1) 1 (some (la + 1 - j)), .d z, z85, z86, z87, z88, z89, z90, z91, z92, z93, z94, z95, z96, z97, z98, z99] ++ us 10, ⟨[.row (wa (ul)) 0 .ow none, .row (wa (ql)) 1 .ow none], 2⟩⟩) (fun cf => by kernel_rfl) ?_
  refine rs_pure (g := 85) (bs := [.d (.sl false ((ul.drop j).take (n + 1)).length (wd ((ul.drop j).take (n + 1)))), .d z]) (ow := true) (r := intA .u64 (q : Int)) (s1 := ⟨[.d x, .d y, U, U, .d (.v (.slice none 0 0)), .d (.v (.slice none 0 0)), x6, x7, J (n : Int), intA .u64 (dd : Int), .d z, .own 0 0 0 (la + 1) 1 (some (la + 1)), .own 1 1 0 (la - n + 1) 1 (some (la - n + 1)), J (j : Int), .own 0 0 j (n + 1) 1 (some (la + 1 - j)), z15, U, U, x18, x19, x20, x21, x22, x23, x24, x25, x26, x27, x28, x29, x30, x31, x32, x33, x34, x35, x36, x37, x38, x39, x40, x41, x42, x43, x44, x45, x46, x47, x48, x49, x50, x51, x52, x53, x54, x55, x56, x57, x58, x59, x60, x61, x62, x63, x64, x65, x66, x67, x68, x69, x70, x71, J (j : Int), Yes, z74, z75, .own 0 0 0 (la + 1) 1 (some (la + 1)), J (j : Int), J (j : Int), J (n : Int), J ((j + n : Nat) : Int), J (((j + n) + 1 : Nat) : Int), .own 0 0 j (n + 1) 1 (some (la + 1 - j)), .own 0 0 j (n + 1) 1 (some (la + 1 - j)), .d z, intA .u64 (q : Int), z86, z87, z88, z89, z90, z91, z92, z93, z94, z95, z96, z97, z98, z99] ++ us 10, ⟨[.row (wa (ul)) 0 .ow none, .row (wa (ql)) 1 .ow none], 2⟩⟩) (Eq.trans (b := match mapO (snapA (⟨[.row (wa (ul)) 0 .ow none, .row (wa (ql)) 1 .ow none], 2⟩ : Mem)) [.own 0 0 j (n + 1) 1 (some (la + 1 - j)), .d z] with | some bs => some (85, bs, true) | none => none) (by kernel_rfl) (by rw [mapO_two (snap_ownF (l := ul) (row_at rfl) (by omega)) rfl])) gq (by kernel_rfl) (by kernel_rfl) ?_
  refine rs_alu [(15, intA .u64 (q : Int))] (fun cf => by kernel_rfl) ?_
  refine ev_seq ?_
  refine ev_seq ?_
  refine ev_reg (by kernel_rfl) ?_
  refine rs_up 3 [(86, .own 0 0 j (n + 1) 1 (some (la + 1 - j))), (87, .d z), (88, intA .u64 (q : Int))] (fun cf => by kernel_rfl) ?_
  refine rs_take 0 (s1 := ⟨[.d x, .d y, U, U, .d (.v (.slice none 0 0)), .d (.v (.slice none 0 0)), x6, x7, J (n : Int), intA .u64 (dd : Int), .d z, .own 0 0 0 (la + 1) 1 (some (la + 1)), .own 1 1 0 (la - n + 1) 1 (some (la - n + 1)), J (j : Int), .own 0 0 j (n + 1) 1 (some (la + 1 - j)), intA .u64 (q : Int), U, U, x18, x19, x20, x21, x22, x23, x24, x25, x26, x27, x28, x29, x30, x31, x32, x33, x34, x35, x36, x37, x38, x39, x40, x41, x42, x43, x44, x45, x46, x47, x48, x49, x50, x51, x52, x53, x54, x55, x56, x57, x58, x59, x60, x61, x62, x63, x64, x65, x66, x67, x68, x69, x70, x71, J (j : Int), Yes, z74, z75, .own 0 0 0 (la + 1) 1 (some (la + 1)), J (j : Int), J (j : Int), J (n : Int), J ((j + n : Nat) : Int), J (((j + n) + 1 : Nat) : Int), .own 0 0 j (n + 1) 1 (some (la + 1 - j)), .own 0 0 j (n + 1) 1 (some (la + 1 - j)), .d z, intA .u64 (q : Int), .own 0 0 j (n + 1) 1 (some (la + 1 - j)), .d z, intA .u64 (q : Int), z89, z90, z91, z92, z93, z94, z95, z96, z97, z98, z99] ++ us 10, ⟨[.row (wa (ul)) 0 .ow none, .row (wa (ql)) 1 .ow none], 2⟩⟩) (fun cf => by kernel_rfl) ?_
  refine rs_hand (g := 86) (av := [.own 0 0 j (n + 1) 1 (some (la + 1 - j)), .d z, intA .u64 (q : Int)]) (r := boolA (((lesF v q j (n + 1) 0 0 0 ul).2.2 : Int) == 1)) (m1 := ⟨[.row (wa ((lesF v q j (n + 1) 0 0 0 ul).1)) 0 .ow none, .row (wa (ql)) 1 .ow none], 2⟩) (s1 := ⟨[.d x, .d y, U, U, .d (.v (.slice none 0 0)), .d (.v (.slice none 0 0)), x6, x7, J (n : Int), intA .u64 (dd : Int), .d z, .own 0 0 0 (la + 1) 1 (some (la + 1)), .own 1 1 0 (la - n + 1) 1 (some (la - n + 1)), J (j : Int), .own 0 0 j (n + 1) 1 (some (la + 1 - j)), intA .u64 (q : Int), U, U, x18, x19, x20, x21, x22, x23, x24, x25, x26, x27, x28, x29, x30, x31, x32, x33, x34, x35, x36, x37, x38, x39, x40, x41, x42, x43, x44, x45, x46, x47, x48, x49, x50, x51, x52, x53, x54, x55, x56, x57, x58, x59, x60, x61, x62, x63, x64, x65, x66, x67, x68, x69, x70, x71, J (j : Int), Yes, z74, z75, .own 0 0 0 (la + 1) 1 (some (la + 1)), J (j : Int), J (j : Int), J (n : Int), J ((j + n : Nat) : Int), J (((j + n) + 1 : Nat) : Int), .own 0 0 j (n + 1) 1 (some (la + 1 - j)), .own 0 0 j (n + 1) 1 (some (la + 1 - j)), .d z, intA .u64 (q : Int), .own 0 0 j (n + 1) 1 (some (la + 1 - j)), .d z, intA .u64 (q : Int), boolA (((lesF v q j (n + 1) 0 0 0 ul).2.2 : Int) == 1), z90, z91, z92, z93, z94, z95, z96, z97, z98, z99] ++ us 10, ⟨[.row (wa ((lesF v q j (n + 1) 0 0 0 ul).1)) 0 .ow none, .row (wa (ql)) 1 .ow none], 2⟩⟩) (by kernel_rfl) (show Runs1 Try.cx 86 [.own 0 0 j (n + 1) 1 (some (la + 1 - j)), .d z, intA .u64 (q : Int)] (⟨[.row (wa (ul)) 0 .ow none, .row (wa (ql)) 1 .ow none], 2⟩ : Mem) (boolA (((lesF v q j (n + 1) 0 0 0 ul).2.2 : Int) == 1)) (⟨[.row (wa ((lesF v q j (n + 1) 0 0 0 ul).1)) 0 .ow none, .row (wa (ql)) 1 .ow none], 2⟩ : Mem) from g_lessen (M := ⟨[.row (wa (ul)) 0 .ow none, .row (wa (ql)) 1 .ow none], 2⟩) (h := 0) (g := 0) hz hv hul (by omega) hq (Nat.succ_pos 1) (by omega)) (by rfl) (by kernel_rfl) ?_
  refine rs_done (by kernel_rfl) ?_
  rcases hb1 : ((((lesF v q j (n + 1) 0 0 0 ul).2.2 : Int) == 1) : Bool) with _ | _
  ·
    have hb1' := beq_no hb1
    refine ev_false (by kernel_rfl) ?_
    refine ev_skip ?_
    refine ev_reg (by kernel_rfl) ?_
    refine rs_up 4 [(95, .own 1 1 0 (la - n + 1) 1 (some (la - n + 1))), (96, J (j : Int)), (97, intA .u64 (q : Int)), (98, intA .u32 (IntKind.wrap .u32 (q : Int)))] (fun cf => by kernel_rfl) ?_
    rw [wrapW (n := q) (by omega)]
    refine rs_cv (fun m9 => indexAddrA Try.cx 32 m9 (.own 1 1 0 (la - n + 1) 1 (some (la - n + 1))) (J (j : Int))) (some 99) (.ptr 1 1 j) (fun cf => by kernel_rfl) (idx_own (k := j) (by rfl) (row_at rfl) (by omega)) ?_
    refine rs_cu (fun m9 => storeA Try.cx 22 m9 (.ptr 1 1 j) (intA .u32 ((q : Nat) : Int))) none ⟨[.row (wa ((lesF v q j (n + 1) 0 0 0 ul).1)) 0 .ow none, .row (wa (ql.set j q)) 1 .ow none], 2⟩ (fun cf => by kernel_rfl) (store_own (v := q) rfl (by omega)) ?_
    refine rs_alu [] (fun cf => by kernel_rfl) ?_
    refine ev_reg (by kernel_rfl) ?_
    refine rs_up 2 [(74, J (j : Int)), (75, J (IntKind.wrap .i64 ((j : Int) - 1)))] (fun cf => by kernel_rfl) ?_
    rw [wrapI (n := (j : Int) - 1) (by omega) (by omega)]
    refine rs_all (s1 := ⟨[.d x, .d y, U, U, .d (.v (.slice none 0 0)), .d (.v (.slice none 0 0)), x6, x7, J (n : Int), intA .u64 (dd : Int), .d z, .own 0 0 0 (la + 1) 1 (some (la + 1)), .own 1 1 0 (la - n + 1) 1 (some (la - n + 1)), J ((j : Int) - 1), .own 0 0 j (n + 1) 1 (some (la + 1 - j)), intA .u64 (q : Int), U, U, x18, x19, x20, x21, x22, x23, x24, x25, x26, x27, x28, x29, x30, x31, x32, x33, x34, x35, x36, x37, x38, x39, x40, x41, x42, x43, x44, x45, x46, x47, x48, x49, x50, x51, x52, x53, x54, x55, x56, x57, x58, x59, x60, x61, x62, x63, x64, x65, x66, x67, x68, x69, x70, x71, J (j : Int), Yes, J (j : Int), J ((j : Int) - 1), .own 0 0 0 (la + 1) 1 (some (la + 1)), J (j : Int), J (j : Int), J (n : Int), J ((j + n : Nat) : Int), J (((j + n) + 1 : Nat) : Int), .own 0 0 j (n + 1) 1 (some (la + 1 - j)), .own 0 0 j (n + 1) 1 (some (la + 1 - j)), .d z, intA .u64 (q : Int), .own 0 0 j (n + 1) 1 (some (la + 1 - j)), .d z, intA .u64 (q : Int), No, z90, z91, z92, z93, z94, .own 1 1 0 (la - n + 1) 1 (some (la - n + 1)), J (j : Int), intA .u64 (q : Int), intA .u32 (q : Int), .ptr 1 1 j] ++ us 10, ⟨[.row (wa ((lesF v q j (n + 1) 0 0 0 ul).1)) 0 .ow none, .row (wa (ql.set j q)) 1 .ow none], 2⟩⟩) (fun cf => by kernel_rfl) ?_
    exact h0 (by omega) _ _ _ _ _ _ _ _ _ _ _ _ _ _ _ _ _ _ _ _ _ _ _ _ _ _ _ _ _ _
  ·
    have hb1' := beq_yes hb1
    refine ev_true (by kernel_rfl) ?_
    refine ev_seq ?_
    refine ev_reg (by kernel_rfl) ?_
    refine rs_up 2 [(90, intA .u64 (q : Int)), (91, intA .u64 (IntKind.wrap .u64 ((q : Int) - 1)))] (fun cf => by kernel_rfl) ?_
    rw [subU (a := (q : Int)) (b := 1) (A := q) (B := 1) (by rfl) (by rfl) (⟨hq1 (by omega), by omega⟩)]
    refine rs_alu [(15, intA .u64 ((q - 1 : Nat) : Int))] (fun cf => by kernel_rfl) ?_
    refine ev_reg (by kernel_rfl) ?_
    refine rs_up 2 [(92, .own 0 0 j (n + 1) 1 (some (la + 1 - j))), (93, .d z)] (fun cf => by kernel_rfl) ?_
    refine rs_take 0 (s1 := ⟨[.d x, .d y, U, U, .d (.v (.slice none 0 0)), .d (.v (.slice none 0 0)), x6, x7, J (n : Int), intA .u64 (dd : Int), .d z, .own 0 0 0 (la + 1) 1 (some (la + 1)), .own 1 1 0 (la - n + 1) 1 (some (la - n + 1)), J (j : Int), .own 0 0 j (n + 1) 1 (some (la + 1 - j)), intA .u64 ((q - 1 : Nat) : Int), U, U, x18, x19, x20, x21, x22, x23, x24, x25, x26, x27, x28, x29, x30, x31, x32, x33, x34, x35, x36, x37, x38, x39, x40, x41, x42, x43, x44, x45, x46, x47, x48, x49, x50, x51, x52, x53, x54, x55, x56, x57, x58, x59, x60, x61, x62, x63, x64, x65, x66, x67, x68, x69, x70, x71, J (j : Int), Yes, z74, z75, .own 0 0 0 (la + 1) 1 (some (la + 1)), J (j : Int), J (j : Int), J (n : Int), J ((j + n : Nat) : Int), J (((j + n) + 1 : Nat) : Int), .own 0 0 j (n + 1) 1 (some (la + 1 - j)), .own 0 0 j (n + 1) 1 (some (la + 1 - j)), .d z, intA .u64 (q : Int), .own 0 0 j (n + 1) 1 (some (la + 1 - j)), .d z, intA .u64 (q : Int), Yes, intA .u64 (q : Int), intA .u64 ((q - 1 : Nat) : Int), .own 0 0 j (n + 1) 1 (some (la + 1 - j)), .d z, z94, z95, z96, z97, z98, z99] ++ us 10, ⟨[.row (wa ((lesF v q j (n + 1) 0 0 0 ul).1)) 0 .ow none, .row (wa (ql)) 1 .ow none], 2⟩⟩) (fun cf => by kernel_rfl) ?_
    refine rs_hand (g := 87) (av := [.own 0 0 j (n + 1) 1 (some (la + 1 - j)), .d z]) (r := .tu []) (m1 := ⟨[.row (wa ((resF v j (n + 1) 0 0 (lesF v q j (n + 1) 0 0 0 ul).1).1)) 0 .ow none, .row (wa (ql)) 1 .ow none], 2⟩) (s1 := ⟨[.d x, .d y, U, U, .d (.v (.slice none 0 0)), .d (.v (.slice none 0 0)), x6, x7, J (n : Int), intA .u64 (dd : Int), .d z, .own 0 0 0 (la + 1) 1 (some (la + 1)), .own 1 1 0 (la - n + 1) 1 (some (la - n + 1)), J (j : Int), .own 0 0 j (n + 1) 1 (some (la + 1 - j)), intA .u64 ((q - 1 : Nat) : Int), U, U, x18, x19, x20, x21, x22, x23, x24, x25, x26, x27, x28, x29, x30, x31, x32, x33, x34, x35, x36, x37, x38, x39, x40, x41, x42, x43, x44, x45, x46, x47, x48, x49, x50, x51, x52, x53, x54, x55, x56, x57, x58, x59, x60, x61, x62, x63, x64, x65, x66, x67, x68, x69, x70, x71, J (j : Int), Yes, z74, z75, .own 0 0 0 (la + 1) 1 (some (la + 1)), J (j : Int), J (j : Int), J (n : Int), J ((j + n : Nat) : Int), J (((j + n) + 1 : Nat) : Int), .own 0 0 j (n + 1) 1 (some (la + 1 - j)), .own 0 0 j (n + 1) 1 (some (la + 1 - j)), .d z, intA .u64 (q : Int), .own 0 0 j (n + 1) 1 (some (la + 1 - j)), .d z, intA .u64 (q : Int), Yes, intA .u64 (q : Int), intA .u64 ((q - 1 : Nat) : Int), .own 0 0 j (n + 1) 1 (some (la + 1 - j)), .d z, .tu [], z95, z96, z97, z98, z99] ++ us 10, ⟨[.row (wa ((resF v j (n + 1) 0 0 (lesF v q j (n + 1) 0 0 0 ul).1).1)) 0 .ow none, .row (wa (ql)) 1 .ow none], 2⟩⟩) (by kernel_rfl) (show Runs1 Try.cx 87 [.own 0 0 j (n + 1) 1 (some (la + 1 - j)), .d z] (⟨[.row (wa ((lesF v q j (n + 1) 0 0 0 ul).1)) 0 .ow none, .row (wa (ql)) 1 .ow none], 2⟩ : Mem) (.tu []) (⟨[.row (wa ((resF v j (n + 1) 0 0 (lesF v q j (n + 1) 0 0 0 ul).1).1)) 0 .ow none, .row (wa (ql)) 1 .ow none], 2⟩ : Mem) from g_restore (M := ⟨[.row (wa ((lesF v q j (n + 1) 0 0 0 ul).1)) 0 .ow none, .row (wa (ql)) 1 .ow none], 2⟩) (h := 0) (g := 0) hz hv (lesF_ok v q j (n + 1) 0 0 0 ul hul) (by omega) (Nat.succ_pos 1) (by rw [lesF_len]; omega)) (by rfl) (by kernel_rfl) ?_
    refine rs_done (by kernel_rfl) ?_
    refine ev_reg (by kernel_rfl) ?_
    refine rs_up 4 [(95, .own 1 1 0 (la - n + 1) 1 (some (la - n + 1))), (96, J (j : Int)), (97, intA .u64 ((q - 1 : Nat) : Int)), (98, intA .u32 (IntKind.wrap .u32 ((q - 1 : Nat) : Int)))] (fun cf => by kernel_rfl) ?_
    rw [wrapW (n := q - 1) (by omega)]
    refine rs_cv (fun m9 => indexAddrA Try.cx 32 m9 (.own 1 1 0 (la - n + 1) 1 (some (la - n + 1))) (J (j : Int))) (some 99) (.ptr 1 1 j) (fun cf => by kernel_rfl) (idx_own (k := j) (by rfl) (row_at rfl) (by omega)) ?_
    refine rs_cu (fun m9 => storeA Try.cx 22 m9 (.ptr 1 1 j) (intA .u32 ((q - 1 : Nat) : Int))) none ⟨[.row (wa ((resF v j (n + 1) 0 0 (lesF v q j (n + 1) 0 0 0 ul).1).1)) 0 .ow none, .row (wa (ql.set j (q - 1))) 1 .ow none], 2⟩ (fun cf => by kernel_rfl) (store_own (v := q - 1) rfl (by omega)) ?_
    refine rs_alu [] (fun cf => by kernel_rfl) ?_
    refine ev_reg (by kernel_rfl) ?_
    refine rs_up 2 [(74, J (j : Int)), (75, J (IntKind.wrap .i64 ((j : Int) - 1)))] (fun cf => by kernel_rfl) ?_
    rw [wrapI (n := (j : Int) - 1) (by omega) (by omega)]
    refine rs_all (s1 := ⟨[.d x, .d y, U, U, .d (.v (.slice none 0 0)), .d (.v (.slice none 0 0)), x6, x7, J (n : Int), intA .u64 (dd : Int), .d z, .own 0 0 0 (la + 1) 1 (some (la + 1)), .own 1 1 0 (la - n + 1) 1 (some (la - n + 1)), J ((j : Int) - 1), .own 0 0 j (n + 1) 1 (some (la + 1 - j)), intA .u64 ((q - 1 : Nat) : Int), U, U, x18, x19, x20, x21, x22, x23, x24, x25, x26, x27, x28, x29, x30, x31, x32, x33, x34, x35, x36, x37, x38, x39, x40, x41, x42, x43, x44, x45, x46, x47, x48, x49, x50, x51, x52, x53, x54, x55, x56, x57, x58, x59, x60, x61, x62, x63, x64, x65, x66, x67, x68, x69, x70, x71, J (j : Int), Yes, J (j : Int), J ((j : Int) - 1), .own 0 0 0 (la + 1) 1 (some (la + 1)), J (j : Int), J (j : Int), J (n : Int), J ((j + n : Nat) : Int), J (((j + n) + 1 : Nat) : Int), .own 0 0 j (n + 1) 1 (some (la + 1 - j)), .own 0 0 j (n + 1) 1 (some (la + 1 - j)), .d z, intA .u64 (q : Int), .own 0 0 j (n + 1) 1 (some (la + 1 - j)), .d z, intA .u64 (q : Int), Yes, intA .u64 (q : Int), intA .u64 ((q - 1 : Nat) : Int), .own 0 0 j (n + 1) 1 (some (la + 1 - j)), .d z, .tu [], .own 1 1 0 (la - n + 1) 1 (some (la - n + 1)), J (j : Int), intA .u64 ((q - 1 : Nat) : Int), intA .u32 ((q - 1 : Nat) : Int), .ptr 1 1 j] ++ us 10, ⟨[.row (wa ((resF v j (n + 1) 0 0 (lesF v q j (n + 1) 0 0 0 ul).1).1)) 0 .ow none, .row (wa (ql.set j (q - 1))) 1 .ow none], 2⟩⟩) (fun cf => by kernel_rfl) ?_
    exact h1 (by omega) _ _ _ _ _ _ _ _ _ _ _ _ _ _ _ _ _ _ _ _ _ _ _ _ _ _ _ _ _ _

theorem div_stop {K : Out → St → Prop} {a b v ul ql : List Nat} {x y z : D} {la n dd : Nat} (x6 x7 x18 x19 x20 x21 x22 x23 x24 x25 x26 x27 x28 x29 x30 x31 x32 x33 x34 x35 x36 x37 x38 x39 x40 x41 x42 x43 x44 x45 x46 x47 x48 x49 x50 x51 x52 x53 x54 x55 x56 x57 x58 x59 x60 x61 x62 x63 x64 x65 x66 x67 x68 x69 x70 x71 : AV)  (z14 z15 z72 z73 z74 z75 z76 z77 z78 z79 z80 z81 z82 z83 z84 z85 z86 z87 z88 z89 z90 z91 z92 z93 z94 z95 z96 z97 z98 z99 : AV) (h : ∀ z14 z15 z72 z73 z74 z75 z76 z77 z78 z79 z80 z81 z82 z83 z84 z85 z86 z87 z88 z89 z90 z91 z92 z93 z94 z95 z96 z97 z98 z99, K (.exit 0) ⟨[.d x, .d y, U, U, .d (.v (.slice none 0 0)), .d (.v (.slice none 0 0)), x6, x7, J (n : Int), intA .u64 (dd : Int), .d z, .own 0 0 0 (la + 1) 1 (some (la + 1)), .own 1 1 0 (la - n + 1) 1 (some (la - n + 1)), J (-1), z14, z15, U, U, x18, x19, x20, x21, x22, x23, x24, x25, x26, x27, x28, x29, x30, x31, x32, x33, x34, x35, x36, x37, x38, x39, x40, x41, x42, x43, x44, x45, x46, x47, x48, x49, x50, x51, x52, x53, x54, x55, x56, x57, x58, x59, x60, x61, x62, x63, x64, x65, x66, x67, x68, x69, x70, x71, z72, z73, z74, z75, z76, z77, z78, z79, z80, z81, z82, z83, z84, z85, z86, z87, z88, z89, z90, z91, z92, z93, z94, z95, z96, z97, z98, z99] ++ us 10, ⟨[.row (wa (ul)) 0 .ow none, .row (wa (ql)) 1 .ow none], 2⟩⟩) : EvK Try.cx 66 (.loop divC) ⟨[.d x, .d y, U, U, .d (.v (.slice none 0 0)), .d (.v (.slice none 0 0)), x6, x7, J (n : Int), intA .u64 (dd : Int), .d z, .own 0 0 0 (la + 1) 1 (some (la + 1)), .own 1 1 0 (la - n + 1) 1 (some (la - n + 1)), J (-1), z14, z15, U, U, x18, x19, x20, x21, x22, x23, x24, x25, x26, x27, x28, x29, x30, x31, x32, x33, x34, x35, x36, x37, x38, x39, x40, x41, x42, x43, x44, x45, x46, x47, x48, x49, x50, x51, x52, x53, x54, x55, x56, x57, x58, x59, x60, x61, x62, x63, x64, x65, x66, x67, x68, x69, x70, x71, z72, z73, z74, z75, z76, z77, z78, z79, z80, z81, z82, z83, z84, z85, z86, z87, z88, z89, z90, z91, z92, z93, z94, z95, z96, z97, z98, z99] ++ us 10, ⟨[.row (wa (ul)) 0 .ow none, .row (wa (ql)) 1 .ow none], 2⟩⟩ K := by
  refine ev_loop ?_
  refine ev_seq ?_
  refine ev_seq ?_
  refine ev_reg (by kernel_rfl) ?_
  refine rs_all (s1 := ⟨[.d x, .d y, U, U, .d (.v (.slice none 0 0)), .d (.v (.slice none 0 0)), x6, x7, J (n : Int), intA .u64 (dd : Int), .d z, .own 0 0 0 (la + 1) 1 (some (la + 1)), .own 1 1 0 (la - n + 1) 1 (some (la - n + 1)), J (-1), z14, z15, U, U, x18, x19, x20, x21, x22, x23, x24, x25, x26, x27, x28, x29, x30, x31, x32, x33, x34, x35, x36, x37, x38, x39, x40, x41, x42, x43, x44, x45, x46, x47, x48, x49, x50, x51, x52, x53, x54, x55, x56, x57, x58, x59, x60, x61, x62, x63, x64, x65, x66, x67, x68, x69, x70, x71, J (-1), No, z74, z75, z76, z77, z78, z79, z80, z81, z82, z83, z84, z85, z86, z87, z88, z89, z90, z91, z92, z93, z94, z95, z96, z97, z98, z99] ++ us 10, ⟨[.row (wa (ul)) 0 .ow none, .row (wa (ql)) 1 .ow none], 2⟩⟩) (fun cf => by kernel_rfl) ?_
  refine ev_false (by kernel_rfl) ?_
  refine ev_exit ?_
  exact h _ _ _ _ _ _ _ _ _ _ _ _ _ _ _ _ _ _ _ _ _ _ _ _ _ _ _ _ _ _

theorem top_le {u l v lo m un vn : Nat} (hu : u = l + m * un) (hv : v = lo + m * vn) (hl : lo < m) (h : u < v) : un ≤ vn := by
  refine Nat.le_of_lt_succ (Nat.lt_of_mul_lt_mul_left (a := m) ?_)
  rw [Nat.mul_succ]
  omega
theorem step_alg {A m X Q V P R r W : Nat} (h1 : R * V + r = A + m * X) (hP : V * Q + X = P) (hW : W = A + m * P) : (R + m * (Q + 4294967296 * 0)) * V + r = W := by
  have e : (R + m * (Q + 4294967296 * 0)) * V = R * V + m * (V * Q) := by rw [Nat.mul_zero, Nat.add_zero, Nat.add_mul, Nat.mul_assoc, Nat.mul_comm Q V]
  have e2 : m * (V * Q) + m * X = m * P := by rw [← Nat.mul_add, hP]
  rw [e, hW]
  omega
theorem top2_ge {b : List Nat} {n : Nat} (h : b.getD (n - 1) 0 ≠ 0) : 4294967296 ≤ top2 b n := by
  unfold top2
  omega
theorem pm_lt {P V m : Nat} (h : P < V * 4294967296) (hV : V < m) : P < m * 4294967296 := Nat.lt_of_lt_of_le h (Nat.mul_le_mul_right _ (Nat.le_of_lt hV))
theorem vm_le {V m : Nat} (hV : V < m) : V ≤ m * 4294967296 := Nat.le_trans (Nat.le_of_lt hV) (Nat.le_mul_of_pos_right m (Nat.succ_pos 4294967295))
theorem qV_lt {q V m : Nat} (hq : q < 4294967296) (hV : V < m) : q * V < m * 4294967296 := by
  have h1 : q * V ≤ 4294967296 * V := Nat.mul_le_mul_right _ (Nat.le_of_lt hq)
  omega
theorem div_loop {K : Out → St → Prop} {a b v : List Nat} {x y z : D} {la n dd : Nat} (x6 x7 x18 x19 x20 x21 x22 x23 x24 x25 x26 x27 x28 x29 x30 x31 x32 x33 x34 x35 x36 x37 x38 x39 x40 x41 x42 x43 x44 x45 x46 x47 x48 x49 x50 x51 x52 x53 x54 x55 x56 x57 x58 x59 x60 x61 x62 x63 x64 x65 x66 x67 x68 x69 x70 x71 : AV) (hz : Ws v z) (hv : Ok v) (hvl : v.length = n) (hn2 : 2 ≤ n) (htop : v.getD (n - 1) 0 ≠ 0) (hn : n ≤ la) (hla : la < 90000000) :
    ∀ (m : Nat) (ul s : List Nat) (z14 z15 z72 z73 z74 z75 z76 z77 z78 z79 z80 z81 z82 z83 z84 z85 z86 z87 z88 z89 z90 z91 z92 z93 z94 z95 z96 z97 z98 z99 : AV) (hm : m + s.length = la - n + 1) (hul : Ok ul) (hlen : ul.length = la + 1) (hlow : vF ul m n < val v) (hz0 : ∀ k, m + n ≤ k → ul.getD k 0 = 0)
    (h : ∀ (ul' ql' : List Nat) (z14 z15 z72 z73 z74 z75 z76 z77 z78 z79 z80 z81 z82 z83 z84 z85 z86 z87 z88 z89 z90 z91 z92 z93 z94 z95 z96 z97 z98 z99 : AV), Ok ul' → ul'.length = la + 1 → Ok ql' → ql'.length = m → val ql' * val v + vF ul' 0 n = vF ul 0 (m + n) → vF ul' 0 n < val v → (∀ k, n ≤ k → ul'.getD k 0 = 0) → K (.exit 0) ⟨[.d x, .d y, U, U, .d (.v (.slice none 0 0)), .d (.v (.slice none 0 0)), x6, x7, J (n : Int), intA .u64 (dd : Int), .d z, .own 0 0 0 (la + 1) 1 (some (la + 1)), .own 1 1 0 (la - n + 1) 1 (some (la - n + 1)), J (-1), z14, z15, U, U, x18, x19, x20, x21, x22, x23, x24, x25, x26, x27, x28, x29, x30, x31, x32, x33, x34, x35, x36, x37, x38, x39, x40, x41, x42, x43, x44, x45, x46, x47, x48, x49, x50, x51, x52, x53, x54, x55, x56, x57, x58, x59, x60, x61, x62, x63, x64, x65, x66, x67, x68, x69, x70, x71, z72, z73, z74, z75, z76, z77, z78, z79, z80, z81, z82, z83, z84, z85, z86, z87, z88, z89, z90, z91, z92, z93, z94, z95, z96, z97, z98, z99] ++ us 10, ⟨[.row (wa (ul')) 0 .ow none, .row (wa (ql' ++ s)) 1 .ow none], 2⟩⟩), EvK Try.cx 66 (.loop divC) ⟨[.d x, .d y, U, U, .d (.v (.slice none 0 0)), .d (.v (.slice none 0 0)), x6, x7, J (n : Int), intA .u64 (dd : Int), .d z, .own 0 0 0 (la + 1) 1 (some (la + 1)), .own 1 1 0 (la - n + 1) 1 (some (la - n + 1)), J ((m : Int) - 1), z14, z15, U, U, x18, x19, x20, x21, x22, x23, x24, x25, x26, x27, x28, x29, x30, x31, x32, x33, x34, x35, x36, x37, x38, x39, x40, x41, x42, x43, x44, x45, x46, x47, x48, x49, x50, x51, x52, x53, x54, x55, x56, x57, x58, x59, x60, x61, x62, x63, x64, x65, x66, x67, x68, x69, x70, x71, z72, z73, z74, z75, z76, z77, z78, z79, z80, z81, z82, z83, z84, z85, z86, z87, z88, z89, z90, z91, z92, z93, z94, z95, z96, z97, z98, z99] ++ us 10, ⟨[.row (wa (ul)) 0 .ow none, .row (wa (List.replicate m 0 ++ s)) 1 .ow none], 2⟩⟩ K
  | 0, ul, s, z14, z15, z72, z73, z74, z75, z76, z77, z78, z79, z80, z81, z82, z83, z84, z85, z86, z87, z88, z89, z90, z91, z92, z93, z94, z95, z96, z97, z98, z99, hm, hul, hlen, hlow, hz0, h => div_stop (a := a) (b := b) (v := v) (x := x) (y := y) (z := z) x6 x7 x18 x19 x20 x21 x22 x23 x24 x25 x26 x27 x28 x29 x30 x31 x32 x33 x34 x35 x36 x37 x38 x39 x40 x41 x42 x43 x44 x45 x46 x47 x48 x49 x50 x51 x52 x53 x54 x55 x56 x57 x58 x59 x60 x61 x62 x63 x64 x65 x66 x67 x68 x69 x70 x71 z14 z15 z72 z73 z74 z75 z76 z77 z78 z79 z80 z81 z82 z83 z84 z85 z86 z87 z88 z89 z90 z91 z92 z93 z94 z95 z96 z97 z98 z99 fun z14 z15 z72 z73 z74 z75 z76 z77 z78 z79 z80 z81 z82 z83 z84 z85 z86 z87 z88 z89 z90 z91 z92 z93 z94 z95 z96 z97 z98 z99 => h ul [] z14 z15 z72 z73 z74 z75 z76 z77 z78 z79 z80 z81 z82 z83 z84 z85 z86 z87 z88 z89 z90 z91 z92 z93 z94 z95 z96 z97 z98 z99 hul hlen ok_nil rfl (by simp [val]) hlow fun k hk => hz0 k (by omega)
  | j + 1, ul, s, z14, z15, z72, z73, z74, z75, z76, z77, z78, z79, z80, z81, z82, z83, z84, z85, z86, z87, z88, z89, z90, z91, z92, z93, z94, z95, z96, z97, z98, z99, hm, hul, hlen, hlow, hz0, h => by
    rw [show ((j + 1 : Nat) : Int) - 1 = (j : Int) by omega]
    have hV : val v = vF v 0 n := (vF_val (by omega)).symm
    have hVb : val v < 4294967296 ^ n := by rw [hV]; exact vF_lt hv n 0
    have hVp : 0 < val v := by omega
    have hP1 : vF ul j (n + 1) = ul.getD j 0 + 4294967296 * vF ul (j + 1) n := rfl
    have hPV : vF ul j (n + 1) < val v * 4294967296 := by have := hul j; omega
    have hpl : ((ul.drop j).take (n + 1)).length = n + 1 := by simp; omega
    have hpok : Ok ((ul.drop j).take (n + 1)) := fun k => by
      by_cases hk : k < n + 1
      · rw [part_at hk]; exact hul _
      · rw [getD_out (by omega)]; decide
    have hu : ((ul.drop j).take (n + 1)).getD n 0 ≤ v.getD (n - 1) 0 := by
      rw [part_at (by omega)]
      have e1 := vF_snoc ul (n - 1) (j + 1)
      have e2 := vF_snoc v (n - 1) 0
      rw [show n - 1 + 1 = n by omega] at e1 e2
      rw [show j + 1 + (n - 1) = j + n by omega] at e1
      rw [Nat.zero_add] at e2
      exact top_le e1 e2 (vF_lt hv _ _) (by rw [← hV]; exact hlow)
    obtain ⟨q, ⟨hq, hq1, hq2⟩, gq⟩ := g_guess (ws_sl false ((ul.drop j).take (n + 1))) hz hpok hv hn2 (by omega) hpl hvl htop hu
    have hdig : q = vF ul j (n + 1) / val v ∨ q = vF ul j (n + 1) / val v + 1 := by
      have e1 := vF_split ul (n - 2) 3 j
      have e2 := vF_split v (n - 2) 2 0
      rw [show n - 2 + 3 = n + 1 by omega] at e1
      rw [show n - 2 + 2 = n by omega, ← hV, Nat.zero_add] at e2
      refine digit_ok (m := 4294967296 ^ (n - 2)) (V2 := top2 v n) (U3 := top3 ((ul.drop j).take (n + 1)) n) (lo := vF v 0 (n - 2)) (low := vF ul j (n - 2)) ?_ (vF_lt hv _ _) ?_ (vF_lt hul _ _) hPV ?_ rfl hq hq1 hq2
      · have e3 : vF v (n - 2) 2 = top2 v n := by
          simp only [vF, top2]
          rw [show n - 2 + 1 = n - 1 by omega]
          omega
        rw [e2, e3, Nat.mul_comm, Nat.add_comm]
      · have e3 : vF ul (j + (n - 2)) 3 = top3 ((ul.drop j).take (n + 1)) n := by
          simp only [vF, top3]
          rw [part_at (by omega), part_at (by omega), part_at (by omega), show j + (n - 2) + 1 = j + (n - 1) by omega, show j + (n - 1) + 1 = j + n by omega]
          omega
        rw [e1, e3, Nat.mul_comm, Nat.add_comm]
      · exact top2_ge htop
    have hm1 : 4294967296 ^ (n + 1) = 4294967296 ^ n * 4294967296 := Nat.pow_succ ..
    obtain ⟨l1, l2, l3⟩ := les_val (b := v) (q := q) (off := j) (n + 1) 0 0 0 ul hul (by decide) (by omega)
    have hvn : vF v 0 (n + 1) = val v := vF_val (by omega)
    rw [hvn, Nat.add_zero, Nat.add_zero, Nat.add_zero] at l1
    rw [hvn, Nat.add_zero] at l2
    have hqV : q * val v < 4294967296 ^ (n + 1) := by
      rw [hm1]
      exact qV_lt hq hVb
    have hpo := part_ok (vF_lt (lesF_ok v q j (n + 1) 0 0 0 ul hul) (n + 1) j) (by rw [hm1]; exact pm_lt hPV hVb) (by rw [hm1]; exact vm_le hVb) hqV l1 l2 l3 rfl hVp hdig
    have key : ∀ (ul1 : List Nat), Ok ul1 → ul1.length = la + 1 → vF ul1 j (n + 1) = vF ul j (n + 1) % val v → (∀ k, k < j ∨ j + n + 1 ≤ k → ul1.getD k 0 = ul.getD k 0) → ∀ (z14 z15 z72 z73 z74 z75 z76 z77 z78 z79 z80 z81 z82 z83 z84 z85 z86 z87 z88 z89 z90 z91 z92 z93 z94 z95 z96 z97 z98 z99 : AV), EvK Try.cx 66 (.loop divC) ⟨[.d x, .d y, U, U, .d (.v (.slice none 0 0)), .d (.v (.slice none 0 0)), x6, x7, J (n : Int), intA .u64 (dd : Int), .d z, .own 0 0 0 (la + 1) 1 (some (la + 1)), .own 1 1 0 (la - n + 1) 1 (some (la - n + 1)), J ((j : Int) - 1), z14, z15, U, U, x18, x19, x20, x21, x22, x23, x24, x25, x26, x27, x28, x29, x30, x31, x32, x33, x34, x35, x36, x37, x38, x39, x40, x41, x42, x43, x44, x45, x46, x47, x48, x49, x50, x51, x52, x53, x54, x55, x56, x57, x58, x59, x60, x61, x62, x63, x64, x65, x66, x67, x68, x69, x70, x71, z72, z73, z74, z75, z76, z77, z78, z79, z80, z81, z82, z83, z84, z85, z86, z87, z88, z89, z90, z91, z92, z93, z94, z95, z96, z97, z98, z99] ++ us 10, ⟨[.row (wa (ul1)) 0 .ow none, .row (wa ((List.replicate (j + 1) 0 ++ s).set j (vF ul j (n + 1) / val v))) 1 .ow none], 2⟩⟩ K := by
      intro ul1 hul1 hlen1 hval hfar z14 z15 z72 z73 z74 z75 z76 z77 z78 z79 z80 z81 z82 z83 z84 z85 z86 z87 z88 z89 z90 z91 z92 z93 z94 z95 z96 z97 z98 z99
      have hmod := Nat.mod_lt (vF ul j (n + 1)) hVp
      have hsn := vF_snoc ul1 n j
      have htz : ul1.getD (j + n) 0 = 0 := by
        cases ht : ul1.getD (j + n) 0 with
        | zero => rfl
        | succ t => rw [ht, Nat.mul_succ] at hsn; omega
      rw [htz, Nat.mul_zero, Nat.add_zero] at hsn
      rw [set_mid]
      refine div_loop (a := a) (b := b) x6 x7 x18 x19 x20 x21 x22 x23 x24 x25 x26 x27 x28 x29 x30 x31 x32 x33 x34 x35 x36 x37 x38 x39 x40 x41 x42 x43 x44 x45 x46 x47 x48 x49 x50 x51 x52 x53 x54 x55 x56 x57 x58 x59 x60 x61 x62 x63 x64 x65 x66 x67 x68 x69 x70 x71 hz hv hvl hn2 htop hn hla j ul1 _ z14 z15 z72 z73 z74 z75 z76 z77 z78 z79 z80 z81 z82 z83 z84 z85 z86 z87 z88 z89 z90 z91 z92 z93 z94 z95 z96 z97 z98 z99 (by simp; omega) hul1 hlen1 (by omega) (fun k hk => ?_) fun ul' ql' z14 z15 z72 z73 z74 z75 z76 z77 z78 z79 z80 z81 z82 z83 z84 z85 z86 z87 z88 z89 z90 z91 z92 z93 z94 z95 z96 z97 z98 z99 h1 h2 h3 h4 h5 h6 h7 => ?_
      · by_cases hk2 : k = j + n
        · rw [hk2]; exact htz
        · rw [hfar k (by omega)]; exact hz0 k (by omega)
      · have hh := h ul' (ql' ++ [vF ul j (n + 1) / val v]) z14 z15 z72 z73 z74 z75 z76 z77 z78 z79 z80 z81 z82 z83 z84 z85 z86 z87 z88 z89 z90 z91 z92 z93 z94 z95 z96 z97 z98 z99 h1 h2 (ok_append h3 (ok_cons (Nat.div_lt_of_lt_mul hPV) ok_nil)) (by simp [h4]) ?_ h6 h7
        · simp only [List.append_assoc, List.singleton_append] at hh
          exact hh
        · rw [val_append, h4]
          have e1 := vF_split ul1 j n 0
          have e2 := vF_split ul j (n + 1) 0
          rw [Nat.zero_add] at e1 e2
          have e3 : vF ul1 0 j = vF ul 0 j := vF_congr _ _ fun k h8 h9 => hfar k (by omega)
          rw [e1, e3] at h5
          rw [show j + 1 + n = j + (n + 1) by omega]
          exact step_alg h5 (by rw [show vF ul1 j n = vF ul j (n + 1) % val v by rw [← hval, hsn, Nat.add_zero]]; exact Nat.div_add_mod _ _) e2
    refine div_round (a := a) (b := b) x6 x7 x18 x19 x20 x21 x22 x23 x24 x25 x26 x27 x28 x29 x30 x31 x32 x33 x34 x35 x36 x37 x38 x39 x40 x41 x42 x43 x44 x45 x46 x47 x48 x49 x50 x51 x52 x53 x54 x55 x56 x57 x58 x59 x60 x61 x62 x63 x64 x65 x66 x67 x68 x69 x70 x71 hz hv hul hq gq hlen (by simp; omega) hn (by omega) (by omega) (by omega) (fun h1 => by rw [(hpo.2 h1).1]; exact Nat.succ_pos _) z14 z15 z72 z73 z74 z75 z76 z77 z78 z79 z80 z81 z82 z83 z84 z85 z86 z87 z88 z89 z90 z91 z92 z93 z94 z95 z96 z97 z98 z99 (fun h0 z14 z15 z72 z73 z74 z75 z76 z77 z78 z79 z80 z81 z82 z83 z84 z85 z86 z87 z88 z89 z90 z91 z92 z93 z94 z95 z96 z97 z98 z99 => ?_) fun h1 z14 z15 z72 z73 z74 z75 z76 z77 z78 z79 z80 z81 z82 z83 z84 z85 z86 z87 z88 z89 z90 z91 z92 z93 z94 z95 z96 z97 z98 z99 => ?_
    · obtain ⟨k1, k2⟩ := hpo.1 h0
      rw [k1]
      exact key _ (by rw [← k1]; exact lesF_ok v q j (n + 1) 0 0 0 ul hul) (by rw [lesF_len]; exact hlen) (by rw [← k1]; exact k2) (fun k hk => lesF_far v _ j (n + 1) 0 0 0 ul k (by omega)) z14 z15 z72 z73 z74 z75 z76 z77 z78 z79 z80 z81 z82 z83 z84 z85 z86 z87 z88 z89 z90 z91 z92 z93 z94 z95 z96 z97 z98 z99
    · obtain ⟨k1, k2⟩ := hpo.2 h1
      have hr := res_val (b := v) (off := j) (n + 1) 0 0 (lesF v q j (n + 1) 0 0 0 ul).1 (by rw [lesF_len]; omega)
      rw [hvn, Nat.add_zero, Nat.add_zero] at hr
      have k3 := k2 _ _ (vF_lt (resF_ok v j (n + 1) 0 0 _ (lesF_ok v q j (n + 1) 0 0 0 ul hul)) (n + 1) j) hr
      rw [show q - 1 = vF ul j (n + 1) / val v by rw [k1]; exact Nat.add_sub_cancel ..]
      exact key _ (resF_ok v j (n + 1) 0 0 _ (lesF_ok v q j (n + 1) 0 0 0 ul hul)) (by rw [resF_len, lesF_len]; exact hlen) k3 (fun k hk => by rw [resF_far v j (n + 1) 0 0 _ k (by omega), lesF_far v q j (n + 1) 0 0 0 ul k (by omega)]) z14 z15 z72 z73 z74 z75 z76 z77 z78 z79 z80 z81 z82 z83 z84 z85 z86 z87 z88 z89 z90 z91 z92 z93 z94 z95 z96 z97 z98 z99

end Go.Proofs.Ytgkjdfojogemhaa.W
