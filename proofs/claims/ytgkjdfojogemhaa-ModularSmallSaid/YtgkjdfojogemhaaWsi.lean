/-
  The plain law of ModularSmall: what the search finds. Made by program. Conditions: none.
-/
import Derived.Test.YtgkjdfojogemhaaWsh
set_option maxRecDepth 100000
set_option maxHeartbeats 20000000
set_option linter.unusedSimpArgs false
set_option linter.unusedVariables false
namespace Go.Proofs.Ytgkjdfojogemhaa.W
open Go.Am
theorem euc_N {L : Nat} : ∀ (f a b s t : Nat) (p : Bool), euc (L : Int) f (a : Int) (b : Int) (bif p then -(s : Int) else (s : Int)) (bif p then (t : Int) else -(t : Int)) = (((eucN L f a b s t p).1 : Int), (bif (eucN L f a b s t p).2.2 then ((eucN L f a b s t p).2.1 : Int) else -((eucN L f a b s t p).2.1 : Int)))
  | 0, a, b, s, t, p => rfl
  | f + 1, a, b, s, t, p => by
    have e : ∀ S T : Int, euc (L : Int) (f + 1) (a : Int) (b : Int) S T = if (L : Int) < (b : Int) then euc (L : Int) f (b : Int) ((a : Int) % (b : Int)) T (S - (a : Int) / (b : Int) * T) else ((b : Int), T) := fun _ _ => rfl
    rw [e]
    simp only [eucN]
    cases h : Nat.ble b L with
    | true =>
      have h1 := Nat.le_of_ble_eq_true h
      rw [if_neg (by omega)]
    | false =>
      have h1 : ¬ b ≤ L := fun hh => by rw [Nat.ble_eq_true_of_le hh] at h; cases h
      rw [if_pos (by omega)]
      have ih := euc_N (L := L) f b (a % b) t (s + a / b * t) (!p)
      simp only
      rw [← ih, Int.natCast_emod]
      have e1 : (bif !p then -(t : Int) else (t : Int)) = (bif p then (t : Int) else -(t : Int)) := by cases p <;> rfl
      have e2 : (bif !p then ((s + a / b * t : Nat) : Int) else -((s + a / b * t : Nat) : Int)) = (bif p then -(s : Int) else (s : Int)) - (a : Int) / (b : Int) * (bif p then (t : Int) else -(t : Int)) := by
        rw [Int.natCast_add, Int.natCast_mul, Int.natCast_ediv]
        cases p <;> simp only [Bool.not_true, Bool.not_false, cond_true, cond_false, Int.mul_neg] <;> omega
      rw [e1, e2]
theorem eucN_mono {L : Nat} : ∀ (f g a b s t : Nat) (p : Bool), f ≤ g → (eucN L f a b s t p).1 ≤ L → eucN L g a b s t p = eucN L f a b s t p
  | 0, 0, _, _, _, _, _, _, _ => rfl
  | 0, g + 1, a, b, s, t, p, _, h => by
    have hb : Nat.ble b L = true := Nat.ble_eq_true_of_le h
    simp only [eucN, hb]
  | f + 1, 0, _, _, _, _, _, h, _ => absurd h (by omega)
  | f + 1, g + 1, a, b, s, t, p, h, h2 => by
    simp only [eucN] at h2 ⊢
    cases hb : Nat.ble b L with
    | true => rfl
    | false =>
      rw [hb] at h2
      exact eucN_mono f g b (a % b) t (s + a / b * t) (!p) (by omega) h2
theorem sqN_all : (List.range 128).all (fun h => decide (sqN h * sqN h ≤ h ∧ h < (sqN h + 1) * (sqN h + 1))) = true := by kernel_rfl
theorem sqN_ok {h : Nat} (hh : h < 128) : sqN h * sqN h ≤ h ∧ h < (sqN h + 1) * (sqN h + 1) := of_decide_eq_true (List.all_eq_true.mp sqN_all h (List.mem_range.mpr hh))
theorem sq_le {R Q h : Nat} (h1 : R * R ≤ h) (h2 : h < (Q + 1) * (Q + 1)) : R ≤ Q := by
  rcases Nat.lt_or_ge Q R with h3 | h3
  · have := Nat.mul_le_mul (show Q + 1 ≤ R from h3) (show Q + 1 ≤ R from h3)
    omega
  · exact h3
def Hit (V : Int) (k d : Nat) (n : Int) : Prop := ¬ (2 * n * n > (k : Int) - 1) ∧ Nat.gcd d k = 1 ∧ (n ≠ 0 → Nat.gcd d n.natAbs = 1) ∧ (n = 0 → d = 1) ∧ Int.tmod (n - V * (d : Int)) (k : Int) = 0
theorem hitN_iff {k d a : Nat} : hitN k d a = true ↔ 2 * a * a ≤ k - 1 ∧ Nat.gcd d k = 1 ∧ (a = 0 → d = 1) ∧ (a ≠ 0 → Nat.gcd d a = 1) := by
  unfold hitN
  rw [Bool.and_eq_true, Bool.and_eq_true, Nat.ble_eq, Nat.beq_eq]
  cases a with
  | zero => simp [Nat.beq_eq, and_assoc]
  | succ a => simp [Nat.beq_eq, and_assoc]
theorem cong_any {V n : Int} {k d r : Nat} (hk : 0 < k) (hr : V % (k : Int) = (r : Int)) : Int.tmod (n - V * (d : Int)) (k : Int) = 0 ↔ n % (k : Int) = (((r * d) % k : Nat) : Int) := by
  have e1 : Int.tmod (n - V * (d : Int)) (k : Int) = 0 ↔ (n - V * (d : Int)) % (k : Int) = 0 := ⟨fun h => Int.emod_eq_zero_of_dvd (Int.dvd_of_tmod_eq_zero h), fun h => Int.tmod_eq_zero_of_dvd (Int.dvd_of_emod_eq_zero h)⟩
  have e2 : (V * (d : Int)) % (k : Int) = (((r * d) % k : Nat) : Int) := by
    have h := Int.emod_add_mul_ediv V (k : Int)
    rw [hr] at h
    have h2 : V * (d : Int) = ((r * d : Nat) : Int) + (k : Int) * (V / (k : Int) * (d : Int)) := by
      conv => lhs; rw [← h]
      rw [Int.add_mul, Int.mul_assoc, Int.natCast_mul]
    rw [h2, Int.add_mul_emod_self_left, Int.natCast_emod]
  rw [e1, ← e2, Int.emod_eq_emod_iff_emod_sub_eq_zero]
theorem cong_pos {V : Int} {k d r a : Nat} (hr : V % (k : Int) = (r : Int)) (ha : a < k) : Int.tmod ((a : Int) - V * (d : Int)) (k : Int) = 0 ↔ a = (r * d) % k := by
  rw [cong_any (by omega) hr, Int.emod_eq_of_lt (by omega) (by omega)]
  omega
theorem cong_neg {V : Int} {k d r a : Nat} (hr : V % (k : Int) = (r : Int)) (ha : a < k) (h0 : a ≠ 0) : Int.tmod (-(a : Int) - V * (d : Int)) (k : Int) = 0 ↔ k - a = (r * d) % k := by
  have e : (-(a : Int)) % (k : Int) = ((k - a : Nat) : Int) := by
    have e1 : (-(a : Int)) = ((k - a : Nat) : Int) + (k : Int) * (-1) := by omega
    rw [e1, Int.add_mul_emod_self_left, Int.emod_eq_of_lt (by omega) (by omega)]
  rw [cong_any (by omega) hr, e]
  omega
theorem hit_pos {V : Int} {k d r a : Nat} (hk : 1 ≤ k) (hr : V % (k : Int) = (r : Int)) : Hit V k d (a : Int) ↔ hitN k d a = true ∧ a = (r * d) % k := by
  have hsq : 2 * (a : Int) * (a : Int) = ((2 * a * a : Nat) : Int) := by simp [Int.natCast_mul]
  rw [hitN_iff]
  unfold Hit
  rw [hsq, Int.natAbs_natCast]
  have hlt : 2 * a * a ≤ k - 1 → a < k := fun h => by
    rcases Nat.eq_zero_or_pos a with h0 | h0
    · omega
    · have := Nat.le_mul_of_pos_right (2 * a) h0
      omega
  constructor
  · rintro ⟨h1, h2, h3, h4, h5⟩
    have h6 : 2 * a * a ≤ k - 1 := by omega
    exact ⟨⟨h6, h2, fun h => h4 (by omega), fun h => h3 (by omega)⟩, (cong_pos hr (hlt h6)).mp h5⟩
  · rintro ⟨⟨h1, h2, h3, h4⟩, h5⟩
    exact ⟨by omega, h2, fun h => h4 (by omega), fun h => h3 (by omega), (cong_pos hr (hlt h1)).mpr h5⟩
theorem hit_neg {V : Int} {k d r a : Nat} (hk : 1 ≤ k) (hr : V % (k : Int) = (r : Int)) (ha : a ≠ 0) : Hit V k d (-(a : Int)) ↔ hitN k d a = true ∧ k - a = (r * d) % k ∧ a < k := by
  have hsq : 2 * (-(a : Int)) * (-(a : Int)) = ((2 * a * a : Nat) : Int) := by simp [Int.natCast_mul, Int.mul_neg, Int.neg_mul]
  rw [hitN_iff]
  unfold Hit
  rw [hsq, Int.natAbs_neg, Int.natAbs_natCast]
  have hlt : 2 * a * a ≤ k - 1 → a < k := fun h => by
    have := Nat.le_mul_of_pos_right (2 * a) (Nat.pos_of_ne_zero ha)
    omega
  constructor
  · rintro ⟨h1, h2, h3, h4, h5⟩
    have h6 : 2 * a * a ≤ k - 1 := by omega
    exact ⟨⟨h6, h2, fun h => absurd h ha, fun h => h3 (by omega)⟩, (cong_neg hr (hlt h6) ha).mp h5, hlt h6⟩
  · rintro ⟨⟨h1, h2, h3, h4⟩, h5, h6⟩
    exact ⟨by omega, h2, fun h => h4 ha, fun h => absurd h (by omega), (cong_neg hr h6 ha).mpr h5⟩
theorem small_law {V : Int} {k R : Nat} {E : Int × Int} {B T : Int} (hk1 : 1 ≤ k) (hk2 : k ≤ 255) (hR1 : R * R ≤ (k - 1) / 2) (hR2 : (k - 1) / 2 < (R + 1) * (R + 1)) (hE : euc (R : Int) (k + 8) (k : Int) (V % (k : Int)) 0 1 = E) (hBT : (E.2 < 0 ∧ B = -E.1 ∧ T = -E.2) ∨ (¬ E.2 < 0 ∧ B = E.1 ∧ T = E.2)) :
    ((¬ T < 1 ∧ ¬ (R : Int) < T ∧ Nat.gcd T.natAbs k = 1) → ∃ t : Nat, T = (t : Int) ∧ 1 ≤ t ∧ ((2 * t * t : Nat) : Int) ≤ (k : Int) - 1 ∧ -15 ≤ B ∧ B ≤ 15 ∧ Hit V k t B ∧ ∀ (d : Nat) (n : Int), 1 ≤ d → ((2 * d * d : Nat) : Int) ≤ (k : Int) - 1 → Hit V k d n → d = t ∧ n = B) ∧
    ((T < 1 ∨ (R : Int) < T ∨ Nat.gcd T.natAbs k ≠ 1) → ∀ (d : Nat) (n : Int), 1 ≤ d → ((2 * d * d : Nat) : Int) ≤ (k : Int) - 1 → ¬ Hit V k d n) := by
  have hq := sqN_ok (h := (k - 1) / 2) (by omega)
  have hRq : R = sqN ((k - 1) / 2) := Nat.le_antisymm (sq_le hR1 hq.2) (sq_le hq.1 hR2)
  obtain ⟨r, hr⟩ : ∃ r : Nat, V % (k : Int) = (r : Int) := ⟨(V % (k : Int)).toNat, by have := Int.emod_nonneg V (show (k : Int) ≠ 0 by omega); omega⟩
  have hrk : r < k := by have := Int.emod_lt_of_pos V (show (0 : Int) < (k : Int) by omega); omega
  have hc := chk_all hk1 hk2 hrk
  unfold chk at hc
  rw [← hRq] at hc
  have e0 := euc_N (L := R) (k + 8) k r 0 1 true
  have hm := eucN_mono (L := R) 7 (k + 8) k r 0 1 true (by omega)
  rcases hz : eucN R 7 k r 0 1 true with ⟨b, t, p⟩
  rw [hz] at hc hm
  simp only [chkE, Bool.and_eq_true, List.all_eq_true, List.mem_range, Nat.ble_eq] at hc hm
  obtain ⟨⟨hb, hok⟩, hd⟩ := hc
  rw [hm hb] at e0
  simp only [cond_true, Int.natCast_zero, Int.neg_zero, Int.natCast_one] at e0
  have e1 : (euc (R : Int) (k + 8) (k : Int) (V % (k : Int)) 0 1) = ((b : Int), bif p then (t : Int) else -(t : Int)) := by rw [hr]; exact e0
  rw [e1] at hE
  subst hE
  simp only at hBT
  have hR11 : R ≤ 11 := by
    rcases Nat.lt_or_ge R 12 with h | h
    · omega
    · have := Nat.mul_le_mul h h
      omega
  have hT : T = (t : Int) := by cases p <;> simp only [cond_true, cond_false] at hBT <;> omega
  have hB : B = (bif p || Nat.beq b 0 then (b : Int) else -(b : Int)) ∨ t = 0 := by
    cases p
    · simp only [cond_false, Bool.false_or] at hBT ⊢
      rcases Nat.eq_zero_or_pos t with h | h
      · exact .inr h
      · cases h0 : Nat.beq b 0 with
        | true => have := Nat.eq_of_beq_eq_true h0; simp only [cond_true]; omega
        | false => simp only [cond_false]; omega
    · simp only [cond_true, Bool.true_or] at hBT ⊢
      exact .inl (by omega)
  have hokT : okN k R t = true ↔ (¬ T < 1 ∧ ¬ (R : Int) < T ∧ Nat.gcd T.natAbs k = 1) := by
    unfold okN
    rw [hT, Int.natAbs_natCast, Bool.and_eq_true, Bool.and_eq_true, Nat.ble_eq, Nat.ble_eq, Nat.beq_eq]
    constructor
    · rintro ⟨⟨h1, h2⟩, h3⟩; exact ⟨by omega, by omega, h3⟩
    · rintro ⟨h1, h2, h3⟩; exact ⟨⟨by omega, by omega⟩, h3⟩
  -- every fraction that counts
  have hany : ∀ (d : Nat) (n : Int), 1 ≤ d → ((2 * d * d : Nat) : Int) ≤ (k : Int) - 1 → Hit V k d n → okN k R t = true ∧ t = d ∧ n = (bif p || Nat.beq b 0 then (b : Int) else -(b : Int)) := by
    intro d n h1 h2 hh
    have hdR : d ≤ R := sq_le (h := (k - 1) / 2) (by
      have : 2 * d * d = 2 * (d * d) := Nat.mul_assoc 2 d d
      omega) hR2
    have h3 := hd (d - 1) (by omega)
    rw [show d - 1 + 1 = d by omega] at h3
    simp only [chkD, Bool.and_eq_true] at h3
    obtain ⟨g1, g2⟩ := h3
    have hcase : (∃ a : Nat, n = (a : Int)) ∨ (∃ a : Nat, a ≠ 0 ∧ n = -(a : Int)) := by
      rcases Int.lt_or_le n 0 with h | h
      · exact .inr ⟨n.natAbs, by omega, by omega⟩
      · exact .inl ⟨n.natAbs, by omega⟩
    rcases hcase with ⟨a, rfl⟩ | ⟨a, ha, rfl⟩
    · obtain ⟨q1, q2⟩ := (hit_pos hk1 hr).mp hh
      rw [← q2, q1] at g1
      simp only [Bool.not_true, Bool.false_or, Bool.and_eq_true, Nat.beq_eq] at g1
      obtain ⟨⟨⟨g3, g4⟩, g5⟩, g6⟩ := g1
      refine ⟨g3, g4, ?_⟩
      rw [g6, g5]
      rfl
    · obtain ⟨q1, q2, q3⟩ := (hit_neg hk1 hr ha).mp hh
      have q4 : k - (r * d) % k = a := by omega
      rw [q4, q1] at g2
      have q5 : Nat.beq ((r * d) % k) 0 = false := by
        cases h0 : Nat.beq ((r * d) % k) 0 with
        | false => rfl
        | true => have := Nat.eq_of_beq_eq_true h0; omega
      rw [q5] at g2
      simp only [Bool.not_true, Bool.false_or, Bool.and_eq_true, Nat.beq_eq, Bool.not_eq_true'] at g2
      obtain ⟨⟨⟨g3, g4⟩, g5⟩, g6⟩ := g2
      refine ⟨g3, g4, ?_⟩
      have q6 : Nat.beq b 0 = false := by
        cases h0 : Nat.beq b 0 with
        | false => rfl
        | true => have := Nat.eq_of_beq_eq_true h0; omega
      rw [g6, q6, g5]
      rfl
  refine ⟨fun hs => ?_, fun hf d n h1 h2 hh => ?_⟩
  · have ho := hokT.mpr hs
    rw [ho] at hok
    simp only [Bool.not_true, Bool.false_or, Bool.and_eq_true, Nat.beq_eq] at hok
    obtain ⟨k1, k2⟩ := hok
    have hB' : B = (bif p || Nat.beq b 0 then (b : Int) else -(b : Int)) := by
      rcases hB with h | h
      · exact h
      · omega
    have ht2 : ((2 * t * t : Nat) : Int) ≤ (k : Int) - 1 := by
      have h1 : t ≤ R := by omega
      have h2 := Nat.mul_le_mul h1 h1
      have : 2 * t * t = 2 * (t * t) := Nat.mul_assoc 2 t t
      omega
    have hHit : Hit V k t B := by
      rw [hB']
      cases hpb : (p || Nat.beq b 0) with
      | true =>
        rw [hpb] at k2
        simp only [cond_true] at k2 ⊢
        exact (hit_pos hk1 hr).mpr ⟨k1, k2.symm⟩
      | false =>
        rw [hpb] at k2
        simp only [cond_false] at k2 ⊢
        have hb0 : b ≠ 0 := by
          intro h
          subst h
          simp at hpb
        have := Nat.mod_lt (r * t) (show 0 < k by omega)
        have h7 := (hitN_iff.mp k1).1
        have h8 := Nat.le_mul_of_pos_right (2 * b) (Nat.pos_of_ne_zero hb0)
        exact (hit_neg hk1 hr hb0).mpr ⟨k1, by omega, by omega⟩
    have h1t : 1 ≤ t := by have := hs.1; rw [hT] at this; omega
    refine ⟨t, hT, h1t, ht2, ?_, ?_, hHit, fun d n h1 h2 hh => ?_⟩
    · rw [hB']; cases (p || Nat.beq b 0) <;> simp only [cond_true, cond_false] <;> omega
    · rw [hB']; cases (p || Nat.beq b 0) <;> simp only [cond_true, cond_false] <;> omega
    · obtain ⟨_, q2, q3⟩ := hany d n h1 h2 hh
      exact ⟨q2.symm, by rw [q3, hB']⟩
  · have ho := (hany d n h1 h2 hh).1
    have := hokT.mp ho
    rcases hf with h | h | h
    · exact this.1 h
    · exact this.2.1 h
    · exact h this.2.2
end Go.Proofs.Ytgkjdfojogemhaa.W
