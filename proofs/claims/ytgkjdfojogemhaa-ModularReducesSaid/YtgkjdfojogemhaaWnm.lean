/-
  The plain law of reductions modulo a prime. Made by program. Conditions: none.
-/
import Derived.Test.YtgkjdfojogemhaaWnl
import Derived.Test.YtgkjdfojogemhaaInvc
import Derived.Test.YtgkjdfojogemhaaSan
set_option maxRecDepth 100000
set_option maxHeartbeats 20000000
set_option linter.unusedSimpArgs false
set_option linter.unusedVariables false
namespace Go.Proofs.Ytgkjdfojogemhaa.W
open Go.Am


theorem pr_dvd {p d : Nat} (h : Pr p) (hd : d ∣ p) (hlt : d < p) : d = 1 := by
  obtain ⟨h2, _, hall⟩ := h
  obtain ⟨e, he⟩ := hd
  have hd0 : d ≠ 0 := fun h => by rw [h, Nat.zero_mul] at he; omega
  have he0 : e ≠ 0 := fun h => by rw [h, Nat.mul_zero] at he; omega
  have he1 : e ≠ 1 := fun h => by rw [h, Nat.mul_one] at he; omega
  by_cases hd1 : d = 1
  · exact hd1
  · exfalso
    by_cases hde : d ≤ e
    · exact hall d (by omega) (by rw [he]; exact Nat.mul_le_mul_left _ hde) (by rw [he]; exact Nat.mul_mod_right d e)
    · exact hall e (by omega) (by rw [he]; exact Nat.mul_le_mul_right _ (by omega)) (by rw [he]; exact Nat.mul_mod_left d e)

theorem pr_gcd {p a : Nat} (h : Pr p) (h0 : a % p ≠ 0) : Nat.gcd p (a % p) = 1 := by
  have hlt := Nat.mod_lt a (show 0 < p by have := h.1; omega)
  refine pr_dvd h (Nat.gcd_dvd_left _ _) ?_
  have := Nat.le_of_dvd (by omega) (Nat.gcd_dvd_right p (a % p))
  omega

theorem inv_back {p i a0 k : Nat} (h1 : i * a0 % p = 1) (h2 : k * i % p = 1) (hk : k < p) (ha : a0 < p) : k = a0 := by
  have e1 : k * (i * a0) % p = k := by rw [Nat.mul_mod, h1, Nat.mul_one, Nat.mod_mod, Nat.mod_eq_of_lt hk]
  have e2 : k * (i * a0) % p = a0 := by rw [← Nat.mul_assoc, Nat.mul_mod, h2, Nat.one_mul, Nat.mod_mod, Nat.mod_eq_of_lt ha]
  omega

theorem pow_prod {a b p : Nat} : (a % p * (b % p)) ^ 5 % p = (a ^ 5 % p * (b ^ 5 % p)) % p := by
  rw [Nat.mul_pow, Nat.mul_mod, ← Nat.pow_mod, ← Nat.pow_mod]

theorem pow_sum {a n p : Nat} : (a ^ 12 % p * (a ^ n % p)) % p = a ^ (12 + n) % p := by
  rw [← Nat.mul_mod, ← Nat.pow_add]


/-- x is n / d modulo p. -/
def Rd (p : Nat) (n d : Int) (x : Nat) : Prop := x < p ∧ (p : Int) ∣ (x : Int) * d - n
theorem dvd_iff {p : Nat} {a b : Int} : (p : Int) ∣ a - b ↔ a % p = b % p := by
  rw [Int.dvd_iff_emod_eq_zero]
  exact Int.emod_eq_emod_iff_emod_sub_eq_zero.symm
theorem rd_mod {p y : Nat} {n d : Int} (hp : 0 < p) (h : (p : Int) ∣ (y : Int) * d - n) : Rd p n d (y % p) := by
  refine ⟨Nat.mod_lt _ hp, dvd_iff.mpr ?_⟩
  rw [← dvd_iff.mp h, Int.natCast_emod, Int.mul_emod, Int.emod_emod, ← Int.mul_emod]
theorem toNat_mod {p : Nat} (n : Int) (hp : 0 < p) : (((n % (p : Int)).toNat : Nat) : Int) = n % p := Int.toNat_of_nonneg (Int.emod_nonneg n (by omega))
theorem rd_of {p i : Nat} {n d : Int} (hp : 0 < p) (hi : i * ((d % (p : Int)).toNat % p) % p = 1 % p) : Rd p n d ((n % (p : Int)).toNat * i % p) := by
  refine rd_mod hp (dvd_iff.mpr ?_)
  have h1 : ((i : Int) * d) % p = 1 % p := by
    have h2 : ((i * ((d % (p : Int)).toNat % p) % p : Nat) : Int) = ((1 % p : Nat) : Int) := by rw [hi]
    rw [Int.natCast_emod, Int.natCast_mul, Int.natCast_emod, toNat_mod d hp, Int.emod_emod, Int.mul_emod, Int.emod_emod, ← Int.mul_emod, Int.natCast_emod] at h2
    exact h2
  rw [Int.natCast_mul, toNat_mod n hp, Int.mul_assoc, Int.mul_emod, Int.emod_emod, h1, ← Int.mul_emod, Int.mul_one]
theorem eu {p : Nat} (hp : Pr p) {a b : Int} (h : (p : Int) ∣ a * b) : (p : Int) ∣ a ∨ (p : Int) ∣ b := by
  have h1 : p ∣ a.natAbs * b.natAbs := by
    have := Int.natAbs_dvd_natAbs.mpr h
    rwa [Int.natAbs_natCast, Int.natAbs_mul] at this
  by_cases h0 : a.natAbs % p = 0
  · left
    exact Int.ofNat_dvd_left.mpr (Nat.dvd_of_mod_eq_zero h0)
  · right
    have h2 : Nat.Coprime p a.natAbs := by
      have h3 := pr_gcd hp h0
      have h4 : Nat.gcd p a.natAbs = 1 := by
        rw [Nat.gcd_rec, Nat.gcd_comm]
        exact h3
      exact h4
    exact Int.ofNat_dvd_left.mpr (h2.dvd_of_dvd_mul_left h1)
theorem rd_eq {p x y : Nat} (hp : Pr p) {n d : Int} (hd : ¬ (p : Int) ∣ d) (hx : Rd p n d x) (hy : Rd p n d y) : x = y := by
  have h1 : (p : Int) ∣ ((x : Int) - y) * d := by
    have h2 := Int.dvd_sub hx.2 hy.2
    rwa [show (x : Int) * d - n - ((y : Int) * d - n) = ((x : Int) - y) * d by rw [Int.sub_mul]; omega] at h2
  rcases eu hp h1 with h2 | h2
  · have h3 := dvd_iff.mp h2
    rw [Int.emod_eq_of_lt (by omega) (by have := hx.1; omega), Int.emod_eq_of_lt (by omega) (by have := hy.1; omega)] at h3
    omega
  · exact absurd h2 hd
theorem lowG_dvd (n d : Int) : lowG n d ∣ n ∧ lowG n d ∣ d := by
  have h1 : ((Nat.gcd n.natAbs d.natAbs : Nat) : Int) ∣ n := Int.ofNat_dvd_left.mpr (Nat.gcd_dvd_left _ _)
  have h2 : ((Nat.gcd n.natAbs d.natAbs : Nat) : Int) ∣ d := Int.ofNat_dvd_left.mpr (Nat.gcd_dvd_right _ _)
  unfold lowG
  split
  · exact ⟨Int.neg_dvd.mpr h1, Int.neg_dvd.mpr h2⟩
  · exact ⟨h1, h2⟩
theorem rat_mul (n d : Int) : ratN n d * lowG n d = n ∧ ratD n d * lowG n d = d := ⟨Int.ediv_mul_cancel (lowG_dvd n d).1, Int.ediv_mul_cancel (lowG_dvd n d).2⟩
/-- A residue of a number is one of what is left of it in lowest terms. -/
theorem rd_low {p y : Nat} (hp : Pr p) {N E : Int} (hE : ¬ (p : Int) ∣ E) (h : (p : Int) ∣ (y : Int) * E - N) : ¬ (p : Int) ∣ ratD N E ∧ Rd p (ratN N E) (ratD N E) (y % p) := by
  obtain ⟨h1, h2⟩ := rat_mul N E
  have hG : ¬ (p : Int) ∣ lowG N E := fun e => hE (by rw [← h2]; exact Int.dvd_mul_of_dvd_right e)
  refine ⟨fun e => hE (by rw [← h2]; exact Int.dvd_mul_of_dvd_left e), rd_mod (by have := hp.1; omega) ?_⟩
  have h3 : (p : Int) ∣ ((y : Int) * ratD N E - ratN N E) * lowG N E := by
    rw [Int.sub_mul, Int.mul_assoc, h1, h2]
    exact h
  exact (eu hp h3).resolve_right hG
theorem rd_add {p x y : Nat} (hp : Pr p) {a b c d : Int} (hb : ¬ (p : Int) ∣ b) (hd : ¬ (p : Int) ∣ d) (hx : Rd p a b x) (hy : Rd p c d y) : ¬ (p : Int) ∣ ratD (a * d + c * b) (b * d) ∧ Rd p (ratN (a * d + c * b) (b * d)) (ratD (a * d + c * b) (b * d)) ((x + y) % p) := by
  refine rd_low hp (fun e => (eu hp e).elim hb hd) ?_
  have h1 : (((x + y : Nat) : Int)) * (b * d) - (a * d + c * b) = ((x : Int) * b - a) * d + ((y : Int) * d - c) * b := by
    rw [Int.natCast_add, Int.add_mul, Int.sub_mul, Int.sub_mul, Int.mul_assoc, Int.mul_assoc, Int.mul_comm d b]
    omega
  rw [h1]
  exact Int.dvd_add (Int.dvd_mul_of_dvd_left hx.2) (Int.dvd_mul_of_dvd_left hy.2)
theorem rd_mul {p x y : Nat} (hp : Pr p) {a b c d : Int} (hb : ¬ (p : Int) ∣ b) (hd : ¬ (p : Int) ∣ d) (hx : Rd p a b x) (hy : Rd p c d y) : ¬ (p : Int) ∣ ratD (a * c) (b * d) ∧ Rd p (ratN (a * c) (b * d)) (ratD (a * c) (b * d)) (x * y % p) := by
  refine rd_low hp (fun e => (eu hp e).elim hb hd) ?_
  have h1 : (((x * y : Nat) : Int)) * (b * d) - a * c = ((x : Int) * b - a) * ((y : Int) * d) + ((y : Int) * d - c) * a := by
    have e1 : (x : Int) * y * (b * d) = (x * b) * (y * d) := by rw [Int.mul_assoc, Int.mul_left_comm (y : Int) b d, ← Int.mul_assoc]
    rw [Int.natCast_mul, e1, Int.sub_mul, Int.sub_mul, Int.mul_comm ((y : Int) * d) a, Int.mul_comm c a]
    omega
  rw [h1]
  exact Int.dvd_add (Int.dvd_mul_of_dvd_left hx.2) (Int.dvd_mul_of_dvd_left hy.2)
theorem rd_back {p x : Nat} (hp : 0 < p) {n d : Int} (hx : Rd p n d x) : (d % (p : Int)).toNat * x % p = (n % (p : Int)).toNat := by
  have h1 : (((d % (p : Int)).toNat * x % p : Nat) : Int) = (((n % (p : Int)).toNat : Nat) : Int) := by
    rw [Int.natCast_emod, Int.natCast_mul, toNat_mod d hp, toNat_mod n hp, Int.mul_emod, Int.emod_emod, ← Int.mul_emod, Int.mul_comm]
    exact dvd_iff.mp hx.2
  exact Int.natCast_inj.mp h1

end Go.Proofs.Ytgkjdfojogemhaa.W
