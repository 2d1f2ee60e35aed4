/-
  Facts on divisors of monomials. Conditions: none.
-/
import Derived.Test.YtcnpldkadgloiaaLex
set_option maxRecDepth 100000
set_option maxHeartbeats 20000000
set_option linter.unusedSimpArgs false
set_option linter.unusedVariables false
namespace Go.Proofs.Ytcnpldkadgloiaa
open Go.Am

theorem dvd_refl (a : Nat → Int) : dvdB a a = true := dvd_iff.mpr fun _ _ => Int.le_refl _
theorem zero_dvd {a : Nat → Int} (h : InR a) : dvdB zeroM a = true := dvd_iff.mpr fun i hi => (h i hi).1
theorem dvd_lcm_left (a b : Nat → Int) : dvdB a (lcmM a b) = true := dvd_iff.mpr fun i _ => by rw [lcm_at]; omega
theorem dvd_lcm_right (a b : Nat → Int) : dvdB b (lcmM a b) = true := dvd_iff.mpr fun i _ => by rw [lcm_at]; omega
theorem gcd_dvd_left (a b : Nat → Int) : dvdB (gcdM a b) a = true := dvd_iff.mpr fun i _ => by rw [gcd_at]; omega
theorem gcd_dvd_right (a b : Nat → Int) : dvdB (gcdM a b) b = true := dvd_iff.mpr fun i _ => by rw [gcd_at]; omega
theorem lcm_dvd (a b c : Nat → Int) : dvdB (lcmM a b) c = (dvdB a c && dvdB b c) := by
  rw [Bool.eq_iff_iff, Bool.and_eq_true, dvd_iff, dvd_iff, dvd_iff]
  constructor
  · intro h
    exact ⟨fun i hi => by have := h i hi; rw [lcm_at] at this; omega, fun i hi => by have := h i hi; rw [lcm_at] at this; omega⟩
  · rintro ⟨h1, h2⟩ i hi
    have := h1 i hi
    have := h2 i hi
    rw [lcm_at]; omega
theorem dvd_gcd (a b c : Nat → Int) : dvdB c (gcdM a b) = (dvdB c a && dvdB c b) := by
  rw [Bool.eq_iff_iff, Bool.and_eq_true, dvd_iff, dvd_iff, dvd_iff]
  constructor
  · intro h
    exact ⟨fun i hi => by have := h i hi; rw [gcd_at] at this; omega, fun i hi => by have := h i hi; rw [gcd_at] at this; omega⟩
  · rintro ⟨h1, h2⟩ i hi
    have := h1 i hi
    have := h2 i hi
    rw [gcd_at]; omega
theorem lcm_comm (a b : Nat → Int) : lcmM a b = lcmM b a := funext fun i => by rw [lcm_at, lcm_at]; omega
theorem gcd_comm (a b : Nat → Int) : gcdM a b = gcdM b a := funext fun i => by rw [gcd_at, gcd_at]; omega
theorem lcm_absorb (a b : Nat → Int) : lcmM (lcmM a b) (gcdM a b) = lcmM a b := funext fun i => by rw [lcm_at, lcm_at, gcd_at]; omega
theorem gcd_absorb (a b : Nat → Int) : gcdM (lcmM a b) (gcdM a b) = gcdM a b := funext fun i => by rw [gcd_at, lcm_at, gcd_at]; omega
theorem add_lcm_gcd (a b : Nat → Int) : addM (lcmM a b) (gcdM a b) = addM a b := funext fun i => by simp only [addM, lcm_at, gcd_at]; omega
theorem add_sub (a b : Nat → Int) : addM (subM a b) b = a := funext fun i => by simp only [addM, subM]; omega
theorem valid_of {a : Nat → Int} (h : InR a) : validB a = true := by
  have h0 := h 0 (by decide)
  have h1 := h 1 (by decide)
  have h2 := h 2 (by decide)
  have h3 := h 3 (by decide)
  have h4 := h 4 (by decide)
  have h5 := h 5 (by decide)
  have h6 := h 6 (by decide)
  have h7 := h 7 (by decide)
  simp only [validB, decide_eq_true_eq]; omega
theorem eqE_self (a : Nat → Int) : eqE a a = true := by simp [eqE]
theorem eq_lcm (a b : Nat → Int) : eqE a (lcmM a b) = dvdB b a := by
  have e : ∀ i, (a i = lcmM a b i) = (b i ≤ a i) := fun i => by rw [lcm_at]; exact propext (by omega)
  rw [Bool.eq_iff_iff]
  simp only [eqE, Bool.and_eq_true, beq_iff_eq, e, dvdB, decide_eq_true_eq, and_true]

end Go.Proofs.Ytcnpldkadgloiaa
