/-
  Facts on products of monomials. Conditions: none.
-/
import Derived.Test.YtcnpldkadgloiaaDiv
set_option maxRecDepth 100000
set_option maxHeartbeats 20000000
set_option linter.unusedSimpArgs false
set_option linter.unusedVariables false
namespace Go.Proofs.Ytcnpldkadgloiaa
open Go.Am

def bitN (b : Bool) : Nat := bif b then 1 else 0
def supL : List Bool → Nat
  | [] => 0
  | b :: l => bitN b + 2 * supL l
theorem sup_or : ∀ l m : List Bool, l.length = m.length → supL l ||| supL m = supL (List.zipWith (· || ·) l m)
  | [], [], _ => rfl
  | b :: l, c :: m, h => by
    have ih := sup_or l m (by simpa using h)
    simp only [List.zipWith_cons_cons, supL]
    rw [← ih]
    refine Nat.eq_of_testBit_eq fun i => ?_
    cases i with
    | zero =>
      rw [Nat.testBit_or, Nat.testBit_zero, Nat.testBit_zero, Nat.testBit_zero]
      cases b <;> cases c <;> simp [bitN] <;> omega
    | succ i =>
      rw [Nat.testBit_or, Nat.testBit_succ, Nat.testBit_succ, Nat.testBit_succ]
      have h1 : (bitN b + 2 * supL l) / 2 = supL l := by cases b <;> simp [bitN] <;> omega
      have h2 : (bitN c + 2 * supL m) / 2 = supL m := by cases c <;> simp [bitN] <;> omega
      have h3 : (bitN (b || c) + 2 * (supL l ||| supL m)) / 2 = supL l ||| supL m := by cases b <;> cases c <;> simp [bitN] <;> omega
      rw [h1, h2, h3, Nat.testBit_or]
theorem supL_lt : ∀ l : List Bool, supL l < 2 ^ l.length
  | [] => by decide
  | b :: l => by
    have := supL_lt l
    simp only [supL, List.length_cons, Nat.pow_succ]
    cases b <;> simp [bitN] <;> omega
def supBits (a : Nat → Int) : List Bool := [decide (a 0 > 0), decide (a 1 > 0), decide (a 2 > 0), decide (a 3 > 0), decide (a 4 > 0), decide (a 5 > 0), decide (a 6 > 0), decide (a 7 > 0)]
theorem sup_nat (a : Nat → Int) : supM a = (supL (supBits a) : Nat) := by
  unfold supM supBits
  generalize decide (a 0 > 0) = b0
  generalize decide (a 1 > 0) = b1
  generalize decide (a 2 > 0) = b2
  generalize decide (a 3 > 0) = b3
  generalize decide (a 4 > 0) = b4
  generalize decide (a 5 > 0) = b5
  generalize decide (a 6 > 0) = b6
  generalize decide (a 7 > 0) = b7
  revert b0 b1 b2 b3 b4 b5 b6 b7
  decide +kernel
theorem or_u8 {m n : Nat} (hm : m < 256) (hn : n < 256) : IntKind.wrap .u8 (BitVec.ofInt (IntKind.bits .u8) (m : Int) ||| BitVec.ofInt (IntKind.bits .u8) (n : Int)).toNat = ((m ||| n : Nat) : Int) := by
  have hb : m ||| n < 256 := Nat.or_lt_two_pow (n := 8) hm hn
  have e : (BitVec.ofInt (IntKind.bits .u8) (m : Int) ||| BitVec.ofInt (IntKind.bits .u8) (n : Int)).toNat = m ||| n := by
    rw [BitVec.toNat_or]
    simp only [IntKind.bits, BitVec.ofInt_natCast, BitVec.toNat_ofNat]
    rw [Nat.mod_eq_of_lt (by simpa using hm), Nat.mod_eq_of_lt (by simpa using hn)]
  rw [e]
  simp [IntKind.wrap, IntKind.bits, IntKind.signed]
  omega
theorem sup_add {a b : Nat → Int} (ha : InR a) (hb : InR b) : IntKind.wrap .u8 (BitVec.ofInt (IntKind.bits .u8) (supM a) ||| BitVec.ofInt (IntKind.bits .u8) (supM b)).toNat = supM (addM a b) := by
  have h1 := supL_lt (supBits a)
  have h2 := supL_lt (supBits b)
  rw [sup_nat, sup_nat, sup_nat, or_u8 (by simpa [supBits] using h1) (by simpa [supBits] using h2), sup_or (supBits a) (supBits b) rfl]
  refine congrArg (fun l => ((supL l : Nat) : Int)) ?_
  have e : ∀ i, i < 8 → (decide (a i > 0) || decide (b i > 0)) = decide (addM a b i > 0) := fun i hi => by
    have h1 := ha i hi
    have h2 := hb i hi
    rw [Bool.eq_iff_iff]
    have e1 : addM a b i = a i + b i := rfl
    simp only [Bool.or_eq_true, decide_eq_true_eq]
    omega
  simp only [supBits, List.zipWith_cons_cons, List.zipWith_nil_left, e 0 (by decide), e 1 (by decide), e 2 (by decide), e 3 (by decide), e 4 (by decide), e 5 (by decide), e 6 (by decide), e 7 (by decide)]
theorem add_comm' (a b : Nat → Int) : addM a b = addM b a := funext fun i => by simp only [addM]; omega
theorem add_assoc' (a b c : Nat → Int) : addM (addM a b) c = addM a (addM b c) := funext fun i => by simp only [addM]; omega
theorem sub_add (a b : Nat → Int) : subM (addM a b) b = a := funext fun i => by simp only [addM, subM]; omega
theorem add_zero' (a : Nat → Int) : addM a zeroM = a := funext fun i => by simp only [addM, zeroM]; omega
theorem dvd_add {a b : Nat → Int} (ha : InR a) : dvdB b (addM a b) = true := dvd_iff.mpr fun i hi => by have := ha i hi; simp only [addM]; omega
theorem deg_add (a b : Nat → Int) : degM (addM a b) = degM a + degM b := by simp only [degM, addM]; omega
theorem deg_le {a : Nat → Int} (ha : InR a) : 0 ≤ degM a ∧ degM a ≤ 524280 := by
  have h0 := ha 0 (by decide)
  have h1 := ha 1 (by decide)
  have h2 := ha 2 (by decide)
  have h3 := ha 3 (by decide)
  have h4 := ha 4 (by decide)
  have h5 := ha 5 (by decide)
  have h6 := ha 6 (by decide)
  have h7 := ha 7 (by decide)
  unfold degM; omega
theorem valid_add {a b : Nat → Int} (h : validB (addM a b) = true) (ha : InR a) (hb : InR b) {i : Nat} (hi : i < 8) : decide (IntKind.wrap .i64 (a i + b i) > 65535) = false := by
  have := inr_valid h i hi
  have h1 := ha i hi
  have h2 := hb i hi
  simp only [addM] at this
  rw [wrap64 (by omega) (by omega)]
  simp; omega
theorem ia (a b : Nat → Int) (h : validB (addM a b) = false) (ha : InR a) (hb : InR b) (h0 : decide (IntKind.wrap .i64 (a 0 + b 0) > 65535) = false) (h1 : decide (IntKind.wrap .i64 (a 1 + b 1) > 65535) = false) (h2 : decide (IntKind.wrap .i64 (a 2 + b 2) > 65535) = false) (h3 : decide (IntKind.wrap .i64 (a 3 + b 3) > 65535) = false) (h4 : decide (IntKind.wrap .i64 (a 4 + b 4) > 65535) = false) (h5 : decide (IntKind.wrap .i64 (a 5 + b 5) > 65535) = false) (h6 : decide (IntKind.wrap .i64 (a 6 + b 6) > 65535) = false) : decide (IntKind.wrap .i64 (a 7 + b 7) > 65535) = true := by
  cases h7 : decide (IntKind.wrap .i64 (a 7 + b 7) > 65535) with
  | true => rfl
  | false =>
    have key : ∀ i, i < 8 → decide (IntKind.wrap .i64 (a i + b i) > 65535) = false → 0 ≤ addM a b i ∧ addM a b i ≤ 65535 := fun i hi hd => by
      have q1 := ha i hi
      have q2 := hb i hi
      rw [wrap64 (by omega) (by omega)] at hd
      simp only [decide_eq_false_iff_not] at hd
      simp only [addM]; omega
    have : validB (addM a b) = true := valid_of fun i hi => by
      have : i = 0 ∨ i = 1 ∨ i = 2 ∨ i = 3 ∨ i = 4 ∨ i = 5 ∨ i = 6 ∨ i = 7 := by omega
      rcases this with rfl | rfl | rfl | rfl | rfl | rfl | rfl | rfl <;> exact key _ (by decide) (by assumption)
    rw [h] at this; cases this

end Go.Proofs.Ytcnpldkadgloiaa
