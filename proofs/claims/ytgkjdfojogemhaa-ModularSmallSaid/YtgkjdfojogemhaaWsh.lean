/-
  The plain law of ModularSmall: every fraction that counts is the one that is rebuilt. Made by program. Conditions: none.
-/
import Derived.Test.YtgkjdfojogemhaaWsg
set_option maxRecDepth 100000
set_option maxHeartbeats 20000000
set_option linter.unusedSimpArgs false
set_option linter.unusedVariables false
namespace Go.Proofs.Ytgkjdfojogemhaa.W
open Go.Am
def eucN (L : Nat) : Nat → Nat → Nat → Nat → Nat → Bool → Nat × Nat × Bool
  | 0, _, b, _, t, p => (b, t, p)
  | f + 1, a, b, s, t, p => match Nat.ble b L with
    | true => (b, t, p)
    | false => eucN L f b (a % b) t (s + a / b * t) (!p)
def sqN (h : Nat) : Nat := (List.range 12).foldl (fun a i => bif Nat.ble (i * i) h then i else a) 0
def hitN (k d n : Nat) : Bool := Nat.ble (2 * n * n) (k - 1) && Nat.beq (Nat.gcd d k) 1 && (bif Nat.beq n 0 then Nat.beq d 1 else Nat.beq (Nat.gcd d n) 1)
def okN (k R t : Nat) : Bool := Nat.ble 1 t && Nat.ble t R && Nat.beq (Nat.gcd t k) 1
def chkD (k r R b t : Nat) (p ok : Bool) (d : Nat) : Bool :=
  (!hitN k d ((r * d) % k) || (ok && Nat.beq t d && Nat.beq b ((r * d) % k) && (p || Nat.beq b 0))) && (Nat.beq ((r * d) % k) 0 || !hitN k d (k - (r * d) % k) || (ok && Nat.beq t d && Nat.beq b (k - (r * d) % k) && !p))
def chkE (k r R b t : Nat) (p : Bool) : Bool := Nat.ble b R && (!okN k R t || (hitN k t b && Nat.beq ((r * t) % k) (bif p || Nat.beq b 0 then b else k - b))) && (List.range R).all fun d => chkD k r R b t p (okN k R t) (d + 1)
def chk (k r : Nat) : Bool := match eucN (sqN ((k - 1) / 2)) 7 k r 0 1 true with
  | (b, t, p) => chkE k r (sqN ((k - 1) / 2)) b t p
theorem chk_0 : (List.range 70).all (fun k => (List.range (1 + k)).all (chk (1 + k))) = true := by kernel_rfl
theorem chk_1 : (List.range 45).all (fun k => (List.range (71 + k)).all (chk (71 + k))) = true := by kernel_rfl
theorem chk_2 : (List.range 35).all (fun k => (List.range (116 + k)).all (chk (116 + k))) = true := by kernel_rfl
theorem chk_3 : (List.range 30).all (fun k => (List.range (151 + k)).all (chk (151 + k))) = true := by kernel_rfl
theorem chk_4 : (List.range 25).all (fun k => (List.range (181 + k)).all (chk (181 + k))) = true := by kernel_rfl
theorem chk_5 : (List.range 25).all (fun k => (List.range (206 + k)).all (chk (206 + k))) = true := by kernel_rfl
theorem chk_6 : (List.range 25).all (fun k => (List.range (231 + k)).all (chk (231 + k))) = true := by kernel_rfl
theorem chk_all {k r : Nat} (h1 : 1 ≤ k) (h2 : k ≤ 255) (hr : r < k) : chk k r = true := by
  have key : ∀ a n : Nat, (List.range n).all (fun k => (List.range (a + k)).all (chk (a + k))) = true → a ≤ k → k < a + n → chk k r = true := by
    intro a n h ha hb
    have h3 := List.all_eq_true.mp h (k - a) (List.mem_range.mpr (by omega))
    rw [show a + (k - a) = k by omega] at h3
    exact List.all_eq_true.mp h3 r (List.mem_range.mpr hr)
  by_cases c0 : k ≤ 70
  · exact key 1 70 chk_0 (by omega) (by omega)
  by_cases c1 : k ≤ 115
  · exact key 71 45 chk_1 (by omega) (by omega)
  by_cases c2 : k ≤ 150
  · exact key 116 35 chk_2 (by omega) (by omega)
  by_cases c3 : k ≤ 180
  · exact key 151 30 chk_3 (by omega) (by omega)
  by_cases c4 : k ≤ 205
  · exact key 181 25 chk_4 (by omega) (by omega)
  by_cases c5 : k ≤ 230
  · exact key 206 25 chk_5 (by omega) (by omega)
  by_cases c6 : k ≤ 255
  · exact key 231 25 chk_6 (by omega) (by omega)
  omega
end Go.Proofs.Ytgkjdfojogemhaa.W
