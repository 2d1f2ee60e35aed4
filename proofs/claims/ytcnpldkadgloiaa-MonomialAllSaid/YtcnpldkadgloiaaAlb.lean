/-
  What the list of all monomials of a degree holds. Conditions: none.
-/
import Derived.Test.YtcnpldkadgloiaaAla
import Derived.Test.YtcnpldkadgloiaaLex
set_option maxRecDepth 100000
set_option maxHeartbeats 20000000
set_option linter.unusedSimpArgs false
set_option linter.unusedVariables false
namespace Go.Proofs.Ytcnpldkadgloiaa
open Go.Am

def sumF (g : Nat → Int) : Nat → Nat → Int
  | _, 0 => 0
  | i, k + 1 => g i + sumF g (i + 1) k

theorem sum_congr {g h : Nat → Int} : ∀ k i, (∀ j, i ≤ j → j < i + k → g j = h j) → sumF g i k = sumF h i k
  | 0, _, _ => rfl
  | k + 1, i, e => by
    simp only [sumF]
    rw [e i (Nat.le_refl _) (by omega), sum_congr k (i + 1) fun j h1 h2 => e j (by omega) (by omega)]

theorem sum_nonneg {g : Nat → Int} : ∀ k i, (∀ j, i ≤ j → j < i + k → 0 ≤ g j) → 0 ≤ sumF g i k ∧ ∀ j, i ≤ j → j < i + k → g j ≤ sumF g i k
  | 0, i, _ => ⟨Int.le_refl 0, fun j h1 h2 => by omega⟩
  | k + 1, i, e => by
    have h0 := e i (Nat.le_refl _) (by omega)
    have ih := sum_nonneg k (i + 1) fun j h1 h2 => e j (by omega) (by omega)
    simp only [sumF]
    refine ⟨by omega, fun j h1 h2 => ?_⟩
    by_cases hj : j = i
    · subst hj; omega
    · have := ih.2 j (by omega) (by omega); omega

theorem sum_add (g : Nat → Int) : ∀ a i b, sumF g i (a + b) = sumF g i a + sumF g (i + a) b
  | 0, i, b => by simp [sumF]
  | a + 1, i, b => by
    rw [show a + 1 + b = (a + b) + 1 from by omega]
    simp only [sumF]
    rw [sum_add g a (i + 1) b, show i + 1 + a = i + (a + 1) from by omega, Int.add_assoc]

theorem sum_zero {g : Nat → Int} : ∀ k i, (∀ j, i ≤ j → j < i + k → g j = 0) → sumF g i k = 0
  | 0, _, _ => rfl
  | k + 1, i, e => by
    simp only [sumF]
    rw [e i (Nat.le_refl _) (by omega), sum_zero k (i + 1) fun j h1 h2 => e j (by omega) (by omega)]
    rfl

theorem set_same (f : Nat → Int) (i : Nat) (e : Int) : setM f i e i = e := by simp [setM]
theorem set_other {f : Nat → Int} {i j : Nat} {e : Int} (h : j ≠ i) : setM f i e j = f j := by
  unfold setM
  have : Nat.beq j i = false := by
    cases hb : Nat.beq j i with
    | false => rfl
    | true => exact absurd (Nat.eq_of_beq_eq_true hb) h
  rw [this]
  rfl

theorem sum_set {f : Nat → Int} {j : Nat} {e : Int} : ∀ k i, i ≤ j → j < i + k → sumF (setM f j e) i k = sumF f i k - f j + e
  | 0, i, h1, h2 => by omega
  | k + 1, i, h1, h2 => by
    simp only [sumF]
    by_cases hj : j = i
    · subst hj
      rw [set_same, sum_congr (h := f) k (j + 1) fun a ha hb => set_other (f := f) (i := j) (e := e) (by omega)]
      omega
    · rw [set_other (by omega), sum_set k (i + 1) (by omega) (by omega)]
      omega

def cntL (G : Nat → Nat) (left : Nat) : Nat → Nat
  | 0 => G left
  | e + 1 => G (left - (e + 1)) + cntL G left e
def cnt : Nat → Nat → Nat
  | 0, _ => 1
  | r + 1, left => cntL (cnt r) left left

/-- What the new part of the list holds. -/
structure FS (r i : Nat) (left top : Int) (f f' : Nat → Int) (new : List (Nat → Int)) : Prop where
  out : ∀ j, j < i ∨ i + r < j → f' j = f j
  each : ∀ x ∈ new, (∀ j, j < i ∨ i + r < j → x j = f j) ∧ (∀ j, i ≤ j → j ≤ i + r → 0 ≤ x j) ∧ sumF x i (r + 1) = left ∧ x i ≤ top
  sorted : new.Pairwise fun x y => 0 < lexF x y i (r + 1)
  all : ∀ g : Nat → Int, (∀ j, i ≤ j → j ≤ i + r → 0 ≤ g j) → sumF g i (r + 1) = left → g i ≤ top → ∃ x ∈ new, ∀ j, i ≤ j → j ≤ i + r → x j = g j

def FillS (r i : Nat) (G : Nat → (Nat → Int) × List (Nat → Int) → (Nat → Int) × List (Nat → Int)) : Prop :=
  ∀ (left : Nat) (f : Nat → Int) (l : List (Nat → Int)), ∃ new, (G left (f, l)).2 = l ++ new ∧ new.length = cnt r left ∧ FS r i left left f (G left (f, l)).1 new

theorem step_fs {r i : Nat} {left e : Nat} {f f' : Nat → Int} {new : List (Nat → Int)} (h : FS r (i + 1) ((left - e : Nat) : Int) ((left - e : Nat) : Int) (setM f i e) f' new) (he : e ≤ left) :
    (∀ j, j < i ∨ i + (r + 1) < j → f' j = f j) ∧ (∀ x ∈ new, (∀ j, j < i ∨ i + (r + 1) < j → x j = f j) ∧ (∀ j, i ≤ j → j ≤ i + (r + 1) → 0 ≤ x j) ∧ sumF x i (r + 1 + 1) = left ∧ x i = e) ∧
    (new.Pairwise fun x y => 0 < lexF x y i (r + 1 + 1)) ∧
    ∀ g : Nat → Int, (∀ j, i ≤ j → j ≤ i + (r + 1) → 0 ≤ g j) → sumF g i (r + 1 + 1) = left → g i = e → ∃ x ∈ new, ∀ j, i ≤ j → j ≤ i + (r + 1) → x j = g j := by
  have hxi : ∀ x ∈ new, x i = e := fun x hx => by rw [(h.each x hx).1 i (.inl (by omega)), set_same]
  refine ⟨fun j hj => ?_, fun x hx => ?_, ?_, fun g h1 h2 h3 => ?_⟩
  · rw [h.out j (by omega), set_other (by omega)]
  · obtain ⟨a, b, c, _⟩ := h.each x hx
    have e0 := hxi x hx
    refine ⟨fun j hj => ?_, fun j h1 h2 => ?_, ?_, e0⟩
    · rw [a j (by omega), set_other (by omega)]
    · by_cases hj : j = i
      · subst hj; rw [e0]; omega
      · exact b j (by omega) (by omega)
    · show x i + sumF x (i + 1) (r + 1) = _
      rw [e0, c]
      omega
  · refine List.Pairwise.imp_of_mem (fun {x y} hx hy hxy => ?_) h.sorted
    show 0 < lexF x y i (r + 1 + 1)
    rw [lexF, hxi x hx, hxi y hy, if_neg (by omega), if_neg (by omega)]
    exact hxy
  · have hs : sumF g (i + 1) (r + 1) = ((left - e : Nat) : Int) := by
      have : sumF g i (r + 1 + 1) = g i + sumF g (i + 1) (r + 1) := rfl
      omega
    have hn := sum_nonneg (g := g) (r + 1) (i + 1) fun j a b => h1 j (by omega) (by omega)
    obtain ⟨x, hx, hxg⟩ := h.all g (fun j a b => h1 j (by omega) (by omega)) hs (by rw [← hs]; exact hn.2 (i + 1) (Nat.le_refl _) (by omega))
    refine ⟨x, hx, fun j a b => ?_⟩
    by_cases hj : j = i
    · subst hj; rw [hxi x hx, h3]
    · exact hxg j (by omega) (by omega)

theorem loop_fs {r i : Nat} {G : Nat → (Nat → Int) × List (Nat → Int) → (Nat → Int) × List (Nat → Int)} (hG : FillS r (i + 1) G) {left : Nat} : ∀ (e : Nat) (f : Nat → Int) (l : List (Nat → Int)), e ≤ left →
    ∃ new, (loopF G i left e (f, l)).2 = l ++ new ∧ new.length = cntL (cnt r) left e ∧ FS (r + 1) i left e f (loopF G i left e (f, l)).1 new
  | 0, f, l, he => by
    obtain ⟨new, h1, h2, h3⟩ := hG left (setM f i 0) l
    have hh := step_fs (left := left) (e := 0) h3 he
    simp only [loopF]
    refine ⟨new, h1, by rw [cntL]; exact h2, hh.1, fun x hx => ?_, hh.2.2.1, fun g a b c => ?_⟩
    · obtain ⟨p, q, s, t⟩ := hh.2.1 x hx
      exact ⟨p, q, s, by omega⟩
    · exact hh.2.2.2 g a b (by have := a i (Nat.le_refl _) (by omega); omega)
  | e + 1, f, l, he => by
    obtain ⟨new1, h1, h2, h3⟩ := hG (left - (e + 1)) (setM f i ((e + 1 : Nat) : Int)) l
    have hh := step_fs (left := left) (e := e + 1) h3 he
    have hq : G (left - (e + 1)) (setM f i ((e + 1 : Nat) : Int), l) = ((G (left - (e + 1)) (setM f i ((e + 1 : Nat) : Int), l)).1, l ++ new1) := by rw [← h1]
    obtain ⟨new2, k1, k2, k3⟩ := loop_fs hG (left := left) e (G (left - (e + 1)) (setM f i ((e + 1 : Nat) : Int), l)).1 (l ++ new1) (by omega)
    simp only [loopF]
    rw [hq]
    refine ⟨new1 ++ new2, by rw [k1, List.append_assoc], by rw [List.length_append, h2, k2, cntL], fun j hj => ?_, fun x hx => ?_, ?_, fun g a b c => ?_⟩
    · rw [k3.out j hj]; exact hh.1 j hj
    · rcases List.mem_append.mp hx with hx | hx
      · obtain ⟨p, q, s, t⟩ := hh.2.1 x hx
        exact ⟨p, q, s, by omega⟩
      · obtain ⟨p, q, s, t⟩ := k3.each x hx
        exact ⟨fun j hj => by rw [p j hj]; exact hh.1 j hj, q, s, by omega⟩
    · refine List.pairwise_append.mpr ⟨hh.2.2.1, k3.sorted, fun x hx y hy => ?_⟩
      have a1 := (hh.2.1 x hx).2.2.2
      have a2 := (k3.each y hy).2.2.2
      show 0 < lexF x y i (r + 1 + 1)
      rw [lexF, if_neg (by omega), if_pos (by omega)]
      decide
    · by_cases hg : g i = ((e + 1 : Nat) : Int)
      · obtain ⟨x, hx, hxg⟩ := hh.2.2.2 g a b hg
        exact ⟨x, List.mem_append.mpr (.inl hx), hxg⟩
      · obtain ⟨x, hx, hxg⟩ := k3.all g a b (by omega)
        exact ⟨x, List.mem_append.mpr (.inr hx), hxg⟩

theorem fill_fs : ∀ r i, FillS r i (fillF r i)
  | 0, i => fun left f l => ⟨[setM f i left], rfl, by rw [cnt]; rfl, fun j hj => set_other (by omega),
      fun x hx => by
        rw [List.mem_singleton] at hx
        subst hx
        refine ⟨fun j hj => set_other (by omega), fun j h1 h2 => ?_, ?_, ?_⟩
        · rw [show j = i from by omega, set_same]; omega
        · show setM f i left i + 0 = _
          rw [set_same]; omega
        · rw [set_same]; omega,
      List.pairwise_singleton _ _,
      fun g a b c => ⟨_, List.mem_singleton.mpr rfl, fun j h1 h2 => by
        have b : g i + 0 = left := b
        rw [show j = i from by omega, set_same]; omega⟩⟩
  | r + 1, i => fun left f l => by
    obtain ⟨new, h1, h2, h3⟩ := loop_fs (fill_fs r (i + 1)) (left := left) left f l (Nat.le_refl _)
    exact ⟨new, h1, by rw [cnt]; exact h2, h3⟩

theorem lex_prefix (a b : Nat → Int) : ∀ k i k', 0 < lexF a b i k → lexF a b i (k + k') = lexF a b i k
  | 0, i, k', h => by simp [lexF] at h
  | k + 1, i, k', h => by
    rw [show k + 1 + k' = (k + k') + 1 from by omega]
    simp only [lexF] at h ⊢
    split
    · rfl
    · rename_i h1
      rw [if_neg h1] at h
      split
      · rfl
      · rename_i h2
        rw [if_neg h2] at h
        exact lex_prefix a b k (i + 1) k' h

theorem deg_sum (a : Nat → Int) : degM a = sumF a 0 8 := by
  show degM a = a 0 + (a 1 + (a 2 + (a 3 + (a 4 + (a 5 + (a 6 + (a 7 + 0)))))))
  unfold degM
  omega

theorem valid_of {a : Nat → Int} (h : InR a) : validB a = true := by
  have h0 := h 0 (by decide); have h1 := h 1 (by decide); have h2 := h 2 (by decide); have h3 := h 3 (by decide)
  have h4 := h 4 (by decide); have h5 := h 5 (by decide); have h6 := h 6 (by decide); have h7 := h 7 (by decide)
  exact decide_eq_true ⟨h0.1, h0.2, h1.1, h1.2, h2.1, h2.2, h3.1, h3.2, h4.1, h4.2, h5.1, h5.2, h6.1, h6.2, h7.1, h7.2⟩

theorem getD_mem {l : List (Nat → Int)} {i : Nat} (h : i < l.length) : l.getD i zeroM ∈ l := by
  rw [List.getD_eq_getElem?_getD, List.getElem?_eq_getElem h]
  exact List.getElem_mem h

theorem cnt_small : ∀ n, n < 9 → ∀ d, d < 13 → n ≠ 0 → cnt (n - 1) d < 1000000 := by decide +kernel

theorem all_spec {n d : Nat} (hn : n < 8) (hd : d ≤ 12) : ∃ f', FS n 0 d d zeroM f' (allF (n + 1) d) ∧ (allF (n + 1) d).length = cnt n d := by
  obtain ⟨new, h1, h2, h3⟩ := fill_fs n 0 d zeroM []
  have : allF (n + 1) d = new := h1
  rw [this]
  exact ⟨_, h3, h2⟩

theorem good_all {n d : Nat} (hn : n ≤ 8) (hd : d ≤ 12) : GoodL (allF n d) n d := by
  cases n with
  | zero =>
    cases d with
    | zero => exact ⟨fun i hi => by
        have : i = 0 := by simp only [allF, List.length_singleton] at hi; omega
        subst this
        exact ⟨inr_zero, rfl, rfl, fun _ _ _ => rfl⟩, fun i hi => by simp only [allF, List.length_singleton] at hi; omega, by decide⟩
    | succ d => exact ⟨fun i hi => absurd hi (Nat.not_lt_zero _), fun i hi => absurd hi (Nat.not_lt_zero _), show 0 < 1000000 by decide⟩
  | succ n =>
    obtain ⟨f', h, hc⟩ := all_spec (n := n) (d := d) (by omega) hd
    refine ⟨fun i hi => ?_, fun i hi => ?_, by rw [hc]; exact cnt_small (n + 1) (by omega) d (by omega) (by omega)⟩
    · obtain ⟨a, b, c, _⟩ := h.each _ (getD_mem hi)
      have hz : ∀ j, n + 1 ≤ j → j < 8 → (allF (n + 1) d).getD i zeroM j = 0 := fun j h1 h2 => a j (.inr (by omega))
      have hs := sum_nonneg (g := (allF (n + 1) d).getD i zeroM) (n + 1) 0 fun j h1 h2 => b j h1 (by omega)
      have hr : InR ((allF (n + 1) d).getD i zeroM) := fun j hj => by
        by_cases h1 : j < n + 1
        · have h2 := b j (Nat.zero_le _) (by omega)
          have h3 := hs.2 j (Nat.zero_le _) (by omega)
          rw [c] at h3
          omega
        · rw [hz j (by omega) hj]; decide
      refine ⟨hr, ?_, valid_of hr, hz⟩
      rw [deg_sum, show (8 : Nat) = (n + 1) + (7 - n) from by omega, sum_add, c, sum_zero (7 - n) (0 + (n + 1)) fun j h1 h2 => hz j (by omega) (by omega)]
      omega
    · have hp := List.pairwise_iff_getElem.mp h.sorted i (i + 1) (by omega) hi (by omega)
      have e1 : (allF (n + 1) d).getD i zeroM = (allF (n + 1) d)[i]'(by omega) := by
        rw [List.getD_eq_getElem?_getD, List.getElem?_eq_getElem (by omega)]; rfl
      have e2 : (allF (n + 1) d).getD (i + 1) zeroM = (allF (n + 1) d)[i + 1]'hi := by
        rw [List.getD_eq_getElem?_getD, List.getElem?_eq_getElem hi]; rfl
      rw [e1, e2, cmp_lex, show (8 : Nat) = (n + 1) + (7 - n) from by omega, lex_prefix _ _ _ _ _ hp]
      exact hp

theorem made_spec {y : Nat → Int} (hy : InR y) : ∀ (r i : Nat) (left : Int) (m : Nat → Int), i + r ≤ 8 → 0 ≤ left →
    (∀ j, j < i ∨ i + r ≤ j → (madeR y r i left m).1 j = m j) ∧ (∀ j, i ≤ j → j < i + r → 0 ≤ (madeR y r i left m).1 j) ∧ sumF (madeR y r i left m).1 i r + (madeR y r i left m).2 = left ∧ 0 ≤ (madeR y r i left m).2
  | 0, i, left, m, h8, hl => ⟨fun _ _ => rfl, fun j h1 h2 => by omega, by simp [sumF, madeR], hl⟩
  | r + 1, i, left, m, h8, hl => by
    have ht := tmod_in (hy i (by omega)).1 hl
    obtain ⟨a, b, c, d⟩ := made_spec hy r (i + 1) (left - Int.tmod (y i) (left + 1)) (setM m i (Int.tmod (y i) (left + 1))) (by omega) (by omega)
    simp only [madeR]
    have hi := a i (.inl (by omega))
    rw [set_same] at hi
    refine ⟨fun j hj => ?_, fun j h1 h2 => ?_, ?_, d⟩
    · rw [a j (by omega), set_other (by omega)]
    · by_cases hj : j = i
      · subst hj; rw [hi]; exact ht.1
      · exact b j (by omega) (by omega)
    · simp only [sumF]
      rw [hi]
      omega

theorem any_of {l : List (Nat → Int)} {m : Nat → Int} : ∀ (r i : Nat), (∃ j, i ≤ j ∧ j < i + r ∧ eqE (l.getD j zeroM) m = true) → anyE l m i r = true
  | 0, i, ⟨j, h1, h2, _⟩ => by omega
  | r + 1, i, ⟨j, h1, h2, h3⟩ => by
    simp only [anyE]
    by_cases hj : j = i
    · subst hj; rw [h3]; rfl
    · rw [any_of r (i + 1) ⟨j, by omega, by omega, h3⟩, Bool.or_true]

theorem eqE_of {a b : Nat → Int} (h : ∀ j, j < 8 → a j = b j) : eqE a b = true := by
  unfold eqE
  rw [h 0 (by decide), h 1 (by decide), h 2 (by decide), h 3 (by decide), h 4 (by decide), h 5 (by decide), h 6 (by decide), h 7 (by decide)]
  simp

theorem found_all {n d : Nat} {y : Nat → Int} (hy : InR y) (hn : n ≤ 8) (hd : d ≤ 12) : (((n : Int) == 0) || anyE (allF n d) (wanted y n d) 0 (allF n d).length) = true := by
  cases n with
  | zero => rfl
  | succ n =>
    rw [show (((n + 1 : Nat) : Int) == 0) = false from by simp; omega, Bool.false_or]
    obtain ⟨f', h, hc⟩ := all_spec (n := n) (d := d) (by omega) hd
    obtain ⟨a, b, c, e⟩ := made_spec hy (n + 1) 0 d zeroM (by omega) (by omega)
    have hs := sum_nonneg (g := (madeR y (n + 1) 0 d zeroM).1) (n + 1) 0 fun j h1 h2 => b j h1 (by omega)
    have hb := hs.2 n (Nat.zero_le _) (by omega)
    have hb0 := b n (Nat.zero_le _) (by omega)
    have hw : IntKind.wrap .i64 ((madeR y (n + 1) 0 d zeroM).1 (n + 1 - 1) + (madeR y (n + 1) 0 d zeroM).2) = (madeR y (n + 1) 0 d zeroM).1 n + (madeR y (n + 1) 0 d zeroM).2 := by
      rw [Nat.add_sub_cancel]
      exact wrap64 (by omega) (by omega)
    have hwd : wanted y (n + 1) d = setM (madeR y (n + 1) 0 d zeroM).1 n ((madeR y (n + 1) 0 d zeroM).1 n + (madeR y (n + 1) 0 d zeroM).2) := by
      unfold wanted
      rw [hw, Nat.add_sub_cancel]
    have h0 : ∀ j, 0 ≤ j → j ≤ 0 + n → 0 ≤ wanted y (n + 1) d j := fun j h1 h2 => by
      rw [hwd]
      by_cases hj : j = n
      · subst hj; rw [set_same]; omega
      · rw [set_other hj]; exact b j h1 (by omega)
    have h1 : sumF (wanted y (n + 1) d) 0 (n + 1) = d := by
      rw [hwd, sum_set (n + 1) 0 (Nat.zero_le _) (by omega)]
      omega
    have h2 := sum_nonneg (g := wanted y (n + 1) d) (n + 1) 0 fun j a b => h0 j a (by omega)
    rw [h1] at h2
    obtain ⟨x, hx, hxg⟩ := h.all (wanted y (n + 1) d) h0 h1 (h2.2 0 (Nat.le_refl _) (by omega))
    obtain ⟨k, hk, rfl⟩ := List.getElem_of_mem hx
    refine any_of _ _ ⟨k, Nat.zero_le _, by omega, eqE_of fun j hj => ?_⟩
    have e2 : (allF (n + 1) d).getD k zeroM = (allF (n + 1) d)[k]'hk := by
      rw [List.getD_eq_getElem?_getD, List.getElem?_eq_getElem hk]; rfl
    rw [e2]
    by_cases hj2 : j ≤ n
    · exact hxg j (Nat.zero_le _) (by omega)
    · rw [(h.each _ (List.getElem_mem hk)).1 j (.inr (by omega)), hwd, set_other (by omega), a j (.inr (by omega))]

theorem many_cnt : ∀ n : Nat, n < 9 → ∀ d : Nat, d < 13 → n ≠ 0 → (n ≤ 4 ∨ d < 5) → manyR (d : Int) (n - 1) 1 1 = (cnt (n - 1) d : Int) := by decide +kernel

theorem many_all {n d : Nat} (hn : n ≤ 8) (hd : d ≤ 12) (h : n ≤ 4 ∨ d < 5) (h0 : ¬ (n = 0 ∧ 0 < d)) : manyR (d : Int) (n - 1) 1 1 = ((allF n d).length : Int) := by
  cases n with
  | zero =>
    have : d = 0 := by omega
    subst this
    rfl
  | succ n =>
    obtain ⟨f', _, hc⟩ := all_spec (n := n) (d := d) (by omega) hd
    rw [hc]
    exact many_cnt (n + 1) (by omega) d (by omega) (by omega) h

theorem none_all {n d : Nat} (h : n = 0) (hd : 0 < d) : (allF n d).length = 0 := by
  subst h
  cases d with
  | zero => omega
  | succ d => rfl

end Go.Proofs.Ytcnpldkadgloiaa
