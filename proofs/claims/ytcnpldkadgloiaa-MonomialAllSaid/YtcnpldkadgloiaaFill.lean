/-
  All monomials of a degree: the walk through the function that fills the list. Conditions: none.
-/
import Derived.Test.YtcnpldkadgloiaaMona
set_option maxRecDepth 100000
set_option maxHeartbeats 20000000
set_option linter.unusedSimpArgs false
set_option linter.unusedVariables false
namespace Go.Proofs.Ytcnpldkadgloiaa
open Go.Am

def setM (f : Nat → Int) (i : Nat) (e : Int) : Nat → Int := fun j => bif Nat.beq j i then e else f j
abbrev caps : List AV := [.ptr 0 0 0, .ptr 3 3 0, .ptr 4 4 0, .ptr 2 2 0]

/-- The memory while the list is filled. -/
def Mk (n : Nat) (f : Nat → Int) (S : AV) (rest : List Blk) (N : Nat) : Mem :=
  ⟨.row [J n] 0 .ow none :: .row [] 1 .ow none :: .row [S] 2 .ow none :: .row (Mc f) 3 .ow none :: .row [.fn 44 caps] 4 .ow none :: rest, N⟩

def cellsL : List (Nat → Int) → List AV
  | [] => []
  | f :: l => Mc f ++ cellsL l

theorem cellsL_len : ∀ l, (cellsL l).length = l.length * 8
  | [] => rfl
  | f :: l => by simp only [cellsL, List.length_append, cellsL_len l, List.length_cons]; simp [Mc]; omega

theorem cellsL_snoc : ∀ l f, cellsL (l ++ [f]) = cellsL l ++ Mc f
  | [], f => by simp [cellsL]
  | g :: l, f => by simp only [List.cons_append, cellsL, cellsL_snoc l f, List.append_assoc]

/-- The slice holds the list. -/
def Sl (S : AV) (rest : List Blk) (l : List (Nat → Int)) : Prop :=
  (l = [] ∧ S = .own 1 1 0 0 8 (some 0)) ∨ ∃ k g, S = .own (k + 5) g 0 l.length 8 none ∧ rest[k]? = some (.row (cellsL l) g .ow none)

theorem append_sl {n : Nat} {f : Nat → Int} {S : AV} {rest : List Blk} {N : Nat} {l : List (Nat → Int)} (h : Sl S rest l) (hb : l.length < 1000000000000) {i : TI} (h8 : i.size = 8) (h64 : i.bytes = 64) :
    ∃ S' rest' N', appendTo false i (Mk n f S (rest ++ [.row (Mc f) N .ow none]) (N + 1)) S (Mc f) 1 = some (S', Mk n f S rest' N') ∧ Sl S' rest' (l ++ [f]) := by
  rcases h with ⟨rfl, rfl⟩ | ⟨k, g, rfl, hk⟩
  · refine ⟨.own (rest.length + 1 + 5) (N + 1) 0 1 8 none, rest ++ [.row (Mc f) N .ow none] ++ [.row (Mc f) (N + 1) .ow none], N + 2, ?_, .inr ⟨rest.length + 1, N + 1, rfl, ?_⟩⟩
    · have : (Mk n f (.own 1 1 0 0 8 (some 0)) (rest ++ [.row (Mc f) N .ow none]) (N + 1)).b.length = rest.length + 1 + 5 := by simp [Mk]
      unfold appendTo
      simp only [h8, h64, if_true]
      unfold appendOwn
      rw [this]
      simp [Mk, row?, cut, Mem.push, room]
    · simp [cellsL]
  · have hlt : k < rest.length := by
      refine Nat.lt_of_not_le fun hc => ?_
      rw [List.getElem?_eq_none hc] at hk
      cases hk
    refine ⟨.own (k + 5) (N + 1) 0 (l.length + 1) 8 none, (rest ++ [Blk.row (Mc f) N .ow none]).set k (.row (cellsL (l ++ [f])) (N + 1) .ow none), N + 2, ?_, .inr ⟨k, N + 1, by simp, ?_⟩⟩
    · have hr : row? (Mk n f (.own (k + 5) g 0 l.length 8 none) (rest ++ [.row (Mc f) N .ow none]) (N + 1)) (k + 5) g = some (cellsL l) := by
        simp [row?, Mk, List.getElem?_append_left hlt, hk]
      have ho : own? (Mk n f (.own (k + 5) g 0 l.length 8 none) (rest ++ [.row (Mc f) N .ow none]) (N + 1)) (k + 5) g = some (cellsL l, none) := by
        simp [own?, Mk, List.getElem?_append_left hlt, hk]
      unfold appendTo
      simp only [h8, h64, if_true]
      unfold appendOwn
      have hc : (Mc f).all cellOk = true := rfl
      have hlen := cellsL_len l
      have h1 : 0 + l.length * 8 ≤ (cellsL l).length ∧ (l.length + 1) * 64 ≤ room ∧ l.length + 1 ≤ room := by rw [hlen]; unfold room; omega
      have h2 : ¬ (0 + (l.length + 1) * 8 ≤ (cellsL l).length) := by rw [hlen]; omega
      simp only [hr, ho, hc, h1, h2, and_self, if_true, if_false, kill, cut, List.drop_zero]
      have : (cellsL l).take (l.length * 8) = cellsL l := List.take_of_length_le (by omega)
      simp [this, cellsL_snoc, Mk]
    · rw [List.getElem?_set_self (by simp; omega)]

noncomputable def tiM : TI := match Go.Am.elemOf Try.cx 42 with | some (_, i) => i | none => ⟨.other, false, 0, 0, [], false⟩
theorem ti8 : tiM.size = 8 := by kernel_rfl
theorem ti64 : tiM.bytes = 64 := by kernel_rfl

theorem append_at {n : Nat} {f : Nat → Int} {S : AV} {rest : List Blk} {N : Nat} {l : List (Nat → Int)} (h : Sl S rest l) (hb : l.length < 1000000000000) :
    ∃ S' rest' N', appendA Try.cx false #[42, 42] (Mk n f S (rest ++ [.row (Mc f) N .ow none]) (N + 1)) S (.own (rest.length + 5) N 0 1 8 (some 1)) = some (S', Mk n f S rest' N') ∧ Sl S' rest' (l ++ [f]) := by
  obtain ⟨S', rest', N', h1, h2⟩ := append_sl (n := n) (f := f) (N := N) h hb ti8 ti64
  refine ⟨S', rest', N', ?_, h2⟩
  have hc : content (Mk n f S (rest ++ [.row (Mc f) N .ow none]) (N + 1)) 8 (.own (rest.length + 5) N 0 1 8 (some 1)) = some (Mc f, 1) := by
    simp [content, row?, Mk, cut, Mc]
  have e : appendA Try.cx false #[42, 42] (Mk n f S (rest ++ [.row (Mc f) N .ow none]) (N + 1)) S (.own (rest.length + 5) N 0 1 8 (some 1)) = (match content (Mk n f S (rest ++ [.row (Mc f) N .ow none]) (N + 1)) 8 (.own (rest.length + 5) N 0 1 8 (some 1)) with | none => none | some (xs, k) => appendTo false tiM (Mk n f S (rest ++ [.row (Mc f) N .ow none]) (N + 1)) S xs k) := by kernel_rfl
  rw [e, hc]
  exact h1

abbrev Hd (i left : Int) (b : AV) (n : Nat) : List AV := [J i, J left] ++ caps ++ [U, U, U, b, J i, J (i + 1), J n, b]

theorem fill_base {n i left : Nat} {f : Nat → Int} {S : AV} {rest : List Blk} {N : Nat} {l : List (Nat → Int)} (hi : i + 1 = n) (hn : n ≤ 8) (h : Sl S rest l) (hb : l.length < 1000000000000) :
    ∃ S' rest' N', Runs1 Try.cx 44 ([J i, J left] ++ caps) (Mk n f S rest N) (.tu []) (Mk n (setM f i left) S' rest' N') ∧ Sl S' rest' (l ++ [setM f i left]) := by
  obtain ⟨S', rest', N', h1, h2⟩ := append_at (n := n) (f := setM f i left) (N := N) h hb
  refine ⟨S', rest', N', ?_, h2⟩
  obtain ⟨k, g, L, rfl⟩ : ∃ k g L, S' = .own k g 0 L 8 none := by
    rcases h2 with ⟨e, _⟩ | ⟨k, g, e, _⟩
    · simp at e
    · exact ⟨_, _, _, e⟩
  clear h h2 hb
  subst hi
  refine runs_of (fn := Try.f44) (by kernel_rfl) rfl ?_
  show EvK _ _ _ ⟨[J i, J left] ++ caps ++ us 41, Mk (i + 1) f S rest N⟩ _
  have : i = 0 ∨ i = 1 ∨ i = 2 ∨ i = 3 ∨ i = 4 ∨ i = 5 ∨ i = 6 ∨ i = 7 := by omega
  clear hn
  rcases this with rfl | rfl | rfl | rfl | rfl | rfl | rfl | rfl
  · refine ev_block ?_
    refine ev_seq ?_
    refine ev_reg (by kernel_rfl) ?_
    refine rs_all (s1 := ⟨Hd 0 left No (0 + 1) ++ us 33, Mk (0 + 1) f S rest N⟩) (fun cf => by kernel_rfl) ?_
    refine ev_false (by kernel_rfl) ?_
    refine ev_seq ?_
    refine ev_reg (by kernel_rfl) ?_
    refine rs_all (s1 := ⟨Hd 0 left No (0 + 1) ++ us 15 ++ [Yes, J 0, J (0 + 1), Yes] ++ us 14, Mk (0 + 1) f S rest N⟩) (fun cf => by kernel_rfl) ?_
    refine ev_true (by kernel_rfl) ?_
    refine ev_seq ?_
    refine ev_reg (by kernel_rfl) ?_
    refine rs_all (s1 := ⟨Hd 0 left No (0 + 1) ++ us 15 ++ [Yes, J 0, J (0 + 1), Yes, J 0, J left, .ptr 3 3 0] ++ us 11, Mk (0 + 1) (setM f 0 left) S rest N⟩) (fun cf => by kernel_rfl) ?_
    refine ev_reg (by kernel_rfl) ?_
    refine rs_take 3 (s1 := ⟨Hd 0 left No (0 + 1) ++ us 15 ++ [Yes, J 0, J (0 + 1), Yes, J 0, J left, .ptr 3 3 0, S, Ag (setM f 0 left), .own (rest.length + 5) N 0 1 8 (some 1)] ++ us 8, Mk (0 + 1) (setM f 0 left) S (rest ++ [.row (Mc (setM f 0 left)) N .ow none]) (N + 1)⟩) (fun cf => by kernel_rfl) ?_
    refine rs_take 1 (s1 := ⟨Hd 0 left No (0 + 1) ++ us 15 ++ [Yes, J 0, J (0 + 1), Yes, J 0, J left, .ptr 3 3 0, S, Ag (setM f 0 left), .own (rest.length + 5) N 0 1 8 (some 1), (.own k g 0 L 8 none)] ++ us 7, Mk (0 + 1) (setM f 0 left) S rest' N'⟩) (fun cf => Eq.trans (b := match appendA Try.cx false #[42, 42] (Mk (0 + 1) (setM f 0 left) S (rest ++ [.row (Mc (setM f 0 left)) N .ow none]) (N + 1)) S (.own (rest.length + 5) N 0 1 8 (some 1)) with | some (r, m) => some (⟨Hd 0 left No (0 + 1) ++ us 15 ++ [Yes, J 0, J (0 + 1), Yes, J 0, J left, .ptr 3 3 0, S, Ag (setM f 0 left), .own (rest.length + 5) N 0 1 8 (some 1), r] ++ us 7, m⟩ : St) | none => none) (by kernel_rfl) (by rw [h1])) ?_
    refine rs_all (s1 := ⟨Hd 0 left No (0 + 1) ++ us 15 ++ [Yes, J 0, J (0 + 1), Yes, J 0, J left, .ptr 3 3 0, S, Ag (setM f 0 left), .own (rest.length + 5) N 0 1 8 (some 1), (.own k g 0 L 8 none)] ++ us 7, Mk (0 + 1) (setM f 0 left) (.own k g 0 L 8 none) rest' N'⟩) (fun cf => by kernel_rfl) ?_
    exact ⟨.inl rfl, by kernel_rfl, rfl⟩
  · refine ev_block ?_
    refine ev_seq ?_
    refine ev_reg (by kernel_rfl) ?_
    refine rs_all (s1 := ⟨Hd 1 left No (1 + 1) ++ us 33, Mk (1 + 1) f S rest N⟩) (fun cf => by kernel_rfl) ?_
    refine ev_false (by kernel_rfl) ?_
    refine ev_seq ?_
    refine ev_reg (by kernel_rfl) ?_
    refine rs_all (s1 := ⟨Hd 1 left No (1 + 1) ++ us 15 ++ [Yes, J 1, J (1 + 1), Yes] ++ us 14, Mk (1 + 1) f S rest N⟩) (fun cf => by kernel_rfl) ?_
    refine ev_true (by kernel_rfl) ?_
    refine ev_seq ?_
    refine ev_reg (by kernel_rfl) ?_
    refine rs_all (s1 := ⟨Hd 1 left No (1 + 1) ++ us 15 ++ [Yes, J 1, J (1 + 1), Yes, J 1, J left, .ptr 3 3 1] ++ us 11, Mk (1 + 1) (setM f 1 left) S rest N⟩) (fun cf => by kernel_rfl) ?_
    refine ev_reg (by kernel_rfl) ?_
    refine rs_take 3 (s1 := ⟨Hd 1 left No (1 + 1) ++ us 15 ++ [Yes, J 1, J (1 + 1), Yes, J 1, J left, .ptr 3 3 1, S, Ag (setM f 1 left), .own (rest.length + 5) N 0 1 8 (some 1)] ++ us 8, Mk (1 + 1) (setM f 1 left) S (rest ++ [.row (Mc (setM f 1 left)) N .ow none]) (N + 1)⟩) (fun cf => by kernel_rfl) ?_
    refine rs_take 1 (s1 := ⟨Hd 1 left No (1 + 1) ++ us 15 ++ [Yes, J 1, J (1 + 1), Yes, J 1, J left, .ptr 3 3 1, S, Ag (setM f 1 left), .own (rest.length + 5) N 0 1 8 (some 1), (.own k g 0 L 8 none)] ++ us 7, Mk (1 + 1) (setM f 1 left) S rest' N'⟩) (fun cf => Eq.trans (b := match appendA Try.cx false #[42, 42] (Mk (1 + 1) (setM f 1 left) S (rest ++ [.row (Mc (setM f 1 left)) N .ow none]) (N + 1)) S (.own (rest.length + 5) N 0 1 8 (some 1)) with | some (r, m) => some (⟨Hd 1 left No (1 + 1) ++ us 15 ++ [Yes, J 1, J (1 + 1), Yes, J 1, J left, .ptr 3 3 1, S, Ag (setM f 1 left), .own (rest.length + 5) N 0 1 8 (some 1), r] ++ us 7, m⟩ : St) | none => none) (by kernel_rfl) (by rw [h1])) ?_
    refine rs_all (s1 := ⟨Hd 1 left No (1 + 1) ++ us 15 ++ [Yes, J 1, J (1 + 1), Yes, J 1, J left, .ptr 3 3 1, S, Ag (setM f 1 left), .own (rest.length + 5) N 0 1 8 (some 1), (.own k g 0 L 8 none)] ++ us 7, Mk (1 + 1) (setM f 1 left) (.own k g 0 L 8 none) rest' N'⟩) (fun cf => by kernel_rfl) ?_
    exact ⟨.inl rfl, by kernel_rfl, rfl⟩
  · refine ev_block ?_
    refine ev_seq ?_
    refine ev_reg (by kernel_rfl) ?_
    refine rs_all (s1 := ⟨Hd 2 left No (2 + 1) ++ us 33, Mk (2 + 1) f S rest N⟩) (fun cf => by kernel_rfl) ?_
    refine ev_false (by kernel_rfl) ?_
    refine ev_seq ?_
    refine ev_reg (by kernel_rfl) ?_
    refine rs_all (s1 := ⟨Hd 2 left No (2 + 1) ++ us 15 ++ [Yes, J 2, J (2 + 1), Yes] ++ us 14, Mk (2 + 1) f S rest N⟩) (fun cf => by kernel_rfl) ?_
    refine ev_true (by kernel_rfl) ?_
    refine ev_seq ?_
    refine ev_reg (by kernel_rfl) ?_
    refine rs_all (s1 := ⟨Hd 2 left No (2 + 1) ++ us 15 ++ [Yes, J 2, J (2 + 1), Yes, J 2, J left, .ptr 3 3 2] ++ us 11, Mk (2 + 1) (setM f 2 left) S rest N⟩) (fun cf => by kernel_rfl) ?_
    refine ev_reg (by kernel_rfl) ?_
    refine rs_take 3 (s1 := ⟨Hd 2 left No (2 + 1) ++ us 15 ++ [Yes, J 2, J (2 + 1), Yes, J 2, J left, .ptr 3 3 2, S, Ag (setM f 2 left), .own (rest.length + 5) N 0 1 8 (some 1)] ++ us 8, Mk (2 + 1) (setM f 2 left) S (rest ++ [.row (Mc (setM f 2 left)) N .ow none]) (N + 1)⟩) (fun cf => by kernel_rfl) ?_
    refine rs_take 1 (s1 := ⟨Hd 2 left No (2 + 1) ++ us 15 ++ [Yes, J 2, J (2 + 1), Yes, J 2, J left, .ptr 3 3 2, S, Ag (setM f 2 left), .own (rest.length + 5) N 0 1 8 (some 1), (.own k g 0 L 8 none)] ++ us 7, Mk (2 + 1) (setM f 2 left) S rest' N'⟩) (fun cf => Eq.trans (b := match appendA Try.cx false #[42, 42] (Mk (2 + 1) (setM f 2 left) S (rest ++ [.row (Mc (setM f 2 left)) N .ow none]) (N + 1)) S (.own (rest.length + 5) N 0 1 8 (some 1)) with | some (r, m) => some (⟨Hd 2 left No (2 + 1) ++ us 15 ++ [Yes, J 2, J (2 + 1), Yes, J 2, J left, .ptr 3 3 2, S, Ag (setM f 2 left), .own (rest.length + 5) N 0 1 8 (some 1), r] ++ us 7, m⟩ : St) | none => none) (by kernel_rfl) (by rw [h1])) ?_
    refine rs_all (s1 := ⟨Hd 2 left No (2 + 1) ++ us 15 ++ [Yes, J 2, J (2 + 1), Yes, J 2, J left, .ptr 3 3 2, S, Ag (setM f 2 left), .own (rest.length + 5) N 0 1 8 (some 1), (.own k g 0 L 8 none)] ++ us 7, Mk (2 + 1) (setM f 2 left) (.own k g 0 L 8 none) rest' N'⟩) (fun cf => by kernel_rfl) ?_
    exact ⟨.inl rfl, by kernel_rfl, rfl⟩
  · refine ev_block ?_
    refine ev_seq ?_
    refine ev_reg (by kernel_rfl) ?_
    refine rs_all (s1 := ⟨Hd 3 left No (3 + 1) ++ us 33, Mk (3 + 1) f S rest N⟩) (fun cf => by kernel_rfl) ?_
    refine ev_false (by kernel_rfl) ?_
    refine ev_seq ?_
    refine ev_reg (by kernel_rfl) ?_
    refine rs_all (s1 := ⟨Hd 3 left No (3 + 1) ++ us 15 ++ [Yes, J 3, J (3 + 1), Yes] ++ us 14, Mk (3 + 1) f S rest N⟩) (fun cf => by kernel_rfl) ?_
    refine ev_true (by kernel_rfl) ?_
    refine ev_seq ?_
    refine ev_reg (by kernel_rfl) ?_
    refine rs_all (s1 := ⟨Hd 3 left No (3 + 1) ++ us 15 ++ [Yes, J 3, J (3 + 1), Yes, J 3, J left, .ptr 3 3 3] ++ us 11, Mk (3 + 1) (setM f 3 left) S rest N⟩) (fun cf => by kernel_rfl) ?_
    refine ev_reg (by kernel_rfl) ?_
    refine rs_take 3 (s1 := ⟨Hd 3 left No (3 + 1) ++ us 15 ++ [Yes, J 3, J (3 + 1), Yes, J 3, J left, .ptr 3 3 3, S, Ag (setM f 3 left), .own (rest.length + 5) N 0 1 8 (some 1)] ++ us 8, Mk (3 + 1) (setM f 3 left) S (rest ++ [.row (Mc (setM f 3 left)) N .ow none]) (N + 1)⟩) (fun cf => by kernel_rfl) ?_
    refine rs_take 1 (s1 := ⟨Hd 3 left No (3 + 1) ++ us 15 ++ [Yes, J 3, J (3 + 1), Yes, J 3, J left, .ptr 3 3 3, S, Ag (setM f 3 left), .own (rest.length + 5) N 0 1 8 (some 1), (.own k g 0 L 8 none)] ++ us 7, Mk (3 + 1) (setM f 3 left) S rest' N'⟩) (fun cf => Eq.trans (b := match appendA Try.cx false #[42, 42] (Mk (3 + 1) (setM f 3 left) S (rest ++ [.row (Mc (setM f 3 left)) N .ow none]) (N + 1)) S (.own (rest.length + 5) N 0 1 8 (some 1)) with | some (r, m) => some (⟨Hd 3 left No (3 + 1) ++ us 15 ++ [Yes, J 3, J (3 + 1), Yes, J 3, J left, .ptr 3 3 3, S, Ag (setM f 3 left), .own (rest.length + 5) N 0 1 8 (some 1), r] ++ us 7, m⟩ : St) | none => none) (by kernel_rfl) (by rw [h1])) ?_
    refine rs_all (s1 := ⟨Hd 3 left No (3 + 1) ++ us 15 ++ [Yes, J 3, J (3 + 1), Yes, J 3, J left, .ptr 3 3 3, S, Ag (setM f 3 left), .own (rest.length + 5) N 0 1 8 (some 1), (.own k g 0 L 8 none)] ++ us 7, Mk (3 + 1) (setM f 3 left) (.own k g 0 L 8 none) rest' N'⟩) (fun cf => by kernel_rfl) ?_
    exact ⟨.inl rfl, by kernel_rfl, rfl⟩
  · refine ev_block ?_
    refine ev_seq ?_
    refine ev_reg (by kernel_rfl) ?_
    refine rs_all (s1 := ⟨Hd 4 left No (4 + 1) ++ us 33, Mk (4 + 1) f S rest N⟩) (fun cf => by kernel_rfl) ?_
    refine ev_false (by kernel_rfl) ?_
    refine ev_seq ?_
    refine ev_reg (by kernel_rfl) ?_
    refine rs_all (s1 := ⟨Hd 4 left No (4 + 1) ++ us 15 ++ [Yes, J 4, J (4 + 1), Yes] ++ us 14, Mk (4 + 1) f S rest N⟩) (fun cf => by kernel_rfl) ?_
    refine ev_true (by kernel_rfl) ?_
    refine ev_seq ?_
    refine ev_reg (by kernel_rfl) ?_
    refine rs_all (s1 := ⟨Hd 4 left No (4 + 1) ++ us 15 ++ [Yes, J 4, J (4 + 1), Yes, J 4, J left, .ptr 3 3 4] ++ us 11, Mk (4 + 1) (setM f 4 left) S rest N⟩) (fun cf => by kernel_rfl) ?_
    refine ev_reg (by kernel_rfl) ?_
    refine rs_take 3 (s1 := ⟨Hd 4 left No (4 + 1) ++ us 15 ++ [Yes, J 4, J (4 + 1), Yes, J 4, J left, .ptr 3 3 4, S, Ag (setM f 4 left), .own (rest.length + 5) N 0 1 8 (some 1)] ++ us 8, Mk (4 + 1) (setM f 4 left) S (rest ++ [.row (Mc (setM f 4 left)) N .ow none]) (N + 1)⟩) (fun cf => by kernel_rfl) ?_
    refine rs_take 1 (s1 := ⟨Hd 4 left No (4 + 1) ++ us 15 ++ [Yes, J 4, J (4 + 1), Yes, J 4, J left, .ptr 3 3 4, S, Ag (setM f 4 left), .own (rest.length + 5) N 0 1 8 (some 1), (.own k g 0 L 8 none)] ++ us 7, Mk (4 + 1) (setM f 4 left) S rest' N'⟩) (fun cf => Eq.trans (b := match appendA Try.cx false #[42, 42] (Mk (4 + 1) (setM f 4 left) S (rest ++ [.row (Mc (setM f 4 left)) N .ow none]) (N + 1)) S (.own (rest.length + 5) N 0 1 8 (some 1)) with | some (r, m) => some (⟨Hd 4 left No (4 + 1) ++ us 15 ++ [Yes, J 4, J (4 + 1), Yes, J 4, J left, .ptr 3 3 4, S, Ag (setM f 4 left), .own (rest.length + 5) N 0 1 8 (some 1), r] ++ us 7, m⟩ : St) | none => none) (by kernel_rfl) (by rw [h1])) ?_
    refine rs_all (s1 := ⟨Hd 4 left No (4 + 1) ++ us 15 ++ [Yes, J 4, J (4 + 1), Yes, J 4, J left, .ptr 3 3 4, S, Ag (setM f 4 left), .own (rest.length + 5) N 0 1 8 (some 1), (.own k g 0 L 8 none)] ++ us 7, Mk (4 + 1) (setM f 4 left) (.own k g 0 L 8 none) rest' N'⟩) (fun cf => by kernel_rfl) ?_
    exact ⟨.inl rfl, by kernel_rfl, rfl⟩
  · refine ev_block ?_
    refine ev_seq ?_
    refine ev_reg (by kernel_rfl) ?_
    refine rs_all (s1 := ⟨Hd 5 left No (5 + 1) ++ us 33, Mk (5 + 1) f S rest N⟩) (fun cf => by kernel_rfl) ?_
    refine ev_false (by kernel_rfl) ?_
    refine ev_seq ?_
    refine ev_reg (by kernel_rfl) ?_
    refine rs_all (s1 := ⟨Hd 5 left No (5 + 1) ++ us 15 ++ [Yes, J 5, J (5 + 1), Yes] ++ us 14, Mk (5 + 1) f S rest N⟩) (fun cf => by kernel_rfl) ?_
    refine ev_true (by kernel_rfl) ?_
    refine ev_seq ?_
    refine ev_reg (by kernel_rfl) ?_
    refine rs_all (s1 := ⟨Hd 5 left No (5 + 1) ++ us 15 ++ [Yes, J 5, J (5 + 1), Yes, J 5, J left, .ptr 3 3 5] ++ us 11, Mk (5 + 1) (setM f 5 left) S rest N⟩) (fun cf => by kernel_rfl) ?_
    refine ev_reg (by kernel_rfl) ?_
    refine rs_take 3 (s1 := ⟨Hd 5 left No (5 + 1) ++ us 15 ++ [Yes, J 5, J (5 + 1), Yes, J 5, J left, .ptr 3 3 5, S, Ag (setM f 5 left), .own (rest.length + 5) N 0 1 8 (some 1)] ++ us 8, Mk (5 + 1) (setM f 5 left) S (rest ++ [.row (Mc (setM f 5 left)) N .ow none]) (N + 1)⟩) (fun cf => by kernel_rfl) ?_
    refine rs_take 1 (s1 := ⟨Hd 5 left No (5 + 1) ++ us 15 ++ [Yes, J 5, J (5 + 1), Yes, J 5, J left, .ptr 3 3 5, S, Ag (setM f 5 left), .own (rest.length + 5) N 0 1 8 (some 1), (.own k g 0 L 8 none)] ++ us 7, Mk (5 + 1) (setM f 5 left) S rest' N'⟩) (fun cf => Eq.trans (b := match appendA Try.cx false #[42, 42] (Mk (5 + 1) (setM f 5 left) S (rest ++ [.row (Mc (setM f 5 left)) N .ow none]) (N + 1)) S (.own (rest.length + 5) N 0 1 8 (some 1)) with | some (r, m) => some (⟨Hd 5 left No (5 + 1) ++ us 15 ++ [Yes, J 5, J (5 + 1), Yes, J 5, J left, .ptr 3 3 5, S, Ag (setM f 5 left), .own (rest.length + 5) N 0 1 8 (some 1), r] ++ us 7, m⟩ : St) | none => none) (by kernel_rfl) (by rw [h1])) ?_
    refine rs_all (s1 := ⟨Hd 5 left No (5 + 1) ++ us 15 ++ [Yes, J 5, J (5 + 1), Yes, J 5, J left, .ptr 3 3 5, S, Ag (setM f 5 left), .own (rest.length + 5) N 0 1 8 (some 1), (.own k g 0 L 8 none)] ++ us 7, Mk (5 + 1) (setM f 5 left) (.own k g 0 L 8 none) rest' N'⟩) (fun cf => by kernel_rfl) ?_
    exact ⟨.inl rfl, by kernel_rfl, rfl⟩
  · refine ev_block ?_
    refine ev_seq ?_
    refine ev_reg (by kernel_rfl) ?_
    refine rs_all (s1 := ⟨Hd 6 left No (6 + 1) ++ us 33, Mk (6 + 1) f S rest N⟩) (fun cf => by kernel_rfl) ?_
    refine ev_false (by kernel_rfl) ?_
    refine ev_seq ?_
    refine ev_reg (by kernel_rfl) ?_
    refine rs_all (s1 := ⟨Hd 6 left No (6 + 1) ++ us 15 ++ [Yes, J 6, J (6 + 1), Yes] ++ us 14, Mk (6 + 1) f S rest N⟩) (fun cf => by kernel_rfl) ?_
    refine ev_true (by kernel_rfl) ?_
    refine ev_seq ?_
    refine ev_reg (by kernel_rfl) ?_
    refine rs_all (s1 := ⟨Hd 6 left No (6 + 1) ++ us 15 ++ [Yes, J 6, J (6 + 1), Yes, J 6, J left, .ptr 3 3 6] ++ us 11, Mk (6 + 1) (setM f 6 left) S rest N⟩) (fun cf => by kernel_rfl) ?_
    refine ev_reg (by kernel_rfl) ?_
    refine rs_take 3 (s1 := ⟨Hd 6 left No (6 + 1) ++ us 15 ++ [Yes, J 6, J (6 + 1), Yes, J 6, J left, .ptr 3 3 6, S, Ag (setM f 6 left), .own (rest.length + 5) N 0 1 8 (some 1)] ++ us 8, Mk (6 + 1) (setM f 6 left) S (rest ++ [.row (Mc (setM f 6 left)) N .ow none]) (N + 1)⟩) (fun cf => by kernel_rfl) ?_
    refine rs_take 1 (s1 := ⟨Hd 6 left No (6 + 1) ++ us 15 ++ [Yes, J 6, J (6 + 1), Yes, J 6, J left, .ptr 3 3 6, S, Ag (setM f 6 left), .own (rest.length + 5) N 0 1 8 (some 1), (.own k g 0 L 8 none)] ++ us 7, Mk (6 + 1) (setM f 6 left) S rest' N'⟩) (fun cf => Eq.trans (b := match appendA Try.cx false #[42, 42] (Mk (6 + 1) (setM f 6 left) S (rest ++ [.row (Mc (setM f 6 left)) N .ow none]) (N + 1)) S (.own (rest.length + 5) N 0 1 8 (some 1)) with | some (r, m) => some (⟨Hd 6 left No (6 + 1) ++ us 15 ++ [Yes, J 6, J (6 + 1), Yes, J 6, J left, .ptr 3 3 6, S, Ag (setM f 6 left), .own (rest.length + 5) N 0 1 8 (some 1), r] ++ us 7, m⟩ : St) | none => none) (by kernel_rfl) (by rw [h1])) ?_
    refine rs_all (s1 := ⟨Hd 6 left No (6 + 1) ++ us 15 ++ [Yes, J 6, J (6 + 1), Yes, J 6, J left, .ptr 3 3 6, S, Ag (setM f 6 left), .own (rest.length + 5) N 0 1 8 (some 1), (.own k g 0 L 8 none)] ++ us 7, Mk (6 + 1) (setM f 6 left) (.own k g 0 L 8 none) rest' N'⟩) (fun cf => by kernel_rfl) ?_
    exact ⟨.inl rfl, by kernel_rfl, rfl⟩
  · refine ev_block ?_
    refine ev_seq ?_
    refine ev_reg (by kernel_rfl) ?_
    refine rs_all (s1 := ⟨Hd 7 left No (7 + 1) ++ us 33, Mk (7 + 1) f S rest N⟩) (fun cf => by kernel_rfl) ?_
    refine ev_false (by kernel_rfl) ?_
    refine ev_seq ?_
    refine ev_reg (by kernel_rfl) ?_
    refine rs_all (s1 := ⟨Hd 7 left No (7 + 1) ++ us 15 ++ [Yes, J 7, J (7 + 1), Yes] ++ us 14, Mk (7 + 1) f S rest N⟩) (fun cf => by kernel_rfl) ?_
    refine ev_true (by kernel_rfl) ?_
    refine ev_seq ?_
    refine ev_reg (by kernel_rfl) ?_
    refine rs_all (s1 := ⟨Hd 7 left No (7 + 1) ++ us 15 ++ [Yes, J 7, J (7 + 1), Yes, J 7, J left, .ptr 3 3 7] ++ us 11, Mk (7 + 1) (setM f 7 left) S rest N⟩) (fun cf => by kernel_rfl) ?_
    refine ev_reg (by kernel_rfl) ?_
    refine rs_take 3 (s1 := ⟨Hd 7 left No (7 + 1) ++ us 15 ++ [Yes, J 7, J (7 + 1), Yes, J 7, J left, .ptr 3 3 7, S, Ag (setM f 7 left), .own (rest.length + 5) N 0 1 8 (some 1)] ++ us 8, Mk (7 + 1) (setM f 7 left) S (rest ++ [.row (Mc (setM f 7 left)) N .ow none]) (N + 1)⟩) (fun cf => by kernel_rfl) ?_
    refine rs_take 1 (s1 := ⟨Hd 7 left No (7 + 1) ++ us 15 ++ [Yes, J 7, J (7 + 1), Yes, J 7, J left, .ptr 3 3 7, S, Ag (setM f 7 left), .own (rest.length + 5) N 0 1 8 (some 1), (.own k g 0 L 8 none)] ++ us 7, Mk (7 + 1) (setM f 7 left) S rest' N'⟩) (fun cf => Eq.trans (b := match appendA Try.cx false #[42, 42] (Mk (7 + 1) (setM f 7 left) S (rest ++ [.row (Mc (setM f 7 left)) N .ow none]) (N + 1)) S (.own (rest.length + 5) N 0 1 8 (some 1)) with | some (r, m) => some (⟨Hd 7 left No (7 + 1) ++ us 15 ++ [Yes, J 7, J (7 + 1), Yes, J 7, J left, .ptr 3 3 7, S, Ag (setM f 7 left), .own (rest.length + 5) N 0 1 8 (some 1), r] ++ us 7, m⟩ : St) | none => none) (by kernel_rfl) (by rw [h1])) ?_
    refine rs_all (s1 := ⟨Hd 7 left No (7 + 1) ++ us 15 ++ [Yes, J 7, J (7 + 1), Yes, J 7, J left, .ptr 3 3 7, S, Ag (setM f 7 left), .own (rest.length + 5) N 0 1 8 (some 1), (.own k g 0 L 8 none)] ++ us 7, Mk (7 + 1) (setM f 7 left) (.own k g 0 L 8 none) rest' N'⟩) (fun cf => by kernel_rfl) ?_
    exact ⟨.inl rfl, by kernel_rfl, rfl⟩

abbrev Hz (left : Int) (b : Bool) : List AV := [J 0, J left] ++ caps ++ [U, U, U, No, J 0, J 1, J 0, No] ++ us 15 ++ [No, J 0, J 0, No] ++ us 7 ++ [boolA b, J left, boolA b]

theorem fill_zero0 {f : Nat → Int} {S : AV} {rest : List Blk} {N : Nat} {l : List (Nat → Int)} (h : Sl S rest l) (hb : l.length < 1000000000000) :
    ∃ S' rest' N', Runs1 Try.cx 44 ([J 0, J 0] ++ caps) (Mk 0 f S rest N) (.tu []) (Mk 0 f S' rest' N') ∧ Sl S' rest' (l ++ [f]) := by
  obtain ⟨S', rest', N', h1, h2⟩ := append_at (n := 0) (f := f) (N := N) h hb
  refine ⟨S', rest', N', ?_, h2⟩
  obtain ⟨k, g, L, rfl⟩ : ∃ k g L, S' = .own k g 0 L 8 none := by
    rcases h2 with ⟨e, _⟩ | ⟨k, g, e, _⟩
    · simp at e
    · exact ⟨_, _, _, e⟩
  clear h h2 hb
  refine runs_of (fn := Try.f44) (by kernel_rfl) rfl ?_
  show EvK _ _ _ ⟨[J 0, J 0] ++ caps ++ us 41, Mk 0 f S rest N⟩ _
  refine ev_block ?_
  refine ev_seq ?_
  refine ev_reg (by kernel_rfl) ?_
  refine rs_all (s1 := ⟨Hd 0 0 No 0 ++ us 33, Mk 0 f S rest N⟩) (fun cf => by kernel_rfl) ?_
  refine ev_false (by kernel_rfl) ?_
  refine ev_seq ?_
  refine ev_reg (by kernel_rfl) ?_
  refine rs_all (s1 := ⟨Hd 0 0 No 0 ++ us 15 ++ [No, J 0, J 0, No] ++ us 14, Mk 0 f S rest N⟩) (fun cf => by kernel_rfl) ?_
  refine ev_false (by kernel_rfl) ?_
  refine ev_seq ?_
  refine ev_reg (by kernel_rfl) ?_
  refine rs_all (s1 := ⟨Hz 0 true ++ us 4, Mk 0 f S rest N⟩) (fun cf => by kernel_rfl) ?_
  refine ev_true (by kernel_rfl) ?_
  refine ev_reg (by kernel_rfl) ?_
  refine rs_take 3 (s1 := ⟨Hz 0 true ++ [S, Ag f, .own (rest.length + 5) N 0 1 8 (some 1)] ++ us 1, Mk 0 f S (rest ++ [.row (Mc f) N .ow none]) (N + 1)⟩) (fun cf => by kernel_rfl) ?_
  refine rs_take 1 (s1 := ⟨Hz 0 true ++ [S, Ag f, .own (rest.length + 5) N 0 1 8 (some 1), (.own k g 0 L 8 none)], Mk 0 f S rest' N'⟩) (fun cf => Eq.trans (b := match appendA Try.cx false #[42, 42] (Mk 0 f S (rest ++ [.row (Mc f) N .ow none]) (N + 1)) S (.own (rest.length + 5) N 0 1 8 (some 1)) with | some (r, m) => some (⟨Hz 0 true ++ [S, Ag f, .own (rest.length + 5) N 0 1 8 (some 1), r], m⟩ : St) | none => none) (by kernel_rfl) (by rw [h1])) ?_
  refine rs_all (s1 := ⟨Hz 0 true ++ [S, Ag f, .own (rest.length + 5) N 0 1 8 (some 1), (.own k g 0 L 8 none)], Mk 0 f (.own k g 0 L 8 none) rest' N'⟩) (fun cf => by kernel_rfl) ?_
  exact ⟨.inl rfl, by kernel_rfl, rfl⟩

theorem fill_zero1 {left : Nat} {f : Nat → Int} {S : AV} {rest : List Blk} {N : Nat} :
    Runs1 Try.cx 44 ([J 0, J (left + 1)] ++ caps) (Mk 0 f S rest N) (.tu []) (Mk 0 f S rest N) := by
  refine runs_of (fn := Try.f44) (by kernel_rfl) rfl ?_
  show EvK _ _ _ ⟨[J 0, J (left + 1)] ++ caps ++ us 41, Mk 0 f S rest N⟩ _
  refine ev_block ?_
  refine ev_seq ?_
  refine ev_reg (by kernel_rfl) ?_
  refine rs_all (s1 := ⟨Hd 0 (left + 1) No 0 ++ us 33, Mk 0 f S rest N⟩) (fun cf => by kernel_rfl) ?_
  refine ev_false (by kernel_rfl) ?_
  refine ev_seq ?_
  refine ev_reg (by kernel_rfl) ?_
  refine rs_all (s1 := ⟨Hd 0 (left + 1) No 0 ++ us 15 ++ [No, J 0, J 0, No] ++ us 14, Mk 0 f S rest N⟩) (fun cf => by kernel_rfl) ?_
  refine ev_false (by kernel_rfl) ?_
  refine ev_seq ?_
  refine ev_reg (by kernel_rfl) ?_
  refine rs_all (s1 := ⟨Hz (left + 1) ((left : Int) + 1 == 0) ++ us 4, Mk 0 f S rest N⟩) (fun cf => by kernel_rfl) ?_
  have e : ((left : Int) + 1 == 0) = false := by simp; omega
  rw [e]
  refine ev_false (by kernel_rfl) ?_
  refine ev_skip ?_
  exact ⟨.inl rfl, by kernel_rfl, rfl⟩

/-- The loop over the exponents of a place, from the greatest down. -/
def loopF (G : Nat → (Nat → Int) × List (Nat → Int) → (Nat → Int) × List (Nat → Int)) (i left : Nat) : Nat → (Nat → Int) × List (Nat → Int) → (Nat → Int) × List (Nat → Int)
  | 0, st => G left (setM st.1 i 0, st.2)
  | e + 1, st => loopF G i left e (G (left - (e + 1)) (setM st.1 i ((e + 1 : Nat) : Int), st.2))

/-- What the function does to the monomial and to the list. -/
def fillF : Nat → Nat → Nat → (Nat → Int) × List (Nat → Int) → (Nat → Int) × List (Nat → Int)
  | 0, i, left, st => (setM st.1 i left, st.2 ++ [setM st.1 i left])
  | r + 1, i, left, st => loopF (fillF r (i + 1)) i left left st

noncomputable def loopB : Code := match Try.f44.body with
  | some (.block _ (.seq _ (.cond _ (.seq _ (.block _ (.loop b))) _))) => b
  | _ => .skip

abbrev Lh (i left : Int) (n : Nat) (e : Int) (l : List AV) : List AV := [J i, J left] ++ caps ++ [U, U, J e, Yes, J i, J (i + 1), J n, Yes, J left] ++ l ++ us 18

theorem iter {n i left k : Nat} {f f' : Nat → Int} {S S' : AV} {rest rest' : List Blk} {N N' : Nat} {K : Out → St → Prop} {e' : Int} (hi : i + 1 < n) (hn : n ≤ 8) (hk : k ≤ left) (hl : left ≤ 12) (he : IntKind.wrap .i64 ((k : Int) - 1) = e')
    (hc : Runs1 Try.cx 44 ([J ((i + 1 : Nat) : Int), J ((left - k : Nat) : Int)] ++ caps) (Mk n (setM f i k) S rest N) (.tu []) (Mk n f' S' rest' N')) (x15 x16 x17 x18 x19 x20 x21 x22 x23 x24 x25 x26 x27 x28 : AV)
    (h : ∀ x15 x16 x17 x18 x19 x20 x21 x22 x23 x24 x25 x26 x27 x28, EvK Try.cx 44 (.loop loopB) ⟨Lh i left n e' [x15, x16, x17, x18, x19, x20, x21, x22, x23, x24, x25, x26, x27, x28], Mk n f' S' rest' N'⟩ K) :
    EvK Try.cx 44 (.loop loopB) ⟨Lh i left n k [x15, x16, x17, x18, x19, x20, x21, x22, x23, x24, x25, x26, x27, x28], Mk n f S rest N⟩ K := by
  have hw : IntKind.wrap .i64 ((left : Int) - k) = ((left - k : Nat) : Int) := by rw [wrap64 (by omega) (by omega)]; omega
  have hge : decide ((k : Int) ≥ 0) = true := by simp
  have : i = 0 ∨ i = 1 ∨ i = 2 ∨ i = 3 ∨ i = 4 ∨ i = 5 ∨ i = 6 := by omega
  clear hi hn
  rcases this with rfl | rfl | rfl | rfl | rfl | rfl | rfl
  · refine ev_loop ?_
    refine ev_seq ?_
    refine ev_seq ?_
    refine ev_reg (by kernel_rfl) ?_
    refine rs_all (s1 := ⟨Lh 0 left n k [J k, boolA (decide ((k : Int) ≥ 0)), x17, x18, x19, x20, x21, x22, x23, x24, x25, x26, x27, x28], Mk n f S rest N⟩) (fun cf => by kernel_rfl) ?_
    rw [hge]
    refine ev_true (by kernel_rfl) ?_
    refine ev_skip ?_
    refine ev_seq ?_
    refine ev_block ?_
    refine ev_seq ?_
    refine ev_reg (by kernel_rfl) ?_
    refine rs_all (s1 := ⟨Lh 0 left n k [J k, Yes, x17, x18, J 0, J k, .ptr 3 3 0, x22, x23, x24, x25, x26, x27, x28], Mk n (setM f 0 k) S rest N⟩) (fun cf => by kernel_rfl) ?_
    refine ev_reg (by kernel_rfl) ?_
    refine rs_take 6 (s1 := ⟨Lh 0 left n k [J k, Yes, x17, x18, J 0, J k, .ptr 3 3 0, .fn 44 caps, J 0, J (0 + 1), J left, J k, J (IntKind.wrap .i64 ((left : Int) - k)), x28], Mk n (setM f 0 k) S rest N⟩) (fun cf => by kernel_rfl) ?_
    rw [hw]
    refine rs_mem (k := 1) (g := 44) (av := [J ((0 + 1 : Nat) : Int), J ((left - k : Nat) : Int)] ++ caps) (r := .tu []) (m1 := Mk n f' S' rest' N') (s1 := ⟨Lh 0 left n k [J k, Yes, x17, x18, J 0, J k, .ptr 3 3 0, .fn 44 caps, J 0, J (0 + 1), J left, J k, J ((left - k : Nat) : Int), .tu []], Mk n f' S' rest' N'⟩) (by kernel_rfl) hc (by kernel_rfl) ?_
    refine rs_done rfl ?_
    refine ev_reg (by kernel_rfl) ?_
    refine rs_all (s1 := ⟨Lh 0 left n (IntKind.wrap .i64 ((k : Int) - 1)) [J k, Yes, J k, J (IntKind.wrap .i64 ((k : Int) - 1)), J 0, J k, .ptr 3 3 0, .fn 44 caps, J 0, J (0 + 1), J left, J k, J ((left - k : Nat) : Int), .tu []], Mk n f' S' rest' N'⟩) (fun cf => by kernel_rfl) ?_
    rw [he]
    exact h _ _ _ _ _ _ _ _ _ _ _ _ _ _
  · refine ev_loop ?_
    refine ev_seq ?_
    refine ev_seq ?_
    refine ev_reg (by kernel_rfl) ?_
    refine rs_all (s1 := ⟨Lh 1 left n k [J k, boolA (decide ((k : Int) ≥ 0)), x17, x18, x19, x20, x21, x22, x23, x24, x25, x26, x27, x28], Mk n f S rest N⟩) (fun cf => by kernel_rfl) ?_
    rw [hge]
    refine ev_true (by kernel_rfl) ?_
    refine ev_skip ?_
    refine ev_seq ?_
    refine ev_block ?_
    refine ev_seq ?_
    refine ev_reg (by kernel_rfl) ?_
    refine rs_all (s1 := ⟨Lh 1 left n k [J k, Yes, x17, x18, J 1, J k, .ptr 3 3 1, x22, x23, x24, x25, x26, x27, x28], Mk n (setM f 1 k) S rest N⟩) (fun cf => by kernel_rfl) ?_
    refine ev_reg (by kernel_rfl) ?_
    refine rs_take 6 (s1 := ⟨Lh 1 left n k [J k, Yes, x17, x18, J 1, J k, .ptr 3 3 1, .fn 44 caps, J 1, J (1 + 1), J left, J k, J (IntKind.wrap .i64 ((left : Int) - k)), x28], Mk n (setM f 1 k) S rest N⟩) (fun cf => by kernel_rfl) ?_
    rw [hw]
    refine rs_mem (k := 1) (g := 44) (av := [J ((1 + 1 : Nat) : Int), J ((left - k : Nat) : Int)] ++ caps) (r := .tu []) (m1 := Mk n f' S' rest' N') (s1 := ⟨Lh 1 left n k [J k, Yes, x17, x18, J 1, J k, .ptr 3 3 1, .fn 44 caps, J 1, J (1 + 1), J left, J k, J ((left - k : Nat) : Int), .tu []], Mk n f' S' rest' N'⟩) (by kernel_rfl) hc (by kernel_rfl) ?_
    refine rs_done rfl ?_
    refine ev_reg (by kernel_rfl) ?_
    refine rs_all (s1 := ⟨Lh 1 left n (IntKind.wrap .i64 ((k : Int) - 1)) [J k, Yes, J k, J (IntKind.wrap .i64 ((k : Int) - 1)), J 1, J k, .ptr 3 3 1, .fn 44 caps, J 1, J (1 + 1), J left, J k, J ((left - k : Nat) : Int), .tu []], Mk n f' S' rest' N'⟩) (fun cf => by kernel_rfl) ?_
    rw [he]
    exact h _ _ _ _ _ _ _ _ _ _ _ _ _ _
  · refine ev_loop ?_
    refine ev_seq ?_
    refine ev_seq ?_
    refine ev_reg (by kernel_rfl) ?_
    refine rs_all (s1 := ⟨Lh 2 left n k [J k, boolA (decide ((k : Int) ≥ 0)), x17, x18, x19, x20, x21, x22, x23, x24, x25, x26, x27, x28], Mk n f S rest N⟩) (fun cf => by kernel_rfl) ?_
    rw [hge]
    refine ev_true (by kernel_rfl) ?_
    refine ev_skip ?_
    refine ev_seq ?_
    refine ev_block ?_
    refine ev_seq ?_
    refine ev_reg (by kernel_rfl) ?_
    refine rs_all (s1 := ⟨Lh 2 left n k [J k, Yes, x17, x18, J 2, J k, .ptr 3 3 2, x22, x23, x24, x25, x26, x27, x28], Mk n (setM f 2 k) S rest N⟩) (fun cf => by kernel_rfl) ?_
    refine ev_reg (by kernel_rfl) ?_
    refine rs_take 6 (s1 := ⟨Lh 2 left n k [J k, Yes, x17, x18, J 2, J k, .ptr 3 3 2, .fn 44 caps, J 2, J (2 + 1), J left, J k, J (IntKind.wrap .i64 ((left : Int) - k)), x28], Mk n (setM f 2 k) S rest N⟩) (fun cf => by kernel_rfl) ?_
    rw [hw]
    refine rs_mem (k := 1) (g := 44) (av := [J ((2 + 1 : Nat) : Int), J ((left - k : Nat) : Int)] ++ caps) (r := .tu []) (m1 := Mk n f' S' rest' N') (s1 := ⟨Lh 2 left n k [J k, Yes, x17, x18, J 2, J k, .ptr 3 3 2, .fn 44 caps, J 2, J (2 + 1), J left, J k, J ((left - k : Nat) : Int), .tu []], Mk n f' S' rest' N'⟩) (by kernel_rfl) hc (by kernel_rfl) ?_
    refine rs_done rfl ?_
    refine ev_reg (by kernel_rfl) ?_
    refine rs_all (s1 := ⟨Lh 2 left n (IntKind.wrap .i64 ((k : Int) - 1)) [J k, Yes, J k, J (IntKind.wrap .i64 ((k : Int) - 1)), J 2, J k, .ptr 3 3 2, .fn 44 caps, J 2, J (2 + 1), J left, J k, J ((left - k : Nat) : Int), .tu []], Mk n f' S' rest' N'⟩) (fun cf => by kernel_rfl) ?_
    rw [he]
    exact h _ _ _ _ _ _ _ _ _ _ _ _ _ _
  · refine ev_loop ?_
    refine ev_seq ?_
    refine ev_seq ?_
    refine ev_reg (by kernel_rfl) ?_
    refine rs_all (s1 := ⟨Lh 3 left n k [J k, boolA (decide ((k : Int) ≥ 0)), x17, x18, x19, x20, x21, x22, x23, x24, x25, x26, x27, x28], Mk n f S rest N⟩) (fun cf => by kernel_rfl) ?_
    rw [hge]
    refine ev_true (by kernel_rfl) ?_
    refine ev_skip ?_
    refine ev_seq ?_
    refine ev_block ?_
    refine ev_seq ?_
    refine ev_reg (by kernel_rfl) ?_
    refine rs_all (s1 := ⟨Lh 3 left n k [J k, Yes, x17, x18, J 3, J k, .ptr 3 3 3, x22, x23, x24, x25, x26, x27, x28], Mk n (setM f 3 k) S rest N⟩) (fun cf => by kernel_rfl) ?_
    refine ev_reg (by kernel_rfl) ?_
    refine rs_take 6 (s1 := ⟨Lh 3 left n k [J k, Yes, x17, x18, J 3, J k, .ptr 3 3 3, .fn 44 caps, J 3, J (3 + 1), J left, J k, J (IntKind.wrap .i64 ((left : Int) - k)), x28], Mk n (setM f 3 k) S rest N⟩) (fun cf => by kernel_rfl) ?_
    rw [hw]
    refine rs_mem (k := 1) (g := 44) (av := [J ((3 + 1 : Nat) : Int), J ((left - k : Nat) : Int)] ++ caps) (r := .tu []) (m1 := Mk n f' S' rest' N') (s1 := ⟨Lh 3 left n k [J k, Yes, x17, x18, J 3, J k, .ptr 3 3 3, .fn 44 caps, J 3, J (3 + 1), J left, J k, J ((left - k : Nat) : Int), .tu []], Mk n f' S' rest' N'⟩) (by kernel_rfl) hc (by kernel_rfl) ?_
    refine rs_done rfl ?_
    refine ev_reg (by kernel_rfl) ?_
    refine rs_all (s1 := ⟨Lh 3 left n (IntKind.wrap .i64 ((k : Int) - 1)) [J k, Yes, J k, J (IntKind.wrap .i64 ((k : Int) - 1)), J 3, J k, .ptr 3 3 3, .fn 44 caps, J 3, J (3 + 1), J left, J k, J ((left - k : Nat) : Int), .tu []], Mk n f' S' rest' N'⟩) (fun cf => by kernel_rfl) ?_
    rw [he]
    exact h _ _ _ _ _ _ _ _ _ _ _ _ _ _
  · refine ev_loop ?_
    refine ev_seq ?_
    refine ev_seq ?_
    refine ev_reg (by kernel_rfl) ?_
    refine rs_all (s1 := ⟨Lh 4 left n k [J k, boolA (decide ((k : Int) ≥ 0)), x17, x18, x19, x20, x21, x22, x23, x24, x25, x26, x27, x28], Mk n f S rest N⟩) (fun cf => by kernel_rfl) ?_
    rw [hge]
    refine ev_true (by kernel_rfl) ?_
    refine ev_skip ?_
    refine ev_seq ?_
    refine ev_block ?_
    refine ev_seq ?_
    refine ev_reg (by kernel_rfl) ?_
    refine rs_all (s1 := ⟨Lh 4 left n k [J k, Yes, x17, x18, J 4, J k, .ptr 3 3 4, x22, x23, x24, x25, x26, x27, x28], Mk n (setM f 4 k) S rest N⟩) (fun cf => by kernel_rfl) ?_
    refine ev_reg (by kernel_rfl) ?_
    refine rs_take 6 (s1 := ⟨Lh 4 left n k [J k, Yes, x17, x18, J 4, J k, .ptr 3 3 4, .fn 44 caps, J 4, J (4 + 1), J left, J k, J (IntKind.wrap .i64 ((left : Int) - k)), x28], Mk n (setM f 4 k) S rest N⟩) (fun cf => by kernel_rfl) ?_
    rw [hw]
    refine rs_mem (k := 1) (g := 44) (av := [J ((4 + 1 : Nat) : Int), J ((left - k : Nat) : Int)] ++ caps) (r := .tu []) (m1 := Mk n f' S' rest' N') (s1 := ⟨Lh 4 left n k [J k, Yes, x17, x18, J 4, J k, .ptr 3 3 4, .fn 44 caps, J 4, J (4 + 1), J left, J k, J ((left - k : Nat) : Int), .tu []], Mk n f' S' rest' N'⟩) (by kernel_rfl) hc (by kernel_rfl) ?_
    refine rs_done rfl ?_
    refine ev_reg (by kernel_rfl) ?_
    refine rs_all (s1 := ⟨Lh 4 left n (IntKind.wrap .i64 ((k : Int) - 1)) [J k, Yes, J k, J (IntKind.wrap .i64 ((k : Int) - 1)), J 4, J k, .ptr 3 3 4, .fn 44 caps, J 4, J (4 + 1), J left, J k, J ((left - k : Nat) : Int), .tu []], Mk n f' S' rest' N'⟩) (fun cf => by kernel_rfl) ?_
    rw [he]
    exact h _ _ _ _ _ _ _ _ _ _ _ _ _ _
  · refine ev_loop ?_
    refine ev_seq ?_
    refine ev_seq ?_
    refine ev_reg (by kernel_rfl) ?_
    refine rs_all (s1 := ⟨Lh 5 left n k [J k, boolA (decide ((k : Int) ≥ 0)), x17, x18, x19, x20, x21, x22, x23, x24, x25, x26, x27, x28], Mk n f S rest N⟩) (fun cf => by kernel_rfl) ?_
    rw [hge]
    refine ev_true (by kernel_rfl) ?_
    refine ev_skip ?_
    refine ev_seq ?_
    refine ev_block ?_
    refine ev_seq ?_
    refine ev_reg (by kernel_rfl) ?_
    refine rs_all (s1 := ⟨Lh 5 left n k [J k, Yes, x17, x18, J 5, J k, .ptr 3 3 5, x22, x23, x24, x25, x26, x27, x28], Mk n (setM f 5 k) S rest N⟩) (fun cf => by kernel_rfl) ?_
    refine ev_reg (by kernel_rfl) ?_
    refine rs_take 6 (s1 := ⟨Lh 5 left n k [J k, Yes, x17, x18, J 5, J k, .ptr 3 3 5, .fn 44 caps, J 5, J (5 + 1), J left, J k, J (IntKind.wrap .i64 ((left : Int) - k)), x28], Mk n (setM f 5 k) S rest N⟩) (fun cf => by kernel_rfl) ?_
    rw [hw]
    refine rs_mem (k := 1) (g := 44) (av := [J ((5 + 1 : Nat) : Int), J ((left - k : Nat) : Int)] ++ caps) (r := .tu []) (m1 := Mk n f' S' rest' N') (s1 := ⟨Lh 5 left n k [J k, Yes, x17, x18, J 5, J k, .ptr 3 3 5, .fn 44 caps, J 5, J (5 + 1), J left, J k, J ((left - k : Nat) : Int), .tu []], Mk n f' S' rest' N'⟩) (by kernel_rfl) hc (by kernel_rfl) ?_
    refine rs_done rfl ?_
    refine ev_reg (by kernel_rfl) ?_
    refine rs_all (s1 := ⟨Lh 5 left n (IntKind.wrap .i64 ((k : Int) - 1)) [J k, Yes, J k, J (IntKind.wrap .i64 ((k : Int) - 1)), J 5, J k, .ptr 3 3 5, .fn 44 caps, J 5, J (5 + 1), J left, J k, J ((left - k : Nat) : Int), .tu []], Mk n f' S' rest' N'⟩) (fun cf => by kernel_rfl) ?_
    rw [he]
    exact h _ _ _ _ _ _ _ _ _ _ _ _ _ _
  · refine ev_loop ?_
    refine ev_seq ?_
    refine ev_seq ?_
    refine ev_reg (by kernel_rfl) ?_
    refine rs_all (s1 := ⟨Lh 6 left n k [J k, boolA (decide ((k : Int) ≥ 0)), x17, x18, x19, x20, x21, x22, x23, x24, x25, x26, x27, x28], Mk n f S rest N⟩) (fun cf => by kernel_rfl) ?_
    rw [hge]
    refine ev_true (by kernel_rfl) ?_
    refine ev_skip ?_
    refine ev_seq ?_
    refine ev_block ?_
    refine ev_seq ?_
    refine ev_reg (by kernel_rfl) ?_
    refine rs_all (s1 := ⟨Lh 6 left n k [J k, Yes, x17, x18, J 6, J k, .ptr 3 3 6, x22, x23, x24, x25, x26, x27, x28], Mk n (setM f 6 k) S rest N⟩) (fun cf => by kernel_rfl) ?_
    refine ev_reg (by kernel_rfl) ?_
    refine rs_take 6 (s1 := ⟨Lh 6 left n k [J k, Yes, x17, x18, J 6, J k, .ptr 3 3 6, .fn 44 caps, J 6, J (6 + 1), J left, J k, J (IntKind.wrap .i64 ((left : Int) - k)), x28], Mk n (setM f 6 k) S rest N⟩) (fun cf => by kernel_rfl) ?_
    rw [hw]
    refine rs_mem (k := 1) (g := 44) (av := [J ((6 + 1 : Nat) : Int), J ((left - k : Nat) : Int)] ++ caps) (r := .tu []) (m1 := Mk n f' S' rest' N') (s1 := ⟨Lh 6 left n k [J k, Yes, x17, x18, J 6, J k, .ptr 3 3 6, .fn 44 caps, J 6, J (6 + 1), J left, J k, J ((left - k : Nat) : Int), .tu []], Mk n f' S' rest' N'⟩) (by kernel_rfl) hc (by kernel_rfl) ?_
    refine rs_done rfl ?_
    refine ev_reg (by kernel_rfl) ?_
    refine rs_all (s1 := ⟨Lh 6 left n (IntKind.wrap .i64 ((k : Int) - 1)) [J k, Yes, J k, J (IntKind.wrap .i64 ((k : Int) - 1)), J 6, J k, .ptr 3 3 6, .fn 44 caps, J 6, J (6 + 1), J left, J k, J ((left - k : Nat) : Int), .tu []], Mk n f' S' rest' N'⟩) (fun cf => by kernel_rfl) ?_
    rw [he]
    exact h _ _ _ _ _ _ _ _ _ _ _ _ _ _

theorem iter_end {i left : Int} {n : Nat} {m : Mem} {K : Out → St → Prop} (x15 x16 x17 x18 x19 x20 x21 x22 x23 x24 x25 x26 x27 x28 : AV) (h : ∀ x15 x16 x17 x18 x19 x20 x21 x22 x23 x24 x25 x26 x27 x28, K (.exit 1) ⟨Lh i left n (-1) [x15, x16, x17, x18, x19, x20, x21, x22, x23, x24, x25, x26, x27, x28], m⟩) : EvK Try.cx 44 (.loop loopB) ⟨Lh i left n (-1) [x15, x16, x17, x18, x19, x20, x21, x22, x23, x24, x25, x26, x27, x28], m⟩ K := by
  refine ev_loop ?_
  refine ev_seq ?_
  refine ev_seq ?_
  refine ev_reg (by kernel_rfl) ?_
  refine rs_all (s1 := ⟨Lh i left n (-1) [J (-1), No, x17, x18, x19, x20, x21, x22, x23, x24, x25, x26, x27, x28], m⟩) (fun cf => by kernel_rfl) ?_
  refine ev_false (by kernel_rfl) ?_
  refine ev_exit ?_
  exact h _ _ _ _ _ _ _ _ _ _ _ _ _ _

/-- The function runs from every memory that holds a list. -/
def FillOk (n r i : Nat) : Prop := ∀ (left : Nat) (f : Nat → Int) (S : AV) (rest : List Blk) (N : Nat) (l : List (Nat → Int)), left ≤ 12 → Sl S rest l → l.length + 13 ^ r ≤ 100000000000 →
  ∃ S' rest' N', Runs1 Try.cx 44 ([J (i : Int), J (left : Int)] ++ caps) (Mk n f S rest N) (.tu []) (Mk n (fillF r i left (f, l)).1 S' rest' N') ∧ Sl S' rest' (fillF r i left (f, l)).2 ∧ (fillF r i left (f, l)).2.length ≤ l.length + 13 ^ r

theorem loop_runs {n r i left : Nat} (hi : i + 1 < n) (hn : n ≤ 8) (hl : left ≤ 12) (ih : FillOk n r (i + 1)) : ∀ (k : Nat) (f : Nat → Int) (S : AV) (rest : List Blk) (N : Nat) (l : List (Nat → Int)), k ≤ left → Sl S rest l → l.length + (k + 1) * 13 ^ r ≤ 100000000000 →
    ∃ S' rest' N', (∀ (K : Out → St → Prop) (x15 x16 x17 x18 x19 x20 x21 x22 x23 x24 x25 x26 x27 x28 : AV), (∀ x15 x16 x17 x18 x19 x20 x21 x22 x23 x24 x25 x26 x27 x28 : AV, K (.exit 1) ⟨Lh i left n (-1) [x15, x16, x17, x18, x19, x20, x21, x22, x23, x24, x25, x26, x27, x28], Mk n (loopF (fillF r (i + 1)) i left k (f, l)).1 S' rest' N'⟩) → EvK Try.cx 44 (.loop loopB) ⟨Lh i left n k [x15, x16, x17, x18, x19, x20, x21, x22, x23, x24, x25, x26, x27, x28], Mk n f S rest N⟩ K)
      ∧ Sl S' rest' (loopF (fillF r (i + 1)) i left k (f, l)).2 ∧ (loopF (fillF r (i + 1)) i left k (f, l)).2.length ≤ l.length + (k + 1) * 13 ^ r
  | 0, f, S, rest, N, l, hk, hS, hb => by
    obtain ⟨S1, rest1, N1, h1, h2, h3⟩ := ih left (setM f i 0) S rest N l hl hS (by omega)
    refine ⟨S1, rest1, N1, ?_, h2, by simp only [loopF]; omega⟩
    intro K x15 x16 x17 x18 x19 x20 x21 x22 x23 x24 x25 x26 x27 x28 hK
    exact iter (k := 0) (e' := -1) hi hn hk hl (by decide) h1 x15 x16 x17 x18 x19 x20 x21 x22 x23 x24 x25 x26 x27 x28 fun x15 x16 x17 x18 x19 x20 x21 x22 x23 x24 x25 x26 x27 x28 => iter_end x15 x16 x17 x18 x19 x20 x21 x22 x23 x24 x25 x26 x27 x28 hK
  | k + 1, f, S, rest, N, l, hk, hS, hb => by
    have e1 : (k + 1 + 1) * 13 ^ r = (k + 1) * 13 ^ r + 13 ^ r := Nat.succ_mul _ _
    obtain ⟨S1, rest1, N1, h1, h2, h3⟩ := ih (left - (k + 1)) (setM f i ((k + 1 : Nat) : Int)) S rest N l (by omega) hS (by omega)
    obtain ⟨S2, rest2, N2, h4, h5, h6⟩ := loop_runs hi hn hl ih k (fillF r (i + 1) (left - (k + 1)) (setM f i ((k + 1 : Nat) : Int), l)).1 S1 rest1 N1 (fillF r (i + 1) (left - (k + 1)) (setM f i ((k + 1 : Nat) : Int), l)).2 (by omega) h2 (by omega)
    refine ⟨S2, rest2, N2, ?_, h5, Nat.le_trans h6 (by omega)⟩
    intro K x15 x16 x17 x18 x19 x20 x21 x22 x23 x24 x25 x26 x27 x28 hK
    exact iter (k := k + 1) (e' := k) hi hn hk hl (by rw [wrap64 (by omega) (by omega)]; omega) h1 x15 x16 x17 x18 x19 x20 x21 x22 x23 x24 x25 x26 x27 x28 fun x15 x16 x17 x18 x19 x20 x21 x22 x23 x24 x25 x26 x27 x28 => h4 K x15 x16 x17 x18 x19 x20 x21 x22 x23 x24 x25 x26 x27 x28 hK

theorem fill_runs {n : Nat} (hn : n ≤ 8) : ∀ (r i : Nat), i + r + 1 = n → FillOk n r i
  | 0, i, hi, left, f, S, rest, N, l, hl, hS, hb => by
    obtain ⟨S', rest', N', h1, h2⟩ := fill_base (n := n) (i := i) (left := left) (f := f) (N := N) (by omega) hn hS (by omega)
    exact ⟨S', rest', N', h1, h2, by simp [fillF]⟩
  | r + 1, i, hi, left, f, S, rest, N, l, hl, hS, hb => by
    have e1 : (13 : Nat) ^ (r + 1) = 13 ^ r * 13 := Nat.pow_succ ..
    have e2 : (left + 1) * 13 ^ r ≤ 13 ^ r * 13 := by rw [Nat.mul_comm]; exact Nat.mul_le_mul_left _ (by omega)
    obtain ⟨S', rest', N', h1, h2, h3⟩ := loop_runs (by omega) hn hl (fill_runs hn r (i + 1) (by omega)) left f S rest N l (Nat.le_refl _) hS (by omega)
    refine ⟨S', rest', N', ?_, h2, by simp only [fillF]; omega⟩
    refine runs_of (fn := Try.f44) (by kernel_rfl) rfl ?_
    show EvK _ _ _ ⟨[J i, J left] ++ caps ++ us 41, Mk n f S rest N⟩ _
    refine ev_block ?_
    refine ev_seq ?_
    have hw : IntKind.wrap .i64 ((i : Int) + 1) = (i : Int) + 1 := wrap64 (by omega) (by omega)
    refine ev_reg (by kernel_rfl) ?_
    refine rs_all (s1 := ⟨[J i, J left] ++ caps ++ [U, U, U, boolA (decide (IntKind.wrap .i64 ((i : Int) + 1) < (n : Int))), J i, J (IntKind.wrap .i64 ((i : Int) + 1)), J n, boolA (decide (IntKind.wrap .i64 ((i : Int) + 1) < (n : Int)))] ++ us 33, Mk n f S rest N⟩) (fun cf => by kernel_rfl) ?_
    rw [hw]
    have hd : decide ((i : Int) + 1 < (n : Int)) = true := by simp; omega
    rw [hd]
    refine ev_true (by kernel_rfl) ?_
    refine ev_seq ?_
    refine ev_reg (by kernel_rfl) ?_
    refine rs_all (s1 := ⟨Lh i left n left [U, U, U, U, U, U, U, U, U, U, U, U, U, U], Mk n f S rest N⟩) (fun cf => by kernel_rfl) ?_
    refine ev_block ?_
    refine h1 _ _ _ _ _ _ _ _ _ _ _ _ _ _ _ ?_
    intro x15 x16 x17 x18 x19 x20 x21 x22 x23 x24 x25 x26 x27 x28
    exact ⟨.inl rfl, by kernel_rfl, rfl⟩

def Md (f : Nat → Int) : List D := [.v (.int .i64 (f 0)), .v (.int .i64 (f 1)), .v (.int .i64 (f 2)), .v (.int .i64 (f 3)), .v (.int .i64 (f 4)), .v (.int .i64 (f 5)), .v (.int .i64 (f 6)), .v (.int .i64 (f 7))]
def dl : List (Nat → Int) → List D
  | [] => []
  | f :: l => Md f ++ dl l

theorem snap_cells (m : Mem) (k : Nat) : ∀ l, mapO (snapD m (k + 1)) (cellsL l) = some (dl l)
  | [] => rfl
  | f :: l => by
    have h := snap_cells m k l
    show mapO _ (Mc f ++ cellsL l) = _
    have e : ∀ x : Int, snapD m (k + 1) (J x) = some (.v (.int .i64 x)) := fun _ => rfl
    simp only [Mc, List.cons_append, List.nil_append, mapO, e, h]
    rfl

theorem snap_list {n : Nat} {f : Nat → Int} {S : AV} {rest : List Blk} {N : Nat} {l : List (Nat → Int)} (h : Sl S rest l) : snapR (Mk n f S rest N) (.tu [S, J 0]) = some (.tu [.d (.sl false l.length (dl l)), J 0]) := by
  rcases h with ⟨rfl, rfl⟩ | ⟨k, g, rfl, hk⟩
  · rfl
  · have hr : row? (Mk n f (.own (k + 5) g 0 l.length 8 none) rest N) (k + 5) g = some (cellsL l) := by
      simp [row?, Mk, hk]
    have hlen := cellsL_len l
    have ht : cut (cellsL l) 0 (l.length * 8) = cellsL l := List.take_of_length_le (by simp; omega)
    have h1 : 0 + l.length * 8 ≤ (cellsL l).length := by omega
    have e : snapD (Mk n f (.own (k + 5) g 0 l.length 8 none) rest N) depth (.own (k + 5) g 0 l.length 8 none) = some (.sl false l.length (dl l)) := by
      show snapD _ 8 _ = _
      unfold snapD
      simp only [hr, h1, if_true, ht, snap_cells, Option.map_some]
    simp [snapR, mapO, snapA, snapC, e]
    rfl

abbrev Ha (n d : Int) : List AV := [J n, J d, .ptr 0 0 0, U, .d (.v (.slice none 0 0)), J 0]

theorem g_all {n d : Nat} {l : List (Nat → Int)} (hn : n ≤ 8) (hd : d ≤ 12)
    (hc : ∃ f' S' rest' N', Runs1 Try.cx 44 ([J 0, J (d : Int)] ++ caps) (Mk n zeroM (.own 1 1 0 0 8 (some 0)) [] 5) (.tu []) (Mk n f' S' rest' N') ∧ Sl S' rest' l) :
    Gets Try.cx 30 [J n, J d] (.tu [.d (.sl false l.length (dl l)), J 0]) := by
  obtain ⟨f', S', rest', N', hc, hS⟩ := hc
  have n0 : decide ((n : Int) < 0) = false := decide_eq_false (by omega)
  have n8 : decide ((n : Int) > 8) = false := decide_eq_false (by omega)
  have d0 : decide ((d : Int) < 0) = false := decide_eq_false (by omega)
  have d8 : decide ((d : Int) > 12) = false := decide_eq_false (by omega)
  refine gets_of (fn := Try.f30) (by kernel_rfl) rfl ?_
  show EvK _ _ _ ⟨[J n, J d] ++ us 27, ⟨[], 0⟩⟩ _
  refine ev_seq ?_
  refine ev_reg (by kernel_rfl) ?_
  refine rs_all (s1 := ⟨Ha n d ++ us 23, ⟨[.row [J n] 0 .ow none], 1⟩⟩) (fun cf => by kernel_rfl) ?_
  refine ev_seq ?_
  refine ev_seq ?_
  refine ev_reg (by kernel_rfl) ?_
  refine rs_take 3 (s1 := ⟨Ha n d ++ us 3 ++ [J n, boolA (decide ((n : Int) < 0)), boolA (decide ((n : Int) < 0))] ++ us 17, ⟨[.row [J n] 0 .ow none], 1⟩⟩) (fun cf => by kernel_rfl) ?_
  rw [n0]
  refine rs_take 4 (s1 := ⟨Ha n d ++ us 3 ++ [J n, No, No, J n, boolA (decide ((n : Int) > 8)), boolA (decide ((n : Int) > 8)), boolA (decide ((n : Int) > 8))] ++ us 13, ⟨[.row [J n] 0 .ow none], 1⟩⟩) (fun cf => by kernel_rfl) ?_
  rw [n8]
  refine rs_take 4 (s1 := ⟨Ha n d ++ us 3 ++ [J n, No, No, J n, No, No, No, J d, boolA (decide ((d : Int) < 0)), boolA (decide ((d : Int) < 0)), boolA (decide ((d : Int) < 0))] ++ us 9, ⟨[.row [J n] 0 .ow none], 1⟩⟩) (fun cf => by kernel_rfl) ?_
  rw [d0]
  refine rs_all (s1 := ⟨Ha n d ++ us 3 ++ [J n, No, No, J n, No, No, No, J d, No, No, No, J d, boolA (decide ((d : Int) > 12)), boolA (decide ((d : Int) > 12))] ++ us 6, ⟨[.row [J n] 0 .ow none], 1⟩⟩) (fun cf => by kernel_rfl) ?_
  rw [d8]
  refine ev_false (by kernel_rfl) ?_
  refine ev_skip ?_
  refine ev_seq ?_
  refine ev_reg (by kernel_rfl) ?_
  refine rs_all (s1 := ⟨[J n, J d, .ptr 0 0 0, U, .d (.v (.slice none 0 0)), J 0, .ptr 2 2 0, U, U] ++ [J n, No, No, J n, No, No, No, J d, No, No, No, J d, No, No, .own 1 1 0 0 8 (some 0)] ++ us 5, ⟨[.row [J n] 0 .ow none, .row [] 1 .ow none, .row [.own 1 1 0 0 8 (some 0)] 2 .ow none], 3⟩⟩) (fun cf => by kernel_rfl) ?_
  refine ev_seq ?_
  refine ev_reg (by kernel_rfl) ?_
  refine rs_all (s1 := ⟨[J n, J d, .ptr 0 0 0, U, .d (.v (.slice none 0 0)), J 0, .ptr 2 2 0, .ptr 3 3 0, U] ++ [J n, No, No, J n, No, No, No, J d, No, No, No, J d, No, No, .own 1 1 0 0 8 (some 0)] ++ us 5, ⟨[.row [J n] 0 .ow none, .row [] 1 .ow none, .row [.own 1 1 0 0 8 (some 0)] 2 .ow none, .row (Mc zeroM) 3 .ow none], 4⟩⟩) (fun cf => by kernel_rfl) ?_
  refine ev_seq ?_
  refine ev_reg (by kernel_rfl) ?_
  refine rs_take 1 (s1 := ⟨[J n, J d, .ptr 0 0 0, U, .d (.v (.slice none 0 0)), J 0, .ptr 2 2 0, .ptr 3 3 0, .ptr 4 4 0] ++ [J n, No, No, J n, No, No, No, J d, No, No, No, J d, No, No, .own 1 1 0 0 8 (some 0)] ++ us 5, ⟨[.row [J n] 0 .ow none, .row [] 1 .ow none, .row [.own 1 1 0 0 8 (some 0)] 2 .ow none, .row (Mc zeroM) 3 .ow none, .row [.d (.v .nilFunc)] 4 .ow none], 5⟩⟩) (fun cf => by kernel_rfl) ?_
  refine rs_done rfl ?_
  refine ev_seq ?_
  refine ev_reg (by kernel_rfl) ?_
  refine rs_all (s1 := ⟨[J n, J d, .ptr 0 0 0, U, .d (.v (.slice none 0 0)), J 0, .ptr 2 2 0, .ptr 3 3 0, .ptr 4 4 0] ++ [J n, No, No, J n, No, No, No, J d, No, No, No, J d, No, No, .own 1 1 0 0 8 (some 0), .fn 44 caps] ++ us 4, Mk n zeroM (.own 1 1 0 0 8 (some 0)) [] 5⟩) (fun cf => by kernel_rfl) ?_
  refine ev_seq ?_
  refine ev_reg (by kernel_rfl) ?_
  refine rs_take 2 (s1 := ⟨[J n, J d, .ptr 0 0 0, U, .d (.v (.slice none 0 0)), J 0, .ptr 2 2 0, .ptr 3 3 0, .ptr 4 4 0] ++ [J n, No, No, J n, No, No, No, J d, No, No, No, J d, No, No, .own 1 1 0 0 8 (some 0), .fn 44 caps, .fn 44 caps, J d] ++ us 2, Mk n zeroM (.own 1 1 0 0 8 (some 0)) [] 5⟩) (fun cf => by kernel_rfl) ?_
  refine rs_mem (k := 1) (g := 44) (av := [J 0, J (d : Int)] ++ caps) (r := .tu []) (m1 := Mk n f' S' rest' N') (s1 := ⟨[J n, J d, .ptr 0 0 0, U, .d (.v (.slice none 0 0)), J 0, .ptr 2 2 0, .ptr 3 3 0, .ptr 4 4 0] ++ [J n, No, No, J n, No, No, No, J d, No, No, No, J d, No, No, .own 1 1 0 0 8 (some 0), .fn 44 caps, .fn 44 caps, J d, .tu []] ++ us 1, Mk n f' S' rest' N'⟩) (by kernel_rfl) hc (by kernel_rfl) ?_
  refine rs_done rfl ?_
  refine ev_seq ?_
  refine ev_reg (by kernel_rfl) ?_
  refine rs_all (s1 := ⟨[J n, J d, .ptr 0 0 0, U, S', J 0, .ptr 2 2 0, .ptr 3 3 0, .ptr 4 4 0] ++ [J n, No, No, J n, No, No, No, J d, No, No, No, J d, No, No, .own 1 1 0 0 8 (some 0), .fn 44 caps, .fn 44 caps, J d, .tu [], S'], Mk n f' S' rest' N'⟩) (fun cf => by kernel_rfl) ?_
  refine ev_ret ?_
  exact leaf (r0 := .tu [S', J 0]) (.inr rfl) (by kernel_rfl) (snap_list hS) rfl

/-- The list of all monomials. -/
def allF (n d : Nat) : List (Nat → Int) := match n with
  | 0 => match d with
    | 0 => [zeroM]
    | _ + 1 => []
  | n + 1 => (fillF n 0 d (zeroM, [])).2

theorem g_all_ok {n d : Nat} (hn : n ≤ 8) (hd : d ≤ 12) : Gets Try.cx 30 [J n, J d] (.tu [.d (.sl false (allF n d).length (dl (allF n d))), J 0]) := by
  refine g_all hn hd ?_
  cases n with
  | zero => cases d with
    | zero =>
      obtain ⟨S', rest', N', h1, h2⟩ := fill_zero0 (f := zeroM) (S := .own 1 1 0 0 8 (some 0)) (rest := []) (N := 5) (l := []) (.inl ⟨rfl, rfl⟩) (by decide)
      exact ⟨_, S', rest', N', h1, h2⟩
    | succ d => exact ⟨_, _, _, _, fill_zero1 (left := d), .inl ⟨rfl, rfl⟩⟩
  | succ n =>
    have hp : (13 : Nat) ^ n ≤ 13 ^ 7 := Nat.pow_le_pow_right (by decide) (by omega)
    obtain ⟨S', rest', N', h1, h2, _⟩ := fill_runs hn n 0 (by omega) d zeroM (.own 1 1 0 0 8 (some 0)) [] 5 [] hd (.inl ⟨rfl, rfl⟩) (by
      have : (13 : Nat) ^ 7 = 62748517 := by decide
      simp only [List.length_nil]; omega)
    exact ⟨_, S', rest', N', h1, h2⟩

theorem g_all_no {n d : Int} (h : n < 0 ∨ n > 8 ∨ d < 0 ∨ d > 12) : Gets Try.cx 30 [J n, J d] (.tu [.d (.v (.slice none 0 0)), J 1]) := by
  refine gets_of (fn := Try.f30) (by kernel_rfl) rfl ?_
  show EvK _ _ _ ⟨[J n, J d] ++ us 27, ⟨[], 0⟩⟩ _
  refine ev_seq ?_
  refine ev_reg (by kernel_rfl) ?_
  refine rs_all (s1 := ⟨Ha n d ++ us 23, ⟨[.row [J n] 0 .ow none], 1⟩⟩) (fun cf => by kernel_rfl) ?_
  refine ev_seq ?_
  refine ev_seq ?_
  refine ev_reg (by kernel_rfl) ?_
  refine rs_take 3 (s1 := ⟨Ha n d ++ us 3 ++ [J n, boolA (decide (n < 0)), boolA (decide (n < 0))] ++ us 17, ⟨[.row [J n] 0 .ow none], 1⟩⟩) (fun cf => by kernel_rfl) ?_
  rcases hb1 : (decide (n < 0) : Bool) with _ | _
  · refine rs_take 4 (s1 := ⟨Ha n d ++ us 3 ++ [J n, No, No, J n, boolA (decide (n > 8)), boolA (decide (n > 8)), boolA (decide (n > 8))] ++ us 13, ⟨[.row [J n] 0 .ow none], 1⟩⟩) (fun cf => by kernel_rfl) ?_
    rcases hb2 : (decide (n > 8) : Bool) with _ | _
    · refine rs_take 4 (s1 := ⟨Ha n d ++ us 3 ++ [J n, No, No, J n, No, No, No, J d, boolA (decide (d < 0)), boolA (decide (d < 0)), boolA (decide (d < 0))] ++ us 9, ⟨[.row [J n] 0 .ow none], 1⟩⟩) (fun cf => by kernel_rfl) ?_
      rcases hb3 : (decide (d < 0) : Bool) with _ | _
      · have hb4 : decide (d > 12) = true := decide_eq_true (by have := of_decide_eq_false hb1; have := of_decide_eq_false hb2; have := of_decide_eq_false hb3; omega)
        refine rs_all (s1 := ⟨Ha n d ++ us 3 ++ [J n, No, No, J n, No, No, No, J d, No, No, No, J d, boolA (decide (d > 12)), boolA (decide (d > 12))] ++ us 6, ⟨[.row [J n] 0 .ow none], 1⟩⟩) (fun cf => by kernel_rfl) ?_
        rw [hb4]
        refine ev_true (by kernel_rfl) ?_
        refine ev_seq ?_
        refine ev_reg (by kernel_rfl) ?_
        refine rs_all (s1 := ⟨[J n, J d, .ptr 0 0 0, U, .d (.v (.slice none 0 0)), J 1] ++ us 3 ++ [J n, No, No, J n, No, No, No, J d, No, No, No, J d, Yes, Yes] ++ us 6, ⟨[.row [J n] 0 .ow none], 1⟩⟩) (fun cf => by kernel_rfl) ?_
        refine ev_ret ?_
        exact leaf (r0 := .tu [.d (.v (.slice none 0 0)), J 1]) (.inr rfl) (by kernel_rfl) (by kernel_rfl) rfl
      · refine rs_all (s1 := ⟨Ha n d ++ us 3 ++ [J n, No, No, J n, No, No, No, J d, Yes, Yes, Yes, U, U, Yes] ++ us 6, ⟨[.row [J n] 0 .ow none], 1⟩⟩) (fun cf => by kernel_rfl) ?_
        refine ev_true (by kernel_rfl) ?_
        refine ev_seq ?_
        refine ev_reg (by kernel_rfl) ?_
        refine rs_all (s1 := ⟨[J n, J d, .ptr 0 0 0, U, .d (.v (.slice none 0 0)), J 1] ++ us 3 ++ [J n, No, No, J n, No, No, No, J d, Yes, Yes, Yes, U, U, Yes] ++ us 6, ⟨[.row [J n] 0 .ow none], 1⟩⟩) (fun cf => by kernel_rfl) ?_
        refine ev_ret ?_
        exact leaf (r0 := .tu [.d (.v (.slice none 0 0)), J 1]) (.inr rfl) (by kernel_rfl) (by kernel_rfl) rfl
    · refine rs_all (s1 := ⟨Ha n d ++ us 3 ++ [J n, No, No, J n, Yes, Yes, Yes, U, U, Yes, Yes, U, U, Yes] ++ us 6, ⟨[.row [J n] 0 .ow none], 1⟩⟩) (fun cf => by kernel_rfl) ?_
      refine ev_true (by kernel_rfl) ?_
      refine ev_seq ?_
      refine ev_reg (by kernel_rfl) ?_
      refine rs_all (s1 := ⟨[J n, J d, .ptr 0 0 0, U, .d (.v (.slice none 0 0)), J 1] ++ us 3 ++ [J n, No, No, J n, Yes, Yes, Yes, U, U, Yes, Yes, U, U, Yes] ++ us 6, ⟨[.row [J n] 0 .ow none], 1⟩⟩) (fun cf => by kernel_rfl) ?_
      refine ev_ret ?_
      exact leaf (r0 := .tu [.d (.v (.slice none 0 0)), J 1]) (.inr rfl) (by kernel_rfl) (by kernel_rfl) rfl
  · refine rs_all (s1 := ⟨Ha n d ++ us 3 ++ [J n, Yes, Yes, U, U, Yes, Yes, U, U, Yes, Yes, U, U, Yes] ++ us 6, ⟨[.row [J n] 0 .ow none], 1⟩⟩) (fun cf => by kernel_rfl) ?_
    refine ev_true (by kernel_rfl) ?_
    refine ev_seq ?_
    refine ev_reg (by kernel_rfl) ?_
    refine rs_all (s1 := ⟨[J n, J d, .ptr 0 0 0, U, .d (.v (.slice none 0 0)), J 1] ++ us 3 ++ [J n, Yes, Yes, U, U, Yes, Yes, U, U, Yes, Yes, U, U, Yes] ++ us 6, ⟨[.row [J n] 0 .ow none], 1⟩⟩) (fun cf => by kernel_rfl) ?_
    refine ev_ret ?_
    exact leaf (r0 := .tu [.d (.v (.slice none 0 0)), J 1]) (.inr rfl) (by kernel_rfl) (by kernel_rfl) rfl

end Go.Proofs.Ytcnpldkadgloiaa
