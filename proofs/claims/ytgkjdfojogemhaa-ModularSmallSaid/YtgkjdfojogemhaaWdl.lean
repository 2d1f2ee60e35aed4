/-
  The reference: rational numbers. Made by program. Conditions: none.
-/
import Derived.Test.YtgkjdfojogemhaaWdk
set_option maxRecDepth 100000
set_option maxHeartbeats 20000000
set_option linter.unusedSimpArgs false
set_option linter.unusedVariables false
namespace Go.Proofs.Ytgkjdfojogemhaa.W
open Go.Am
theorem iv_len {n : Int} {s : Bool} {x : D} {l : List Nat} (h : Iv n s x l) {k : Nat} (hb : n.natAbs < 4294967296 ^ k) : l.length ≤ k := by
  obtain ⟨_, _, nl, hn, _⟩ := h
  rw [natAbs_iv hn] at hb
  exact nrm_len nl hb
theorem iv_lt {n : Int} {s : Bool} {x : D} {l : List Nat} (h : Iv n s x l) : n.natAbs < 4294967296 ^ l.length := by
  obtain ⟨_, ol, _, hn, _⟩ := h
  rw [natAbs_iv hn]
  exact val_lt ol
theorem store_rat {m : Mem} {h g : Nat} {s t : Bool} {l p : List Nat} {x y : D} {c0 c1 c2 c3 : AV} (hx : Ws l x) (hy : Ws p y) (hr : m.b[h]? = some (.row [c0, c1, c2, c3] g .ow none)) : storeA Try.cx 36 m (.ptr h g 0) (.ag [boolA s, .d x, boolA t, .d y]) = some ⟨m.b.set h (.row [boolA s, .d x, boolA t, .d y] g .ow none), m.n⟩ := by
  have e : storeA Try.cx 36 m (.ptr h g 0) (.ag [boolA s, .d x, boolA t, .d y]) = if [boolA s, .d x, boolA t, .d y].length = 4 ∧ [boolA s, .d x, boolA t, .d y].all cellOk = true then (match own? m h g with
    | some (cs, kid) => if 0 + 4 ≤ cs.length then some (m.write h g kid (over cs 0 [boolA s, .d x, boolA t, .d y])) else none
    | none => none) else none := by kernel_rfl
  have ho : own? m h g = some ([c0, c1, c2, c3], none) := by simp [own?, hr]
  have hc : [boolA s, .d x, boolA t, .d y].all cellOk = true := by
    simp only [List.all_cons, List.all_nil, cellOk_ws hx, cellOk_ws hy, Bool.and_true, Bool.true_and]
    rfl
  rw [e, if_pos ⟨rfl, hc⟩, ho]
  rfl
theorem div_natAbs_le (n m : Int) : (n / m).natAbs ≤ n.natAbs := Int.natAbs_ediv_le_natAbs n m
end Go.Proofs.Ytgkjdfojogemhaa.W
