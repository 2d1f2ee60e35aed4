/-
  From the machine's run of a law to the contract of the statement; rules for walking. Conditions: none.
-/
import Derived.Test.YtgkjdfojogemhaaMf
import Derived.ChangeArms
import Derived.ChangeShapes
import Derived.OpenShut
import Derived.WideKeyArgs
import Derived.WalkKit
import Derived.ProofKit
set_option linter.unusedSimpArgs false
set_option linter.unusedVariables false
namespace Go.Am

/-- A type of plain data; a struct is the list of its fields (`nil`, `cons`). -/
inductive TyD where
  | int (k : IntKind)
  | bool
  | arr (n : Nat) (e : TyD)
  | sl (e : TyD)
  | nil
  | cons (e r : TyD)

def TyD.cells : TyD → Nat
  | .int _ | .bool | .sl _ => 1
  | .arr n e => n * e.cells
  | .nil => 0
  | .cons e r => e.cells + r.cells

mutual
def Is (P : Program) : TyD → TypeId → Prop
  | .int k, t => P.underlying t = some (.int k)
  | .bool, t => P.underlying t = some .bool
  | .arr n e, t => ∃ te, P.underlying t = some (.array n te) ∧ Is P e te ∧ P.cellsOf te = e.cells ∧ P.cellsOf t = n * e.cells
  | .sl e, t => ∃ te, P.underlying t = some (.slice te) ∧ Is P e te ∧ P.cellsOf te = e.cells ∧ 0 < e.cells
  | .nil, _ => False
  | .cons e r, t => ∃ f fs, P.underlying t = some (.struct ⟨f :: fs⟩) ∧ f.offset = 0 ∧ Is P e f.type ∧ P.cellsOf f.type = e.cells ∧ IsF P r e.cells fs ∧ P.cellsOf t = e.cells + r.cells
def IsF (P : Program) : TyD → Nat → List Field → Prop
  | .nil, _, fs => fs = []
  | .cons e r, off, fs => ∃ f fs', fs = f :: fs' ∧ f.offset = off ∧ Is P e f.type ∧ P.cellsOf f.type = e.cells ∧ IsF P r (off + e.cells) fs'
  | _, _, _ => False
end

/-- The data of a type, cell by cell. -/
def Good : TyD → List D → Prop
  | .int k, ds => ∃ n, ds = [.v (.int k n)] ∧ k.min ≤ n ∧ n ≤ k.max
  | .bool, ds => ∃ b, ds = [.v (.bool b)]
  | .arr n e, ds => ∃ xs : List (List D), ds = xs.flatten ∧ xs.length = n ∧ ∀ x ∈ xs, Good e x
  | .sl e, ds => ds = [.v (.slice none 0 0)] ∨ ∃ xs : List (List D), ds = [.sl false xs.length xs.flatten] ∧ xs.length ≤ maxLen ∧ ∀ x ∈ xs, Good e x
  | .nil, ds => ds = []
  | .cons e r, ds => ∃ x y, ds = x ++ y ∧ Good e x ∧ Good r y

def NoB : Nat → Prop := fun _ => False

/-- Data that stands for cells, cell by cell. -/
def RDs (w : World) (ds : List D) (cs : List Value) : Prop := ds.length = cs.length ∧ ∀ i (h : i < ds.length), RD NoB w (ds[i]'h) (cs.getD i undef)

section
variable {H : Type} {enc : TypeId × Value → H} {P : Program} {w : World} {base : Nat} {spare : Nat → Bool} {held : Bool}

theorem RDs.append {ds ds' : List D} {cs cs' : List Value} (h : RDs w ds cs) (h' : RDs w ds' cs') : RDs w (ds ++ ds') (cs ++ cs') := by
  refine ⟨by simp [h.1, h'.1], fun i hi => ?_⟩
  by_cases h1 : i < ds.length
  · rw [List.getElem_append_left h1, List.getD_eq_getElem?_getD, List.getElem?_append_left (by rw [← h.1]; exact h1), ← List.getD_eq_getElem?_getD]
    exact h.2 i h1
  · rw [List.getElem_append_right (by omega), List.getD_eq_getElem?_getD, List.getElem?_append_right (by rw [← h.1]; omega), ← List.getD_eq_getElem?_getD, ← h.1]
    exact h'.2 _ _

theorem RDs.one {d : D} {v : Value} (h : RD NoB w d v) : RDs w [d] [v] := ⟨rfl, fun i hi => by
  have : i = 0 := by simp at hi; omega
  subst this
  exact h⟩

theorem wf_bounds {k : IntKind} {n : Int} (h : (Lit.int k n).wf = true) : k.min ≤ n ∧ n ≤ k.max := by
  simpa [Lit.wf] using h

theorem add_add (a : Addr) (m j : Nat) : (a.add m).add j = a.add (m + j) := by
  unfold Addr.add
  by_cases h : m = 0
  · subst h; simp
  · by_cases h' : j = 0
    · subst h'; simp [h]
    · have : ¬ m + j = 0 := by omega
      simp [h, h', Nat.add_assoc]

/-- Chunks of equal size, each of them read. -/
theorem chunks {w : World} {G : List D → Prop} (k : Nat) : ∀ (n : Nat) (cs : List Value), cs.length = n * k → (∀ i, i < n → ∃ ds, G ds ∧ ds.length = k ∧ RDs w ds ((cs.drop (i * k)).take k)) →
    ∃ xs : List (List D), xs.length = n ∧ (∀ x ∈ xs, G x ∧ x.length = k) ∧ RDs w xs.flatten cs
  | 0, cs, hl, _ => by
    have : cs = [] := List.eq_nil_of_length_eq_zero (by simpa using hl)
    subst this
    exact ⟨[], rfl, fun _ h => (by cases h), rfl, fun i hi => absurd hi (by simp)⟩
  | n + 1, cs, hl, h => by
    have hl' : cs.length = n * k + k := by rw [hl, Nat.succ_mul]
    obtain ⟨ds, h1, h2, h3⟩ := h 0 (by omega)
    obtain ⟨xs, h4, h5, h6⟩ := chunks k n (cs.drop k) (by simp; omega) fun i hi => by
      obtain ⟨ds, g1, g2, g3⟩ := h (i + 1) (by omega)
      refine ⟨ds, g1, g2, ?_⟩
      rw [List.drop_drop, show k + i * k = (i + 1) * k by rw [Nat.succ_mul]; omega]
      exact g3
    refine ⟨ds :: xs, by simp [h4], fun x hx => ?_, ?_⟩
    · rcases List.mem_cons.mp hx with rfl | hx
      · exact ⟨h1, h2⟩
      · exact h5 x hx
    · have := h3.append h6
      simp only [Nat.zero_mul, List.drop_zero, List.take_append_drop] at this
      simpa using this

mutual
theorem open_good : ∀ (τ : TyD) (fuel : Nat) (t : TypeId) (cs : List Value) (x : DataW H × List MemPlace), Is P τ t → DataW.trod enc P w base spare held fuel t cs = some x → ∃ ds, Good τ ds ∧ ds.length = τ.cells ∧ RDs w ds cs
  | .int k, fuel, t, cs, x, hi, h => by
    obtain ⟨n, rfl, _, hw⟩ := DataW.trod_int hi h
    obtain ⟨h1, h2⟩ := wf_bounds hw
    exact ⟨[.v (.int k n)], ⟨n, rfl, h1, h2⟩, rfl, .one (.v _)⟩
  | .bool, fuel, t, cs, x, hi, h => by
    obtain ⟨b, rfl, _⟩ := DataW.trod_bool hi h
    exact ⟨[.v (.bool b)], ⟨b, rfl⟩, rfl, .one (.v _)⟩
  | .arr n e, fuel, t, cs, x, hi, h => by
    obtain ⟨te, h1, h2, h3, h4⟩ := hi
    obtain ⟨xs, m, _, _, hl, hx, hel⟩ := DataW.trod_array h1 h
    rw [h4] at hl
    rw [h3] at hel
    obtain ⟨ys, g1, g2, g3⟩ := chunks (w := w) (G := Good e) e.cells n cs hl fun i hi => by
      have hi' : i < xs.length := by omega
      have hz := hel i hi
      rw [List.getElem?_eq_getElem hi'] at hz
      exact open_good e m te _ _ h2 hz
    refine ⟨ys.flatten, ⟨ys, rfl, g1, fun y hy => (g2 y hy).1⟩, ?_, g3⟩
    rw [g3.1, hl]; rfl
  | .sl e, fuel, t, cs, x, hi, h => by
    obtain ⟨te, h1, h2, h3, h4⟩ := hi
    rcases DataW.trod_slice h1 h with ⟨rfl, _⟩ | ⟨a, len, cap, elems, rest, n, _, rfl, _, hb, hl, hm, hlen, hel, _, _⟩
    · exact ⟨_, .inl rfl, rfl, .one (.v _)⟩
    · rw [h3] at hel
      have each : ∀ i, i < len → ∃ cs', cs'.length = e.cells ∧ (∀ j, j < e.cells → w.cell? (a.add (i * e.cells + j)) = cs'[j]?) ∧ ∃ ds, Good e ds ∧ ds.length = e.cells ∧ RDs w ds cs' := by
        intro i hi
        have hz := hel i hi
        rw [List.getElem?_eq_getElem (by omega)] at hz
        simp only [Option.bind_eq_some_iff] at hz
        obtain ⟨cs', hc, hz⟩ := hz
        obtain ⟨_, hcl, hcc⟩ := World.cells?_some hc
        refine ⟨cs', hcl, fun j hj => ?_, open_good e n te _ _ h2 hz⟩
        rw [← hcc j hj, add_add]
      by_cases h0 : len = 0
      · subst h0
        exact ⟨[.sl false 0 []], .inr ⟨[], rfl, by simp, fun _ hx => by cases hx⟩, rfl, .one (.emp _ _ _ (by simp))⟩
      · -- all the cells
        let cell : Nat → Value := fun j => (w.cell? (a.add j)).getD undef
        have hcell : ∀ j, j < len * e.cells → w.cell? (a.add j) = some (cell j) := by
          intro j hj
          obtain ⟨cs', c1, c2, _⟩ := each (j / e.cells) (by rw [Nat.div_lt_iff_lt_mul h4]; exact hj)
          have := c2 (j % e.cells) (Nat.mod_lt _ h4)
          rw [Nat.div_add_mod' j e.cells, List.getElem?_eq_getElem (by rw [c1]; exact Nat.mod_lt _ h4)] at this
          simp only [cell, this, Option.getD_some]
        obtain ⟨ys, g1, g2, g3⟩ := chunks (w := w) (G := Good e) e.cells len ((List.range (len * e.cells)).map cell) (by simp) fun i hi => by
          obtain ⟨cs', c1, c2, ds, c3, c4, c5⟩ := each i hi
          refine ⟨ds, c3, c4, ?_⟩
          have : (((List.range (len * e.cells)).map cell).drop (i * e.cells)).take e.cells = cs' := by
            have hle : i * e.cells + e.cells ≤ len * e.cells := by rw [← Nat.succ_mul]; exact Nat.mul_le_mul_right _ hi
            refine List.ext_getElem? fun j => ?_
            by_cases hj : j < e.cells
            · rw [List.getElem?_take_of_lt hj, List.getElem?_drop, List.getElem?_map, List.getElem?_range (by omega), ← c2 j hj, hcell _ (by omega)]
              rfl
            · rw [List.getElem?_eq_none (by simp; omega), List.getElem?_eq_none (by omega)]
          rw [this]; exact c5
        have hfl : ys.flatten.length = len * e.cells := by rw [g3.1]; simp
        have h00 := hcell 0 (by have := Nat.mul_pos (Nat.pos_of_ne_zero h0) h4; omega)
        have hsp : a.spot = none := by
          have : a.add 0 = a := by unfold Addr.add; split <;> simp_all
          rw [this] at h00
          unfold World.cell? at h00
          split at h00
          · split at h00
            · cases h00
            · rename_i hs; simpa using hs
          · cases h00
        obtain ⟨b, o, s⟩ := a
        simp only at hsp
        subst hsp
        have hadd : ∀ j, (⟨b, o, none⟩ : Addr).add j = ⟨b, o + j, none⟩ := fun j => add_none b o j
        have hbs : b < w.heap.size := by
          by_cases hh : b < w.heap.size
          · exact hh
          · rw [hadd] at h00
            unfold World.cell? at h00
            simp only [Array.getElem?_eq_none (Nat.le_of_not_lt hh)] at h00
            cases h00
        refine ⟨[.sl false len ys.flatten], .inr ⟨ys, by rw [g1], by rw [g1]; omega, fun y hy => (g2 y hy).1⟩, rfl, .one (.sl false len ys.flatten b o cap cell (fun i hi => ?_) (fun i hi => ?_) id hbs hl (fun hh => by cases hh))⟩
        · rw [← hadd]; exact hcell i (by omega)
        · have := g3.2 i hi
          rw [List.getD_eq_getElem?_getD, List.getElem?_map, List.getElem?_range (by omega)] at this
          exact this
  | .nil, fuel, t, cs, x, hi, h => by cases hi
  | .cons e r, fuel, t, cs, x, hi, h => by
    obtain ⟨f, fs, h1, h2, h3, h4, h5, h6⟩ := hi
    obtain ⟨xs, n, _, _, hl, hx, hel⟩ := DataW.trod_struct h1 h
    have he : ∀ (i : Nat) (g : Field), (f :: fs)[i]? = some g → ∃ y, DataW.trod enc P w base spare held n g.type ((cs.drop g.offset).take (P.cellsOf g.type)) = some y := by
      intro i g hg
      have := hel i g (by simpa using hg)
      have hi' : i < xs.length := by
        rw [hx]
        have := (List.getElem?_eq_some_iff.mp hg).1
        simpa using this
      rw [List.getElem?_eq_getElem hi'] at this
      exact ⟨_, this⟩
    obtain ⟨y, hy⟩ := he 0 f rfl
    rw [h2, h4, List.drop_zero] at hy
    obtain ⟨ds, g1, g2, g3⟩ := open_good e n f.type _ _ h3 hy
    obtain ⟨ds', k1, k2, k3⟩ := open_fields r n e.cells fs cs h5 (by rw [hl, h6]) fun i g hg => he (i + 1) g (by simpa using hg)
    refine ⟨ds ++ ds', ⟨ds, ds', rfl, g1, k1⟩, by simp [TyD.cells, g2, k2], ?_⟩
    have := g3.append k3
    rwa [List.take_append_drop] at this

theorem open_fields : ∀ (τ : TyD) (n off : Nat) (fs : List Field) (cs : List Value), IsF P τ off fs → cs.length = off + τ.cells →
    (∀ (i : Nat) (g : Field), fs[i]? = some g → ∃ y, DataW.trod enc P w base spare held n g.type ((cs.drop g.offset).take (P.cellsOf g.type)) = some y) → ∃ ds, Good τ ds ∧ ds.length = τ.cells ∧ RDs w ds (cs.drop off)
  | .nil, n, off, fs, cs, hi, hl, _ => by
    refine ⟨[], rfl, rfl, ?_, fun i hi => absurd hi (by simp)⟩
    simp [hl, TyD.cells]
  | .cons e r, n, off, fs, cs, hi, hl, he => by
    obtain ⟨f, fs', rfl, h2, h3, h4, h5⟩ := hi
    obtain ⟨y, hy⟩ := he 0 f rfl
    rw [h2, h4] at hy
    obtain ⟨ds, g1, g2, g3⟩ := open_good e n f.type _ _ h3 hy
    obtain ⟨ds', k1, k2, k3⟩ := open_fields r n (off + e.cells) fs' cs h5 (by rw [hl]; simp only [TyD.cells]; omega) fun i g hg => he (i + 1) g (by simpa using hg)
    refine ⟨ds ++ ds', ⟨ds, ds', rfl, g1, k1⟩, by simp [TyD.cells, g2, k2], ?_⟩
    have := g3.append k3
    rw [← List.drop_drop, List.take_append_drop] at this
    exact this
  | .int _, _, _, _, _, hi, _, _ => by cases hi
  | .bool, _, _, _, _, hi, _, _ => by cases hi
  | .arr _ _, _, _, _, _, hi, _, _ => by cases hi
  | .sl _, _, _, _, _, hi, _, _ => by cases hi
end

end

end Go.Am

namespace Go.Am
open Go.ChangeShapes Go.WideShapes

/-- An argument of a type of plain data, as the machine has it. -/
def TyD.av : TyD → List D → AV
  | .arr _ _, ds | .cons _ _, ds | .nil, ds => .ag (ds.map .d)
  | _, ds => .d (ds.headD (.v undef))

/-- Arguments, and what they hold. -/
inductive Args : List TyD → List AV → Prop where
  | nil : Args [] []
  | cons {τ : TyD} {ts : List TyD} {ds : List D} {av : List AV} (h : Good τ ds) (hl : ds.length = τ.cells) (r : Args ts av) : Args (τ :: ts) (τ.av ds :: av)

inductive AllIs (P : Program) : List TyD → List TypeId → Prop where
  | nil : AllIs P [] []
  | cons {τ : TyD} {ts : List TyD} {t : TypeId} {us : List TypeId} (h : Is P τ t) (r : AllIs P ts us) : AllIs P (τ :: ts) (t :: us)

section
variable {H : Type} {enc : TypeId × Value → H} {P : Program} {W W' : World}

theorem one_cell {v x : Value} (h : v.cells.toList = [x]) (hx : ∀ cs, v ≠ .agg cs) : v = x := by
  cases v with
  | agg cs => exact absurd rfl (hx cs)
  | _ => simpa [Value.cells] using h

theorem agg_of {τ : TyD} {t : TypeId} {v : Value} (hi : Is P τ t) (ha : (∃ n e, τ = .arr n e) ∨ ∃ e r, τ = .cons e r) (hv : Value.okWide P W .any 0 t v) : ∃ cs, v = .agg cs := by
  unfold Value.okWide at hv
  rcases ha with ⟨n, e, rfl⟩ | ⟨e, r, rfl⟩
  · obtain ⟨te, h1, _⟩ := hi
    rw [h1] at hv
    obtain ⟨cs, h, _⟩ := hv
    exact ⟨cs, h⟩
  · obtain ⟨f, fs, h1, _⟩ := hi
    rw [h1] at hv
    obtain ⟨cs, h, _⟩ := hv
    exact ⟨cs, h⟩

theorem arg_open {ρ : Nat → Nat × Nat} {τ : TyD} {t : TypeId} {v : Value} {d : DataW H} {ps : List MemPlace} {base : Nat} (hi : Is P τ t) (hv : Value.okWide P W .any base t v) (h : DataW.Trod enc P W 0 (fun _ => true) true t v d ps) :
    ∃ ds, Good τ ds ∧ ds.length = τ.cells ∧ RV (Av NoB ρ ⟨[], 0⟩) ρ ⟨[], 0⟩ W (τ.av ds) v := by
  obtain ⟨fuel, hf⟩ := h
  obtain ⟨ds, h1, h2, h3⟩ := open_good τ fuel t _ _ hi hf
  have hA : ∀ b, Av NoB ρ ⟨[], 0⟩ b → NoB b := by
    rintro b (hb | ⟨h, hmut, _⟩)
    · exact hb
    · rcases hmut with ⟨_, _, _, a⟩ | ⟨_, _, a⟩ <;> simp at a
  have rd : ∀ {d : D} {u : Value}, RD NoB W d u → RD (Av NoB ρ ⟨[], 0⟩) W d u := fun h => h.mono (fun _ _ _ => rfl) (fun b _ hb => hA b hb) (Nat.le_refl _)
  refine ⟨ds, h1, h2, ?_⟩
  have hone : ∀ x, ds = [x] → (∀ cs, v ≠ .agg cs) → RV (Av NoB ρ ⟨[], 0⟩) ρ ⟨[], 0⟩ W (.d x) v := by
    intro x hx hna
    subst hx
    have hl : v.cells.toList.length = 1 := h3.1.symm
    obtain ⟨y, hy⟩ := List.length_eq_one_iff.mp hl
    have := h3.2 0 (by simp)
    rw [hy] at this
    rw [one_cell hy hna]
    exact .d _ _ (rd this)
  have hagg : ∀ cs, v = .agg cs → RV (Av NoB ρ ⟨[], 0⟩) ρ ⟨[], 0⟩ W (.ag (ds.map .d)) v := by
    intro cs hv
    subst hv
    have := RV.ag (A := Av NoB ρ ⟨[], 0⟩) (ρ := ρ) (m := ⟨[], 0⟩) (w := W) (ds.map .d) cs.toList (by simpa [Value.cells] using h3.1.symm) (fun i hi => by
      simp only [List.getElem_map]
      exact .d _ _ (rd (h3.2 i (by simpa using hi))))
    simpa using this
  cases τ with
  | int k =>
    obtain ⟨n, rfl, _⟩ := h1
    obtain ⟨n', rfl⟩ := okWide_int hi hv
    exact hone _ rfl fun cs h => by cases h
  | bool =>
    obtain ⟨b, rfl⟩ := h1
    obtain ⟨b', rfl⟩ := okWide_bool hi hv
    exact hone _ rfl fun cs h => by cases h
  | sl e =>
    have hi' := hi
    obtain ⟨te, hu, _⟩ := hi'
    obtain ⟨a, len, cap, rfl⟩ := okWide_slice hu hv
    have hl : ds.length = 1 := h2
    obtain ⟨x, rfl⟩ := List.length_eq_one_iff.mp hl
    exact hone _ rfl fun cs h => by cases h
  | arr n e =>
    have hi' := hi
    obtain ⟨te, hu, _⟩ := hi'
    unfold Value.okWide at hv
    rw [hu] at hv
    obtain ⟨cs, h, _⟩ := hv
    exact hagg cs h
  | cons e r =>
    have hi' := hi
    obtain ⟨f, fs, hu, _⟩ := hi'
    unfold Value.okWide at hv
    rw [hu] at hv
    obtain ⟨cs, h, _⟩ := hv
    exact hagg cs h
  | nil => cases hi

theorem args_open {ρ : Nat → Nat × Nat} {base : Nat} : ∀ {τs : List TyD} {ts : List TypeId} {vs : List Value} {ds : List (DataW H)} {ps : List MemPlace}, AllIs P τs ts →
    (∀ (j : Nat) t v, ts[j]? = some t → vs[j]? = some v → Value.okWide P W .any base t v) → DataW.TrodAll enc P W 0 (fun _ => true) true ts vs ds ps →
    ∃ av, Args τs av ∧ av.length = vs.length ∧ ∀ i (h : i < av.length), RV (Av NoB ρ ⟨[], 0⟩) ρ ⟨[], 0⟩ W (av[i]'h) (vs.getD i undef)
  | [], [], vs, ds, ps, .nil, _, h => by
    cases vs with
    | nil => exact ⟨[], .nil, rfl, fun i hi => absurd hi (by simp)⟩
    | cons v vs => cases ds <;> exact h.elim
  | τ :: τs, t :: ts, vs, ds, ps, .cons hi r, hval, h => by
    cases vs with
    | nil => cases ds <;> exact h.elim
    | cons v vs =>
      cases ds with
      | nil => exact h.elim
      | cons d ds =>
        obtain ⟨p, q, h1, h2, _⟩ := h
        obtain ⟨xs, g1, g2, g3⟩ := arg_open (ρ := ρ) hi (hval 0 t v rfl rfl) h1
        obtain ⟨av, k1, k2, k3⟩ := args_open (ρ := ρ) r (fun j t v hj hv => hval (j + 1) t v hj hv) h2
        refine ⟨τ.av xs :: av, .cons g1 g2 k1, by simp [k2], fun i hi => ?_⟩
        cases i with
        | zero => exact g3
        | succ i => simpa using k3 i (by simpa using hi)

theorem same_at (hh : ∀ b, b < W.heap.size → W'.heap[b]? = W.heap[b]?) {p : MemPlace} (hp : p.block < W.heap.size) : W.sameAt W' p := by
  cases p with
  | cell b off =>
    simp only [World.sameAt, World.cell?]
    rw [hh b hp]
  | map b => exact hh b hp

theorem trod_again (hl : laidOutB P = true) (hh : ∀ b, b < W.heap.size → W'.heap[b]? = W.heap[b]?) {sp : Nat → Bool} : ∀ {ts : List TypeId} {vs : List Value} {ds : List (DataW H)} {ps : List MemPlace},
    (∀ t ∈ ts, P.readableRec t = true ∧ t < P.types.size) → DataW.TrodAll enc P W 0 (fun _ => true) true ts vs ds ps → (∀ p ∈ ps, p.block < W.heap.size) → (∀ p ∈ ps, sp p.block = true) → DataW.TrodAll enc P W' 0 sp true ts vs ds ps
  | [], [], [], ps, _, h, _, _ => h
  | t :: ts, v :: vs, d :: ds, ps, ht, h, hlt, hsp => by
    obtain ⟨p, q, h1, h2, rfl⟩ := h
    exact ⟨p, q, WideElems.Trod_stays hl (ht t List.mem_cons_self).1 (ht t List.mem_cons_self).2 h1 (fun x hx => same_at hh (hlt x (List.mem_append_left _ hx))) (fun x hx => hsp x (List.mem_append_left _ hx)),
      trod_again hl hh (fun u hu => ht u (List.mem_cons_of_mem _ hu)) h2 (fun x hx => hlt x (List.mem_append_right _ hx)) (fun x hx => hsp x (List.mem_append_right _ hx)), rfl⟩
  | [], _ :: _, _, _, _, h, _, _ => h.elim
  | [], [], _ :: _, _, _, h, _, _ => h.elim
  | _ :: _, [], _, _, _, h, _, _ => h.elim
  | _ :: _, _ :: _, [], _, _, h, _, _ => h.elim

theorem kept_all (ho : W'.os = W.os) (hp : W'.output = W.output) (hh : ∀ b, b < W.heap.size → W'.heap[b]? = W.heap[b]?) (may : MemPlace → Prop) : W.keptBut W' may := by
  refine ⟨ho, hp, fun i hi => ?_⟩
  rw [hh i hi]
  generalize W.heap[i]? = x
  rcases x with _ | x
  · rfl
  · cases x with
    | cells c t fr => exact ⟨rfl, rfl, rfl, fun _ _ => rfl⟩
    | map es k => exact .inr ⟨rfl, rfl⟩
    | _ => rfl

/-- A law: the machine's run gives true for all arguments; so the function's contract holds. -/
theorem law_contract {Γ : Ctx} (ok : Γ.Ok) {f : FuncId} {fn : Func} {s : ChangeSpec} {τs : List TyD} {tb : TypeId} {fresh handsOn : Bool} (hvars : s.vars = [])
    (hspec : ∀ ds : List (DataW H), ds.length = τs.length → s.fn H ds = { results := [.lit (.bool true)], args := ds, vars := [] })
    (hres : fn.resultTypes = #[tb]) (htb : Γ.P.underlying tb = some .bool) (his : AllIs Γ.P τs fn.params.toList) (hlaid : laidOutB Γ.P = true) (hread : ∀ t ∈ fn.params.toList, Γ.P.readableRec t = true ∧ t < Γ.P.types.size)
    (hrun : ∀ av, Args τs av → ∃ n m', run Γ n f av ⟨[], 0⟩ = some (boolA true, m'))
    (W : World) (base : Nat) (args : Array Value) (ds gs : List (DataW H)) (before : List MemPlace)
    (hval : ∀ (j : Nat) t v, fn.params[j]? = some t → args[j]? = some v → Value.okWide Γ.P W .any base t v)
    (hW : DataW.Whole enc Γ.P fn.params.toList s.vars false W args.toList ds gs before) :
    Calls Γ.P f args W fun e W' => ∃ v, e = .returned v ∧ s.post enc Γ.P fn false fresh handsOn false W args v W' := by
  have hW' := hW
  obtain ⟨p, q, hA, hV, hbef, _, _⟩ := hW
  rw [hvars] at hV
  have hgs : gs = [] ∧ q = [] := by
    cases gs with
    | nil => exact ⟨rfl, hV⟩
    | cons g gs => exact hV.elim
  obtain ⟨rfl, rfl⟩ := hgs
  rw [List.append_nil] at hbef
  subst hbef
  let ρ : Nat → Nat × Nat := fun _ => (0, 0)
  have hm : MemInv NoB ρ ⟨[], 0⟩ W :=
    { row := fun h cs g s kid hr => by simp at hr, map := fun h es g hr => by simp at hr
      dis := fun h h' a _ _ => by rcases a with ⟨_, _, _, a⟩ | ⟨_, _, a⟩ <;> simp at a
      fz := fun h cs g kid hr => by simp at hr, kd := fun k cs g p kid hr => by simp at hr, ex := fun b hb => hb.elim }
  obtain ⟨av, h1, h2, h3⟩ := args_open (ρ := ρ) his (fun j t v hj hv => hval j t v (by simpa using hj) (by simpa using hv)) hA
  obtain ⟨n, m', hr⟩ := hrun av h1
  have hcall := run_sound ok n f av ⟨[], 0⟩ (boolA true) m' hr NoB ρ W args.toList hm ⟨h2.symm, h3⟩
  rw [Array.toArray_toList] at hcall
  refine hcall.mono fun e W' ⟨v, ρ', he, hv, _, hl⟩ => ⟨v, he, ?_⟩
  have hvb : v = .bool true := rv_bool hv
  subst hvb
  have hh : ∀ b, b < W.heap.size → W'.heap[b]? = W.heap[b]? := fun b hb => hl.keep b hb fun ⟨h, hmut, _⟩ => by
    rcases hmut with ⟨_, _, _, a⟩ | ⟨_, _, a⟩ <;> simp at a
  have hlt := hW'.lt
  have hlen : ds.length = τs.length := by
    have e1 : ∀ {ts : List TypeId} {vs : List Value} {ds : List (DataW H)} {ps : List MemPlace}, DataW.TrodAll enc Γ.P W 0 (fun _ => true) true ts vs ds ps → ds.length = ts.length := by
      intro ts
      induction ts with
      | nil => intro vs ds ps h; cases vs <;> cases ds <;> first | rfl | exact h.elim
      | cons t ts ih =>
        intro vs ds ps h
        cases vs with
        | nil => exact h.elim
        | cons v vs => cases ds with
          | nil => exact h.elim
          | cons d ds => obtain ⟨_, _, _, h2, _⟩ := h; simp [ih h2]
    have e2 : ∀ {τs : List TyD} {ts : List TypeId}, AllIs Γ.P τs ts → ts.length = τs.length := by
      intro τs ts h
      induction h with
      | nil => rfl
      | cons _ _ ih => simp [ih]
    rw [e1 hA, e2 his]
  have hsp := hspec ds hlen
  refine ⟨ds, [], before, [], before, [], hW', ?_, ?_, ?_, kept_all hl.os hl.output hh _, fun h => by cases h⟩
  · rw [List.append_nil, hsp, hres]
    exact ⟨[], [], Go.RowKit.shut_bool htb true, rfl, rfl⟩
  · rw [List.append_nil, hsp]
    exact trod_again hlaid hh hread hA hlt fun x hx => by simpa using hlt x hx
  · rw [List.append_nil, hsp, hvars]
    rfl

end

end Go.Am

namespace Go.Am

/-- What gives more. -/
def LeCF (cf cf' : CF) : Prop := ∀ g av m r, cf g av m = some r → cf' g av m = some r
def LeEX (e e' : EX) : Prop := ∀ f c s r, e f c s = some r → e' f c s = some r

section
variable {Γ : Ctx} {cf cf' : CF} {fk : Nat → Bool} {ops : Array Oper}

theorem pureCall_le (h : LeCF cf cf') {may : Bool} {g : FuncId} {av : List AV} {m : Mem} {r : AV × Mem} (hr : pureCall cf may g av m = some r) : pureCall cf' may g av m = some r := by
  unfold pureCall at hr ⊢
  split at hr
  · cases hr
  · split at hr
    · cases hr
    · rename_i hc
      rw [h _ _ _ _ hc]
      exact hr

theorem freshCall_le (h : LeCF cf cf') {g : FuncId} {av : List AV} {m : Mem} {r : AV × Mem} (hr : freshCall cf g av m = some r) : freshCall cf' g av m = some r := by
  unfold freshCall at hr ⊢
  split at hr
  · cases hr
  · rename_i bs hbs
    split at hr
    · rename_i hc
      rw [h _ _ _ _ hc]
      exact hr
    · rename_i hn
      have hp := pureCall_le h hr
      have hex : ∃ x, cf g bs ⟨[], 0⟩ = some x := by
        unfold pureCall at hr
        rw [hbs] at hr
        simp only at hr
        cases hc : cf g bs ⟨[], 0⟩ with
        | none => rw [hc] at hr; cases hr
        | some x => exact ⟨x, rfl⟩
      obtain ⟨x, hx⟩ := hex
      rw [h _ _ _ _ hx]
      split
      · rename_i hc
        exact absurd (hx.trans hc) (hn _ _ _ _ _ _ _)
      · exact hp

theorem callA_le (h : LeCF cf cf') {g : FuncId} {av : List AV} {m : Mem} {r : AV × Mem} (hr : callA Γ cf g av m = some r) : callA Γ cf' g av m = some r := by
  unfold callA at hr ⊢
  split at hr
  · exact h _ _ _ _ hr
  · exact freshCall_le h hr
  · split at hr
    · rename_i hc
      rw [h _ _ _ _ hc]
      exact hr
    · cases hr
  · split at hr
    · rename_i hh; rw [if_pos hh]; exact h _ _ _ _ hr
    · rename_i hh; rw [if_neg hh]; exact pureCall_le h hr

theorem stepOp_le (h : LeCF cf cf') {d wk : Bool} {o : Oper} {s : St} {r : AV × Mem} (hr : stepOp Γ fk cf ops d wk o s = some r) : stepOp Γ fk cf' ops d wk o s = some r := by
  unfold stepOp at hr ⊢
  split at hr
  · cases hr
  · exact hr
  · split at hr
    · rename_i hc
      rw [if_pos hc]
      split at hr
      · cases d with
        | false => exact callA_le h hr
        | true => cases wk with
          | true => exact callA_le h hr
          | false =>
            simp only at hr ⊢
            split at hr
            · rename_i hh; rw [if_pos hh]; exact freshCall_le h hr
            · rename_i hh; rw [if_neg hh]; exact pureCall_le h hr
      · cases hr
    · rename_i hc
      rw [if_neg hc]
      exact hr

theorem runOps_le (h : LeCF cf cf') : ∀ (l : List Oper) (s s' : St), runOps Γ fk cf ops l s = some s' → runOps Γ fk cf' ops l s = some s'
  | [], _, _, hr => hr
  | o :: l, s, s', hr => by
    unfold runOps at hr ⊢
    split at hr
    · rename_i hs
      rw [stepOp_le h hs]
      exact runOps_le h l _ s' hr
    · cases hr

theorem runD_le (h : LeCF cf cf') : ∀ (l : List (Nat × Bool)) (H : List Nat) (s s' : St), runD Γ fk cf ops l H s = some s' → runD Γ fk cf' ops l H s = some s'
  | [], _, _, _, hr => hr
  | (i, wk) :: l, H, s, s', hr => by
    unfold runD at hr ⊢
    split at hr
    · split at hr
      · split at hr
        · rename_i hs
          rw [stepOp_le h hs]
          exact runD_le h l _ _ s' hr
        · cases hr
      · cases hr
    · cases hr

theorem region_le (h : LeCF cf cf') {f : FuncId} {id : Nat} {d : Bool} {s s' : St} (hr : region Γ cf f id ops d s = some s') : region Γ cf' f id ops d s = some s' := by
  unfold region at hr ⊢
  split at hr
  · rename_i hd
    rw [if_pos hd]
    split at hr
    · exact runD_le h _ _ _ _ hr
    · cases hr
  · rename_i hd
    rw [if_neg hd]
    exact runOps_le h _ _ _ hr

theorem inner_le (h : LeCF cf cf') {e e' : EX} (he : LeEX e e') (f : FuncId) : ∀ (c : Code) (s : St) (r : Out × St), inner Γ cf e f c s = some r → inner Γ cf' e' f c s = some r
  | .skip, _, _, hr => hr
  | .region .., s, r, hr => by
    simp only [inner] at hr ⊢
    split at hr
    · rename_i hs
      rw [region_le h hs]
      exact hr
    · cases hr
  | .seq a b, s, r, hr => by
    simp only [inner] at hr ⊢
    split at hr
    · rename_i hs
      rw [inner_le h he f a s _ hs]
      exact inner_le h he f b _ r hr
    · rename_i hn
      rw [inner_le h he f a s r hr]
      split
      · rename_i heq; exact absurd (hr.trans heq) (hn _)
      · rfl
  | .cond c a b, s, r, hr => by
    simp only [inner] at hr ⊢
    split at hr
    · exact inner_le h he f a s r hr
    · exact inner_le h he f b s r hr
    · cases hr
  | .block id a, s, r, hr => by
    simp only [inner] at hr ⊢
    split at hr
    · rename_i hs
      rw [inner_le h he f a s _ hs]
      exact hr
    · rename_i hn
      rw [inner_le h he f a s r hr]
      split
      · rename_i heq; exact absurd (hr.trans heq) (hn _ _)
      · rfl
  | .loop a, s, r, hr => by
    simp only [inner] at hr ⊢
    split at hr
    · rename_i hs
      rw [inner_le h he f a s _ hs]
      exact he _ _ _ _ hr
    · rename_i hn
      rw [inner_le h he f a s r hr]
      split
      · rename_i heq; exact absurd (hr.trans heq) (hn _)
      · rfl
  | .scope a, s, r, hr => inner_le h he f a s r hr
  | .exit _, _, _, hr => hr
  | .label _, _, _, hr => hr
  | .ret, _, _, hr => hr
  | .rangeFunc .., _, _, hr => by simp [inner] at hr
  | .goto _, _, _, hr => by simp [inner] at hr
  | .refuse _, _, _, hr => by simp [inner] at hr

theorem callF_le {e e' : EX} (he : LeEX e e') : LeCF (callF Γ e) (callF Γ e') := by
  intro g av m r hr
  unfold callF at hr ⊢
  split at hr
  · cases hr
  · split at hr
    · cases hr
    · split at hr
      · rename_i hs
        simp only [he _ _ _ _ hs]
        exact hr
      · rename_i hs
        simp only [he _ _ _ _ hs]
        exact hr
      · cases hr

theorem ex_step (Γ : Ctx) : ∀ n, LeEX (ex Γ n) (ex Γ (n + 1))
  | 0 => fun f c s r h => by cases h
  | n + 1 => fun f c s r h => inner_le (callF_le (ex_step Γ n)) (ex_step Γ n) f c s r h

theorem ex_le (Γ : Ctx) {n n' : Nat} (h : n ≤ n') : LeEX (ex Γ n) (ex Γ n') := by
  induction h with
  | refl => exact fun _ _ _ _ h => h
  | step _ ih => exact fun f c s r hr => ex_step Γ _ f c s r (ih f c s r hr)

theorem run_le (Γ : Ctx) {n n' : Nat} (h : n ≤ n') : LeCF (run Γ n) (run Γ n') := callF_le (ex_le Γ h)

/-- Short names. -/
abbrev U : AV := undefA
abbrev J (n : Int) : AV := intA .i64 n
abbrev us (n : Nat) : List AV := List.replicate n undefA
abbrev Yes : AV := boolA true
abbrev No : AV := boolA false

/-- The code runs, and what it comes to is fine. -/
def EvK (Γ : Ctx) (f : FuncId) (c : Code) (s : St) (K : Out → St → Prop) : Prop := ∃ n o s', ex Γ n f c s = some (o, s') ∧ K o s'

/-- The function gives the result, by value, from arguments by value. -/
def Gets (Γ : Ctx) (g : FuncId) (bs : List AV) (r : AV) : Prop := ∃ n r0 m', run Γ n g bs ⟨[], 0⟩ = some (r0, m') ∧ snapR m' r0 = some r

/-- The function runs on a memory. -/
def Runs1 (Γ : Ctx) (g : FuncId) (av : List AV) (m : Mem) (r : AV) (m' : Mem) : Prop := ∃ n, run Γ n g av m = some (r, m')

variable {f : FuncId} {s : St} {K : Out → St → Prop}

theorem ev_mono {c : Code} {K' : Out → St → Prop} (h : EvK Γ f c s K) (hk : ∀ o s, K o s → K' o s) : EvK Γ f c s K' :=
  let ⟨n, o, s', h1, h2⟩ := h; ⟨n, o, s', h1, hk _ _ h2⟩

theorem ev_skip (h : K .normal s) : EvK Γ f .skip s K := ⟨1, _, _, rfl, h⟩
theorem ev_ret (h : K .ret s) : EvK Γ f .ret s K := ⟨1, _, _, rfl, h⟩
theorem ev_exit {id : Nat} (h : K (.exit id) s) : EvK Γ f (.exit id) s K := ⟨1, _, _, rfl, h⟩
theorem ev_label {l : Nat} (h : K .normal s) : EvK Γ f (.label l) s K := ⟨1, _, _, rfl, h⟩

theorem ev_seq {a b : Code} (h : EvK Γ f a s fun o s1 => match o with | .normal => EvK Γ f b s1 K | o => K o s1) : EvK Γ f (.seq a b) s K := by
  obtain ⟨n, o, s1, h1, h2⟩ := h
  cases n with
  | zero => cases h1
  | succ n =>
    cases o with
    | normal =>
      obtain ⟨k, o', s', h3, h4⟩ := h2
      cases k with
      | zero => cases h3
      | succ k =>
        have e1 := ex_le Γ (Nat.succ_le_succ (Nat.le_max_left n k)) _ _ _ _ h1
        have e2 := ex_le Γ (Nat.succ_le_succ (Nat.le_max_right n k)) _ _ _ _ h3
        refine ⟨max n k + 1, o', s', ?_, h4⟩
        simp only [ex] at e1 e2 ⊢
        simp only [inner, e1, e2]
    | exit id =>
      refine ⟨n + 1, _, s1, ?_, h2⟩
      simp only [ex] at h1 ⊢
      simp only [inner, h1]
    | ret =>
      refine ⟨n + 1, _, s1, ?_, h2⟩
      simp only [ex] at h1 ⊢
      simp only [inner, h1]

theorem ev_true {c : Operand} {a b : Code} (hc : evalA s.t c = boolA true) (h : EvK Γ f a s K) : EvK Γ f (.cond c a b) s K := by
  obtain ⟨n, o, s1, h1, h2⟩ := h
  cases n with
  | zero => cases h1
  | succ n =>
    refine ⟨n + 1, o, s1, ?_, h2⟩
    simp only [ex] at h1 ⊢
    simp only [inner, hc, boolA, h1]

theorem ev_false {c : Operand} {a b : Code} (hc : evalA s.t c = boolA false) (h : EvK Γ f b s K) : EvK Γ f (.cond c a b) s K := by
  obtain ⟨n, o, s1, h1, h2⟩ := h
  cases n with
  | zero => cases h1
  | succ n =>
    refine ⟨n + 1, o, s1, ?_, h2⟩
    simp only [ex] at h1 ⊢
    simp only [inner, hc, boolA, h1]

theorem ev_cond {c : Operand} {a b : Code} (x : Bool) (hc : evalA s.t c = boolA x) (h1 : x = true → EvK Γ f a s K) (h2 : x = false → EvK Γ f b s K) : EvK Γ f (.cond c a b) s K := by
  cases x with
  | true => exact ev_true hc (h1 rfl)
  | false => exact ev_false hc (h2 rfl)

theorem ev_block {id : Nat} {a : Code} (h : EvK Γ f a s fun o s1 => match o with | .exit id' => bif Nat.beq id' id then K .normal s1 else K (.exit id') s1 | o => K o s1) : EvK Γ f (.block id a) s K := by
  obtain ⟨n, o, s1, h1, h2⟩ := h
  cases n with
  | zero => cases h1
  | succ n =>
    cases o with
    | exit id' =>
      simp only at h2
      cases he : Nat.beq id' id with
      | true =>
        rw [he] at h2
        have heq := Nat.eq_of_beq_eq_true he
        refine ⟨n + 1, _, s1, ?_, h2⟩
        simp only [ex] at h1 ⊢
        simp only [inner, h1, heq, if_true]
      | false =>
        rw [he] at h2
        have hne := Nat.ne_of_beq_eq_false he
        refine ⟨n + 1, _, s1, ?_, h2⟩
        simp only [ex] at h1 ⊢
        simp only [inner, h1, hne, if_false]
    | normal =>
      refine ⟨n + 1, _, s1, ?_, h2⟩
      simp only [ex] at h1 ⊢
      simp only [inner, h1]
    | ret =>
      refine ⟨n + 1, _, s1, ?_, h2⟩
      simp only [ex] at h1 ⊢
      simp only [inner, h1]

theorem ev_scope {a : Code} (h : EvK Γ f a s K) : EvK Γ f (.scope a) s K := by
  obtain ⟨n, o, s1, h1, h2⟩ := h
  cases n with
  | zero => cases h1
  | succ n => exact ⟨n + 1, o, s1, h1, h2⟩

theorem ev_loop {a : Code} (h : EvK Γ f a s fun o s1 => match o with | .normal => EvK Γ f (.loop a) s1 K | o => K o s1) : EvK Γ f (.loop a) s K := by
  obtain ⟨n, o, s1, h1, h2⟩ := h
  cases n with
  | zero => cases h1
  | succ n =>
    cases o with
    | normal =>
      obtain ⟨k, o', s', h3, h4⟩ := h2
      have e1 := ex_le Γ (Nat.succ_le_succ (Nat.le_max_left n k)) _ _ _ _ h1
      have e2 := ex_le Γ (Nat.le_max_right n k) _ _ _ _ h3
      refine ⟨max n k + 1, o', s', ?_, h4⟩
      simp only [ex] at e1 ⊢
      simp only [inner, e1, e2]
    | exit id =>
      refine ⟨n + 1, _, s1, ?_, h2⟩
      simp only [ex] at h1 ⊢
      simp only [inner, h1]
    | ret =>
      refine ⟨n + 1, _, s1, ?_, h2⟩
      simp only [ex] at h1 ⊢
      simp only [inner, h1]

/-- The steps of a region, in their order. -/
def runS (Γ : Ctx) (fk : Nat → Bool) (cf : CF) (ops : Array Oper) (d : Bool) : List (Bool × Oper) → St → Option St
  | [], s => some s
  | (wk, o) :: l, s => match stepOp Γ fk cf ops d wk o s with
    | some (r, m) => runS Γ fk cf ops d l ⟨putA' s.t o.dst r, m⟩
    | none => none

/-- A load that is marked. -/
def markL (wk : Bool) (o : Oper) : Bool := match o.op with
  | .load .. => wk
  | _ => false

theorem prot_nil {wk : Bool} {o : Oper} {s : St} (h : markL wk o = false) : protA wk o [] s = some [] := by
  obtain ⟨dst, op, ty, pos, after, guard⟩ := o
  cases op with
  | load a b =>
    simp only [markL] at h
    subst h
    rfl
  | _ => rfl

def stepsD (ops : Array Oper) : List (Nat × Bool) → Option (List (Bool × Oper))
  | [] => some []
  | (i, wk) :: l => match ops[i]? with
    | some o => match markL wk o with
      | true => none
      | false => match stepsD ops l with
        | some r => some ((wk, o) :: r)
        | none => none
    | none => none

def stepsOf (Γ : Ctx) (f : FuncId) (id : Nat) (ops : Array Oper) (d : Bool) : Option (List (Bool × Oper)) :=
  match d with
  | true => match Γ.rk f id with
    | some pi => stepsD ops pi
    | none => none
  | false => some (ops.toList.map fun o => (false, o))

/-- The steps run, and what they come to is fine. -/
def RS (Γ : Ctx) (f : FuncId) (ops : Array Oper) (d : Bool) (l : List (Bool × Oper)) (s : St) (K : St → Prop) : Prop := ∃ n s', runS Γ (Γ.fk f) (run Γ n) ops d l s = some s' ∧ K s'

theorem runS_le (h : LeCF cf cf') {d : Bool} : ∀ (l : List (Bool × Oper)) (s s' : St), runS Γ fk cf ops d l s = some s' → runS Γ fk cf' ops d l s = some s'
  | [], _, _, hr => hr
  | (wk, o) :: l, s, s', hr => by
    unfold runS at hr ⊢
    split at hr
    · rename_i hs
      rw [stepOp_le h hs]
      exact runS_le h l _ s' hr
    · cases hr

theorem runS_text : ∀ (l : List Oper) (s : St), runS Γ fk cf ops false (l.map fun o => (false, o)) s = runOps Γ fk cf ops l s
  | [], _ => rfl
  | o :: l, s => by
    simp only [List.map_cons, runS, runOps]
    cases stepOp Γ fk cf ops false false o s with
    | none => rfl
    | some p => exact runS_text l _

theorem runS_draw : ∀ (pi : List (Nat × Bool)) (l : List (Bool × Oper)) (s : St), stepsD ops pi = some l → runS Γ fk cf ops true l s = runD Γ fk cf ops pi [] s
  | [], l, s, h => by simp only [stepsD, Option.some.injEq] at h; subst h; rfl
  | (i, wk) :: pi, l, s, h => by
    unfold stepsD at h
    split at h
    · rename_i o ho
      split at h
      · cases h
      · rename_i hm
        split at h
        · rename_i r hr
          simp only [Option.some.injEq] at h
          subst h
          simp only [runS, runD, ho, prot_nil hm]
          cases stepOp Γ fk cf ops true wk o s with
          | none => rfl
          | some p => exact runS_draw pi r _ hr
        · cases h
    · cases h

theorem ev_region {id : Nat} {d : Bool} {l : List (Bool × Oper)} (hl : stepsOf Γ f id ops d = some l) (h : RS Γ f ops d l s (K .normal)) : EvK Γ f (.region id ops d) s K := by
  obtain ⟨n, s', h1, h2⟩ := h
  refine ⟨n + 1, .normal, s', ?_, h2⟩
  have hreg : region Γ (run Γ n) f id ops d s = some s' := by
    unfold region
    cases d with
    | true =>
      simp only [stepsOf] at hl
      rw [if_pos rfl]
      split at hl
      · rename_i pi hpi
        rw [hpi]
        simp only
        rw [← runS_draw pi l s hl]
        exact h1
      · cases hl
    | false =>
      simp only [stepsOf, Option.some.injEq] at hl
      subst hl
      rw [if_neg (by decide), ← runS_text]
      exact h1
  show inner Γ (callF Γ (ex Γ n)) (ex Γ n) f (.region id ops d) s = _
  simp only [inner]
  have : region Γ (callF Γ (ex Γ n)) f id ops d s = some s' := hreg
  rw [this]

variable {d : Bool} {l : List (Bool × Oper)} {L : St → Prop}

theorem rs_nil (h : L s) : RS Γ f ops d [] s L := ⟨0, s, rfl, h⟩

theorem runS_append : ∀ (l l' : List (Bool × Oper)) (s s1 : St), runS Γ fk cf ops d l s = some s1 → runS Γ fk cf ops d (l ++ l') s = runS Γ fk cf ops d l' s1
  | [], _, s, s1, h => by simp only [runS, Option.some.injEq] at h; subst h; rfl
  | (wk, o) :: l, l', s, s1, h => by
    unfold runS at h
    simp only [List.cons_append, runS]
    split at h
    · rename_i hs
      exact runS_append l l' _ s1 h
    · cases h

/-- Some steps without a call. -/
theorem rs_take (k : Nat) {s1 : St} (h1 : ∀ cf, runS Γ (Γ.fk f) cf ops d (l.take k) s = some s1) (h2 : RS Γ f ops d (l.drop k) s1 L) : RS Γ f ops d l s L := by
  obtain ⟨n, s', h3, h4⟩ := h2
  refine ⟨n, s', ?_, h4⟩
  rw [← List.take_append_drop k l, runS_append _ _ _ s1 (h1 _)]
  exact h3

/-- All the steps, none a call. -/
theorem rs_all {s1 : St} (h1 : ∀ cf, runS Γ (Γ.fk f) cf ops d l s = some s1) (h2 : L s1) : RS Γ f ops d l s L := ⟨0, s1, h1 _, h2⟩

/-- What a call by value takes. -/
def prep (Γ : Ctx) (ops : Array Oper) (d : Bool) (l : List (Bool × Oper)) (s : St) : Option (FuncId × List AV × Bool) :=
  match l with
  | (wk, o) :: _ => match wantedA ops s.t o with
    | some true => bif isCall o then (match calleeOf s.t o with
      | some (g, av) => bif (bif d && !wk then !isFresh Γ o else (match Γ.md g with | .pure => !av.any hnd | _ => false)) then (match mapO (snapA s.m) av with
        | some bs => some (g, bs, av.any owns)
        | none => none) else none
      | none => none) else none
    | _ => none
  | [] => none

/-- The step's operation. -/
def dstS : List (Bool × Oper) → Option Tmp
  | (_, o) :: _ => o.dst
  | [] => none

theorem pure_of {g : FuncId} {av bs : List AV} {r0 r : AV} {m m' : Mem} (h1 : mapO (snapA m) av = some bs) (h2 : cf g bs ⟨[], 0⟩ = some (r0, m')) (h3 : snapR m' r0 = some r) (h4 : (av.any owns && !noCells r) = false) : pureCall cf true g av m = some (r, m) := by
  unfold pureCall
  rw [h1]
  simp only [h2, h3, h4, Bool.false_eq_true, if_false]

/-- A call by value. -/
theorem rs_call {g : FuncId} {bs : List AV} {ow : Bool} {r : AV} (hp : prep Γ ops d l s = some (g, bs, ow)) (hg : Gets Γ g bs r) (hn : (ow && !noCells r) = false) (h : RS Γ f ops d (l.drop 1) ⟨putA' s.t (dstS l) r, s.m⟩ L) : RS Γ f ops d l s L := by
  cases l with
  | nil => cases hp
  | cons p l =>
    obtain ⟨wk, o⟩ := p
    obtain ⟨n, r0, m', h1, h2⟩ := hg
    obtain ⟨n', s', h3, h4⟩ := h
    have e1 := run_le Γ (Nat.le_max_left n n') _ _ _ _ h1
    refine ⟨max n n', s', ?_, h4⟩
    simp only [prep] at hp
    split at hp
    · rename_i hw
      cases hc : isCall o with
      | false => rw [hc] at hp; cases hp
      | true =>
        rw [hc] at hp
        simp only [cond_true] at hp
        split at hp
        · rename_i g' av hcal
          have hstep : stepOp Γ (Γ.fk f) (run Γ (max n n')) ops d wk o s = some (r, s.m) := by
            unfold stepOp
            rw [hw]
            simp only [hc, if_true, hcal]
            cases d with
            | true =>
              cases wk with
              | false =>
                simp only [Bool.not_false, Bool.and_self, cond_true] at hp ⊢
                cases hf : isFresh Γ o with
                | true => rw [hf] at hp; cases hp
                | false =>
                  rw [hf] at hp
                  simp only [Bool.not_false, cond_true] at hp
                  simp only [Bool.false_eq_true, if_false]
                  split at hp
                  · rename_i hbs
                    simp only [Option.some.injEq, Prod.mk.injEq] at hp
                    obtain ⟨rfl, rfl, rfl⟩ := hp
                    exact pure_of hbs e1 h2 hn
                  · cases hp
              | true =>
                simp only [Bool.not_true, Bool.and_false, cond_false] at hp ⊢
                unfold callA
                split at hp
                · rename_i hmd
                  rw [hmd]
                  cases hh : av.any hnd with
                  | true => rw [hh] at hp; cases hp
                  | false =>
                    rw [hh] at hp
                    simp only [Bool.not_false, cond_true] at hp
                    simp only [Bool.false_eq_true, if_false]
                    split at hp
                    · rename_i hbs
                      simp only [Option.some.injEq, Prod.mk.injEq] at hp
                      obtain ⟨rfl, rfl, rfl⟩ := hp
                      exact pure_of hbs e1 h2 hn
                    · cases hp
                · cases hp
            | false =>
              simp only [Bool.false_and, cond_false] at hp ⊢
              unfold callA
              split at hp
              · rename_i hmd
                rw [hmd]
                cases hh : av.any hnd with
                | true => rw [hh] at hp; cases hp
                | false =>
                  rw [hh] at hp
                  simp only [Bool.not_false, cond_true] at hp
                  simp only [Bool.false_eq_true, if_false]
                  split at hp
                  · rename_i hbs
                    simp only [Option.some.injEq, Prod.mk.injEq] at hp
                    obtain ⟨rfl, rfl, rfl⟩ := hp
                    exact pure_of hbs e1 h2 hn
                  · cases hp
              · cases hp
          simp only [runS, hstep]
          exact runS_le (run_le Γ (Nat.le_max_right n n')) _ _ _ h3
        · cases hp
    · cases hp

theorem ev_reg {id : Nat} (hl : (stepsOf Γ f id ops d).isSome = true) (h : RS Γ f ops d ((stepsOf Γ f id ops d).getD []) s (K .normal)) : EvK Γ f (.region id ops d) s K := by
  obtain ⟨l, hl'⟩ := Option.isSome_iff_exists.mp hl
  rw [hl'] at h
  exact ev_region hl' h

theorem rs_done (hl : l = []) (h : L s) : RS Γ f ops d l s L := by subst hl; exact rs_nil h

theorem rs_pure {g : FuncId} {bs : List AV} {ow : Bool} {r : AV} {s1 : St} (hp : prep Γ ops d l s = some (g, bs, ow)) (hg : Gets Γ g bs r) (hn : (ow && !noCells r) = false) (hs : (⟨putA' s.t (dstS l) r, s.m⟩ : St) = s1)
    (h : RS Γ f ops d (l.drop 1) s1 L) : RS Γ f ops d l s L := by
  subst hs
  exact rs_call hp hg hn h

/-- Both ways of a branch come to a state that differs in a bool's choice. -/
theorem ev_merge {c : Operand} {a b : Code} (x : Bool) (S : Bool → St) (hc : evalA s.t c = boolA x) (h1 : x = true → ∀ L : Out → St → Prop, L .normal (S true) → EvK Γ f a s L) (h2 : x = false → ∀ L : Out → St → Prop, L .normal (S false) → EvK Γ f b s L)
    (h : K .normal (S x)) : EvK Γ f (.cond c a b) s K := by
  cases x with
  | true => exact ev_true hc (h1 rfl K h)
  | false => exact ev_false hc (h2 rfl K h)

/-- What a call that sees memory takes: 1: its blocks stay; 2: they are gone; 3: the result is the caller's. -/
def prepM (Γ : Ctx) (ops : Array Oper) (d : Bool) (l : List (Bool × Oper)) (s : St) : Option (Nat × FuncId × List AV) :=
  match l with
  | (wk, o) :: _ => match wantedA ops s.t o with
    | some true => bif isCall o then (match calleeOf s.t o with
      | some (g, av) => bif d && !wk then (bif isFresh Γ o then some (3, g, av) else none) else (match Γ.md g with
        | .leak => some (1, g, av)
        | .hand => some (2, g, av)
        | .fresh => some (3, g, av)
        | .pure => bif av.any hnd then some (1, g, av) else none)
      | none => none) else none
    | _ => none
  | [] => none

theorem rs_mem {k : Nat} {g : FuncId} {av : List AV} {r : AV} {m1 : Mem} {s1 : St} (hp : prepM Γ ops d l s = some (k, g, av)) (hg : ∃ n, (match k with | 1 => run Γ n g av s.m | 2 => (match run Γ n g av s.m with | some (r, m') => some (r, ⟨m'.b.take s.m.b.length, m'.n⟩) | none => none) | _ => freshCall (run Γ n) g av s.m) = some (r, m1))
    (hs : (⟨putA' s.t (dstS l) r, m1⟩ : St) = s1) (h : RS Γ f ops d (l.drop 1) s1 L) : RS Γ f ops d l s L := by
  subst hs
  cases l with
  | nil => cases hp
  | cons p l =>
    obtain ⟨wk, o⟩ := p
    obtain ⟨n, h1⟩ := hg
    obtain ⟨n', s', h3, h4⟩ := h
    have hle := run_le Γ (Nat.le_max_left n n')
    refine ⟨max n n', s', ?_, h4⟩
    simp only [prepM] at hp
    split at hp
    · rename_i hw
      cases hc : isCall o with
      | false => rw [hc] at hp; cases hp
      | true =>
        rw [hc] at hp
        simp only [cond_true] at hp
        split at hp
        · rename_i g' av' hcal
          have hA : ∀ k' , (match Γ.md g' with | .leak => some (1, g', av') | .hand => some (2, g', av') | .fresh => some (3, g', av') | .pure => bif av'.any hnd then some (1, g', av') else none) = some (k', g, av) → k' = k → callA Γ (run Γ (max n n')) g' av' s.m = some (r, m1) := by
            intro k' hk' hkk
            subst hkk
            unfold callA
            split at hk'
            · rename_i hmd
              simp only [Option.some.injEq, Prod.mk.injEq] at hk'
              obtain ⟨rfl, rfl, rfl⟩ := hk'
              rw [hmd]
              exact hle _ _ _ _ h1
            · rename_i hmd
              simp only [Option.some.injEq, Prod.mk.injEq] at hk'
              obtain ⟨rfl, rfl, rfl⟩ := hk'
              rw [hmd]
              simp only at h1 ⊢
              split at h1
              · rename_i hh
                rw [hle _ _ _ _ hh]
                exact h1
              · cases h1
            · rename_i hmd
              simp only [Option.some.injEq, Prod.mk.injEq] at hk'
              obtain ⟨rfl, rfl, rfl⟩ := hk'
              rw [hmd]
              exact freshCall_le hle h1
            · rename_i hmd
              cases hh : av'.any hnd with
              | false => rw [hh] at hk'; cases hk'
              | true =>
                rw [hh] at hk'
                simp only [cond_true, Option.some.injEq, Prod.mk.injEq] at hk'
                obtain ⟨rfl, rfl, rfl⟩ := hk'
                rw [hmd]
                simp only [hh, if_true]
                exact hle _ _ _ _ h1
          have hstep : stepOp Γ (Γ.fk f) (run Γ (max n n')) ops d wk o s = some (r, m1) := by
            unfold stepOp
            rw [hw]
            simp only [hc, if_true, hcal]
            cases d with
            | true =>
              cases wk with
              | false =>
                simp only [Bool.not_false, Bool.and_self, cond_true] at hp ⊢
                cases hf : isFresh Γ o with
                | false => rw [hf] at hp; cases hp
                | true =>
                  rw [hf] at hp
                  simp only [cond_true, Option.some.injEq, Prod.mk.injEq] at hp
                  obtain ⟨rfl, rfl, rfl⟩ := hp
                  simp only [if_true]
                  exact freshCall_le hle h1
              | true =>
                simp only [Bool.not_true, Bool.and_false, cond_false] at hp ⊢
                exact hA k hp rfl
            | false =>
              simp only [Bool.false_and, cond_false] at hp ⊢
              exact hA k hp rfl
          simp only [runS, hstep]
          exact runS_le (run_le Γ (Nat.le_max_right n n')) _ _ _ h3
        · cases hp
    · cases hp

/-- A run in which nothing is open. -/
theorem gets_run (n : Nat) {g : FuncId} {bs : List AV} {r : AV} (h : (match run Γ n g bs ⟨[], 0⟩ with | some (r0, m') => snapR m' r0 | none => none) = some r) : Gets Γ g bs r := by
  cases hr : run Γ n g bs ⟨[], 0⟩ with
  | none => rw [hr] at h; cases h
  | some x => rw [hr] at h; exact ⟨n, x.1, x.2, hr, h⟩

/-- The end of a function by value. -/
theorem leaf {fn : Func} {o : Out} {r0 r1 r : AV} (ho : o = .normal ∨ o = .ret) (h1 : resA Γ fn s = some r0) (h2 : snapR s.m r0 = some r1) (h3 : r1 = r) : (o = .normal ∨ o = .ret) ∧ ∃ r0, resA Γ fn s = some r0 ∧ snapR s.m r0 = some r :=
  ⟨ho, r0, h1, by rw [h2, h3]⟩

/-- A function's run, from its code's. -/
theorem gets_of {g : FuncId} {fn : Func} {c : Code} {bs : List AV} {r : AV} (hfn : Γ.fn g = some fn) (hb : fn.body = some c)
    (h : EvK Γ g c ⟨bs ++ List.replicate (fn.ntmps - bs.length) undefA, ⟨[], 0⟩⟩ fun o s => (o = .normal ∨ o = .ret) ∧ ∃ r0, resA Γ fn s = some r0 ∧ snapR s.m r0 = some r) : Gets Γ g bs r := by
  obtain ⟨n, o, s, h1, ho, r0, h2, h3⟩ := h
  refine ⟨n, r0, s.m, ?_, h3⟩
  unfold run callF
  rw [hfn]
  simp only [hb]
  rcases ho with rfl | rfl <;> simp only [h1, h2]

theorem runs_of {g : FuncId} {fn : Func} {c : Code} {av : List AV} {m m' : Mem} {r : AV} (hfn : Γ.fn g = some fn) (hb : fn.body = some c)
    (h : EvK Γ g c ⟨av ++ List.replicate (fn.ntmps - av.length) undefA, m⟩ fun o s => (o = .normal ∨ o = .ret) ∧ resA Γ fn s = some r ∧ s.m = m') : Runs1 Γ g av m r m' := by
  obtain ⟨n, o, s, h1, ho, h2, h3⟩ := h
  refine ⟨n, ?_⟩
  unfold run callF
  rw [hfn]
  simp only [hb]
  rcases ho with rfl | rfl <;> simp only [h1, h2, h3]

theorem snap_bool {m : Mem} {r : AV} {b : Bool} (h : snapR m r = some (boolA b)) : r = boolA b := by
  unfold snapR at h
  cases r with
  | tu cs =>
    simp only at h
    cases hq : mapO (snapA m) cs <;> rw [hq] at h <;> simp [boolA] at h
  | ag cs =>
    simp only [snapA] at h
    cases hq : mapO (snapC m) cs <;> rw [hq] at h <;> simp [boolA] at h
  | fn f cs =>
    simp only [snapA] at h
    cases hq : mapO (snapC m) cs <;> rw [hq] at h <;> simp [boolA] at h
  | rp c => simp [snapA, snapC, boolA] at h
  | d x =>
    simp only [snapA, snapC, depth, snapD, Option.map_some, Option.some.injEq] at h
    exact h
  | own a b' c d e g =>
    simp only [snapA, snapC, depth, snapD] at h
    split at h
    · split at h
      · simp only [Option.map_eq_some_iff] at h
        obtain ⟨_, ⟨_, _, rfl⟩, h⟩ := h
        simp [boolA] at h
      · simp at h
    · simp at h
  | ptr a b' c => simp [snapA, snapC, depth, snapD] at h
  | mp a b' => simp [snapA, snapC, depth, snapD] at h

/-- A law's run by value. -/
theorem run_of_gets {g : FuncId} {bs : List AV} {b : Bool} (h : Gets Γ g bs (boolA b)) : ∃ n m', run Γ n g bs ⟨[], 0⟩ = some (boolA b, m') := by
  obtain ⟨n, r0, m', h1, h2⟩ := h
  rw [snap_bool h2] at h1
  exact ⟨n, m', h1⟩

end

end Go.Am
