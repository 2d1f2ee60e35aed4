/-
  How the machine stands for the model; operations on memory, aggregates, fields, elements. Conditions: none.
-/
import Derived.Test.YtgkjdfojogemhaaMa
import Derived.WalkKit
set_option linter.unusedSimpArgs false
set_option linter.unusedVariables false
namespace Go.Am

/-- Data stands for a value: its cells lie in blocks outside `A`. -/
inductive RD (A : Nat → Prop) (w : World) : D → Value → Prop where
  | v (x : Value) : RD A w (.v x) x
  | emp (t : Bool) (a : Addr) (cap : Nat) (h : t = true → cap = 0) : RD A w (.sl t 0 []) (.slice (some a) 0 cap)
  | sl (t : Bool) (len : Nat) (cells : List D) (b o cap : Nat) (us : Nat → Value)
      (hc : ∀ i, i < cells.length → w.cell? ⟨b, o + i, none⟩ = some (us i))
      (hr : ∀ i (h : i < cells.length), RD A w (cells[i]'h) (us i))
      (hb : ¬ A b) (hs : b < w.heap.size) (hl : len ≤ cap) (ht : t = true → cap = len) :
      RD A w (.sl t len cells) (.slice (some ⟨b, o, none⟩) len cap)

theorem RD.mono {A A' : Nat → Prop} {w w' : World} (hw : ∀ b, b < w.heap.size → ¬ A b → w'.heap[b]? = w.heap[b]?)
    (hA : ∀ b, b < w.heap.size → A' b → A b) (hsz : w.heap.size ≤ w'.heap.size) {d : D} {v : Value} (h : RD A w d v) : RD A' w' d v := by
  induction h with
  | v x => exact .v x
  | emp t a cap h => exact .emp t a cap h
  | sl t len cells b o cap us hc hr hb hs hl ht ih =>
    refine .sl t len cells b o cap us (fun i hi => ?_) ih (fun h => hb (hA b hs h)) (Nat.lt_of_lt_of_le hs hsz) hl ht
    rw [← hc i hi]
    exact World.cell?_of_block (w := w) (hw b hs hb)

/-- A slice of a block's own. -/
def OwnOk (w : World) (p : Nat × Nat) (n off len e : Nat) (cap : Option Nat) (v : Value) : Prop :=
  ∃ cap', v = .slice (some ⟨p.1, p.2 + off, none⟩) len cap' ∧ 0 < e ∧ off + len * e ≤ n ∧ len ≤ cap' ∧
    (∀ c, cap = some c → cap' = c ∧ off + c * e ≤ n) ∧
    (cap = none → n ≤ off + cap' * e ∧ ∀ c E f, w.heap[p.1]? = some (.cells c E f) → p.2 + off + cap' * e ≤ c.size)

inductive RV (A : Nat → Prop) (ρ : Nat → Nat × Nat) (m : Mem) (w : World) : AV → Value → Prop where
  | d (x : D) (v : Value) (h : RD A w x v) : RV A ρ m w (.d x) v
  | rp (cells : List D) (b o : Nat) (us : Nat → Value)
      (hc : ∀ i, i < cells.length → w.cell? ⟨b, o + i, none⟩ = some (us i))
      (hr : ∀ i (h : i < cells.length), RD A w (cells[i]'h) (us i))
      (hb : ¬ A b) (hs : b < w.heap.size) : RV A ρ m w (.rp cells) (.pointer (some ⟨b, o, none⟩))
  | own (h g off len e : Nat) (cap : Option Nat) (a : Option Addr) (n c : Nat) (hg : g < m.n)
      (hv : ∀ cs s kid, m.b[h]? = some (.row cs g s kid) → OwnOk w (ρ h) cs.length off len e cap (.slice a n c)) :
      RV A ρ m w (.own h g off len e cap) (.slice a n c)
  | ptr (h g off : Nat) (a : Option Addr) (hg : g < m.n)
      (hv : ∀ cs s kid, m.b[h]? = some (.row cs g s kid) → a = some ⟨(ρ h).1, (ρ h).2 + off, none⟩) : RV A ρ m w (.ptr h g off) (.pointer a)
  | fn (f : FuncId) (caps : List AV) (vs : List Value) (hl : vs.length = caps.length)
      (hr : ∀ i (h : i < caps.length), RV A ρ m w (caps[i]'h) (vs.getD i undef)) : RV A ρ m w (.fn f caps) (.func (.func f) #[] vs.toArray)
  | ag (cs : List AV) (vs : List Value) (hl : vs.length = cs.length)
      (hr : ∀ i (h : i < cs.length), RV A ρ m w (cs[i]'h) (vs.getD i undef)) : RV A ρ m w (.ag cs) (.agg vs.toArray)
  | tu (cs : List AV) (vs : List Value) (hl : vs.length = cs.length)
      (hr : ∀ i (h : i < cs.length), RV A ρ m w (cs[i]'h) (vs.getD i undef)) : RV A ρ m w (.tu cs) (.tuple vs.toArray)
  | mp (h g : Nat) (r : Option Nat) (hg : g < m.n) (hv : ∀ es, m.b[h]? = some (.map es g) → r = some (ρ h).1) : RV A ρ m w (.mp h g) (.map r)

/-- The block h may be written. -/
def Mut (m : Mem) (h : Nat) : Prop := (∃ cs g kid, m.b[h]? = some (.row cs g .ow kid)) ∨ ∃ es g, m.b[h]? = some (.map es g)

/-- The model's block b is one that the machine may write. -/
def OwnB (ρ : Nat → Nat × Nat) (m : Mem) (b : Nat) : Prop := ∃ h, Mut m h ∧ (ρ h).1 = b

/-- What data may not lie in. -/
def Av (O : Nat → Prop) (ρ : Nat → Nat × Nat) (m : Mem) (b : Nat) : Prop := O b ∨ OwnB ρ m b

structure MemInv (O : Nat → Prop) (ρ : Nat → Nat × Nat) (m : Mem) (w : World) : Prop where
  row : ∀ h cs g s kid, m.b[h]? = some (.row cs g s kid) → g < m.n ∧ ¬ O (ρ h).1 ∧ ∃ c E, w.heap[(ρ h).1]? = some (.cells c E (0, 0)) ∧
    ∀ j (hj : j < cs.length), ∃ u, c[(ρ h).2 + j]? = some u ∧ RV (Av O ρ m) ρ m w (cs[j]'hj) u
  map : ∀ h es g, m.b[h]? = some (.map es g) → g < m.n ∧ ¬ O (ρ h).1 ∧ ∃ ces k, w.heap[(ρ h).1]? = some (.map ces k) ∧ ces.size = es.length ∧
    ∀ j (hj : j < es.length), ∃ e, ces[j]? = some e ∧ e.key = (es[j]'hj).1 ∧ RV (Av O ρ m) ρ m w (es[j]'hj).2 e.val
  dis : ∀ h h', Mut m h → Mut m h' → (ρ h).1 = (ρ h').1 → h = h'
  fz : ∀ h cs g kid, m.b[h]? = some (.row cs g .fz kid) → ¬ OwnB ρ m (ρ h).1
  kd : ∀ k cs g p kid, m.b[k]? = some (.row cs g (.kd p) kid) → ∀ h, Mut m h → (ρ h).1 = (ρ k).1 →
    h = p ∧ ∃ cs' g', m.b[h]? = some (.row cs' g' .ow (some (k, g)))
  ex : ∀ b, O b → b < w.heap.size

structure Later (ρ : Nat → Nat × Nat) (m : Mem) (w : World) (ρ' : Nat → Nat × Nat) (m' : Mem) (w' : World) : Prop where
  os : w'.os = w.os
  tape : w'.tape = w.tape
  output : w'.output = w.output
  size : w.heap.size ≤ w'.heap.size
  keep : ∀ b, b < w.heap.size → ¬ OwnB ρ m b → w'.heap[b]? = w.heap[b]?
  own : ∀ b, OwnB ρ' m' b → OwnB ρ m b ∨ w.heap.size ≤ b
  n : m.n ≤ m'.n
  row : ∀ h cs' g s' kid', m'.b[h]? = some (.row cs' g s' kid') → g < m.n → ∃ cs s kid, m.b[h]? = some (.row cs g s kid) ∧ cs'.length = cs.length ∧
    ρ' h = ρ h ∧ ∀ c E f, w.heap[(ρ h).1]? = some (.cells c E f) → ∃ c' E' f', w'.heap[(ρ h).1]? = some (.cells c' E' f') ∧ c'.size = c.size
  map : ∀ h es' g, m'.b[h]? = some (.map es' g) → g < m.n → ∃ es, m.b[h]? = some (.map es g) ∧ ρ' h = ρ h

theorem Later.refl (ρ : Nat → Nat × Nat) (m : Mem) (w : World) : Later ρ m w ρ m w where
  os := rfl
  tape := rfl
  output := rfl
  size := Nat.le_refl _
  keep := fun _ _ _ => rfl
  own := fun _ h => .inl h
  n := Nat.le_refl _
  row := fun _ cs _ s kid h _ => ⟨cs, s, kid, h, rfl, rfl, fun c E f hc => ⟨c, E, f, hc, rfl⟩⟩
  map := fun _ es _ h _ => ⟨es, h, rfl⟩

theorem Later.trans {ρ ρ' ρ'' : Nat → Nat × Nat} {m m' m'' : Mem} {w w' w'' : World} (h : Later ρ m w ρ' m' w') (k : Later ρ' m' w' ρ'' m'' w'') : Later ρ m w ρ'' m'' w'' where
  os := k.os.trans h.os
  tape := k.tape.trans h.tape
  output := k.output.trans h.output
  size := Nat.le_trans h.size k.size
  keep := fun b hb hn => by
    rw [← h.keep b hb hn]
    refine k.keep b (Nat.lt_of_lt_of_le hb h.size) fun ho => ?_
    rcases h.own b ho with h1 | h1
    · exact hn h1
    · omega
  own := fun b hb => by
    rcases k.own b hb with h1 | h1
    · exact h.own b h1
    · exact .inr (Nat.le_trans h.size h1)
  n := Nat.le_trans h.n k.n
  row := fun i cs g s kid hr hg => by
    obtain ⟨cs1, s1, kid1, h1, h2, h3, h4⟩ := k.row i cs g s kid hr (Nat.lt_of_lt_of_le hg h.n)
    obtain ⟨cs2, s2, kid2, h5, h6, h7, h8⟩ := h.row i cs1 g s1 kid1 h1 hg
    refine ⟨cs2, s2, kid2, h5, h2.trans h6, h3.trans h7, fun c E f hc => ?_⟩
    obtain ⟨c', E', f', hc', hs'⟩ := h8 c E f hc
    rw [h7] at h4
    obtain ⟨c2, E2, f2, hc2, hs2⟩ := h4 c' E' f' hc'
    exact ⟨c2, E2, f2, hc2, hs2.trans hs'⟩
  map := fun i es g hr hg => by
    obtain ⟨es1, h1, h2⟩ := k.map i es g hr (Nat.lt_of_lt_of_le hg h.n)
    obtain ⟨es2, h3, h4⟩ := h.map i es1 g h1 hg
    exact ⟨es2, h3, h2.trans h4⟩

theorem Later.rd {O : Nat → Prop} {ρ ρ' : Nat → Nat × Nat} {m m' : Mem} {w w' : World} (h : Later ρ m w ρ' m' w') {d : D} {v : Value}
    (hr : RD (Av O ρ m) w d v) : RD (Av O ρ' m') w' d v :=
  hr.mono (fun b hb hn => h.keep b hb fun ho => hn (.inr ho)) (fun b hb ha => ha.imp id fun ho => (h.own b ho).resolve_right (by omega)) h.size

theorem OwnOk.later {ρ ρ' : Nat → Nat × Nat} {m m' : Mem} {w w' : World} (h : Later ρ m w ρ' m' w') {i : Nat} {cs' : List AV} {g : Nat} {s' : Ow} {kid' : Option (Nat × Nat)}
    (hr : m'.b[i]? = some (.row cs' g s' kid')) (hg : g < m.n) {off len e : Nat} {cap : Option Nat} {v : Value}
    (hex : ∀ cs s kid, m.b[i]? = some (.row cs g s kid) → (∃ c E f, w.heap[(ρ i).1]? = some (.cells c E f)) ∧ OwnOk w (ρ i) cs.length off len e cap v) :
    OwnOk w' (ρ' i) cs'.length off len e cap v := by
  obtain ⟨cs, s, kid, h1, h2, h3, h4⟩ := h.row i cs' g s' kid' hr hg
  obtain ⟨⟨c0, E0, f0, hc0⟩, cap', hv, he, hl, hlc, hs, hn⟩ := hex cs s kid h1
  rw [h3, h2]
  refine ⟨cap', hv, he, hl, hlc, hs, fun hcap => ⟨(hn hcap).1, fun c E f hc => ?_⟩⟩
  obtain ⟨c', E', f', hc', hs'⟩ := h4 c0 E0 f0 hc0
  rw [hc'] at hc
  simp only [Option.some.injEq, Obj.cells.injEq] at hc
  rw [← hc.1, hs']
  exact (hn hcap).2 c0 E0 f0 hc0

theorem RV.later {O : Nat → Prop} {ρ ρ' : Nat → Nat × Nat} {m m' : Mem} {w w' : World} (hm : MemInv O ρ m w) (h : Later ρ m w ρ' m' w') {x : AV} {v : Value}
    (hr : RV (Av O ρ m) ρ m w x v) : RV (Av O ρ' m') ρ' m' w' x v := by
  induction hr with
  | d x v hd => exact .d x v (h.rd hd)
  | rp cells b o us hc hr hb hs =>
    refine .rp cells b o us (fun i hi => ?_) (fun i hi => h.rd (hr i hi)) (fun ha => hb (ha.imp id fun ho => (h.own b ho).resolve_right (by omega))) (Nat.lt_of_lt_of_le hs h.size)
    rw [← hc i hi]
    exact World.cell?_of_block (w := w) (h.keep b hs fun ho => hb (.inr ho))
  | own i g off len e cap a n c hg hv =>
    refine .own i g off len e cap a n c (Nat.lt_of_lt_of_le hg h.n) fun cs s kid hrow => ?_
    refine OwnOk.later h hrow hg fun cs1 s1 kid1 h1 => ⟨?_, hv cs1 s1 kid1 h1⟩
    obtain ⟨_, _, c, E, hc, _⟩ := hm.row i cs1 g s1 kid1 h1
    exact ⟨c, E, _, hc⟩
  | ptr i g off a hg hv =>
    refine .ptr i g off a (Nat.lt_of_lt_of_le hg h.n) fun cs s kid hrow => ?_
    obtain ⟨cs1, s1, kid1, h1, h2, h3, h4⟩ := h.row i cs g s kid hrow hg
    rw [h3]
    exact hv cs1 s1 kid1 h1
  | fn f caps vs hl hr ih => exact .fn f caps vs hl ih
  | ag cs vs hl hr ih => exact .ag cs vs hl ih
  | tu cs vs hl hr ih => exact .tu cs vs hl ih
  | mp i g r hg hv =>
    refine .mp i g r (Nat.lt_of_lt_of_le hg h.n) fun es hrow => ?_
    obtain ⟨es1, h1, h2⟩ := h.map i es g hrow hg
    rw [h2]
    exact hv es1 h1

/-- A smaller set to keep out of. -/
theorem RV.weak {A A' : Nat → Prop} {ρ : Nat → Nat × Nat} {m : Mem} {w : World} (hA : ∀ b, A' b → A b) {x : AV} {v : Value} (hr : RV A ρ m w x v) : RV A' ρ m w x v := by
  induction hr with
  | d x v hd => exact .d x v (hd.mono (fun _ _ _ => rfl) (fun b _ h => hA b h) (Nat.le_refl _))
  | rp cells b o us hc hr hb hs => exact .rp cells b o us hc (fun i hi => (hr i hi).mono (fun _ _ _ => rfl) (fun b _ h => hA b h) (Nat.le_refl _)) (fun h => hb (hA b h)) hs
  | own i g off len e cap a n c hg hv => exact .own i g off len e cap a n c hg hv
  | ptr i g off a hg hv => exact .ptr i g off a hg hv
  | fn f caps vs hl hr ih => exact .fn f caps vs hl ih
  | ag cs vs hl hr ih => exact .ag cs vs hl ih
  | tu cs vs hl hr ih => exact .tu cs vs hl ih
  | mp i g r hg hv => exact .mp i g r hg hv

theorem RV.undef (A : Nat → Prop) (ρ : Nat → Nat × Nat) (m : Mem) (w : World) : RV A ρ m w undefA undef := .d _ _ (.v _)

end Go.Am

namespace Go.Am

def upd (ρ : Nat → Nat × Nat) (h : Nat) (p : Nat × Nat) : Nat → Nat × Nat := fun i => if i = h then p else ρ i

theorem upd_same (ρ : Nat → Nat × Nat) (h : Nat) (p : Nat × Nat) : upd ρ h p h = p := by simp [upd]
theorem upd_other (ρ : Nat → Nat × Nat) {h i : Nat} (p : Nat × Nat) (hi : i ≠ h) : upd ρ h p i = ρ i := by simp [upd, hi]

theorem MemInv.lt_row {O : Nat → Prop} {ρ : Nat → Nat × Nat} {m : Mem} {w : World} (hm : MemInv O ρ m w) {h : Nat} {cs : List AV} {g : Nat} {s : Ow} {kid : Option (Nat × Nat)}
    (hr : m.b[h]? = some (.row cs g s kid)) : (ρ h).1 < w.heap.size := by
  obtain ⟨_, _, c, E, hc, _⟩ := hm.row h cs g s kid hr
  by_cases hlt : (ρ h).1 < w.heap.size
  · exact hlt
  · rw [Array.getElem?_eq_none (by omega)] at hc; cases hc

theorem MemInv.lt_mut {O : Nat → Prop} {ρ : Nat → Nat × Nat} {m : Mem} {w : World} (hm : MemInv O ρ m w) {h : Nat} (hr : Mut m h) : (ρ h).1 < w.heap.size := by
  rcases hr with ⟨cs, g, kid, hr⟩ | ⟨es, g, hr⟩
  · exact hm.lt_row hr
  · obtain ⟨_, _, c, E, hc, _⟩ := hm.map h es g hr
    by_cases hlt : (ρ h).1 < w.heap.size
    · exact hlt
    · rw [Array.getElem?_eq_none (by omega)] at hc; cases hc

theorem MemInv.lt_own {O : Nat → Prop} {ρ : Nat → Nat × Nat} {m : Mem} {w : World} (hm : MemInv O ρ m w) {b : Nat} (hb : OwnB ρ m b) : b < w.heap.size := by
  obtain ⟨h, hr, rfl⟩ := hb
  exact hm.lt_mut hr

theorem MemInv.av_lt {O : Nat → Prop} {ρ : Nat → Nat × Nat} {m : Mem} {w : World} (hm : MemInv O ρ m w) {b : Nat} (hb : Av O ρ m b) : b < w.heap.size :=
  hb.elim (hm.ex b) hm.lt_own

/-- Nothing but the count of draws has turned. -/
theorem later_of_heap {ρ : Nat → Nat × Nat} {m : Mem} {w w' : World} (hh : w'.heap = w.heap) (ho : w'.os = w.os) (ht : w'.tape = w.tape) (hp : w'.output = w.output) : Later ρ m w ρ m w' where
  os := ho
  tape := ht
  output := hp
  size := by rw [hh]; exact Nat.le_refl _
  keep := fun _ _ _ => by rw [hh]
  own := fun _ h => .inl h
  n := Nat.le_refl _
  row := fun _ cs _ s kid h _ => ⟨cs, s, kid, h, rfl, rfl, fun c E f hc => ⟨c, E, f, by rw [hh]; exact hc, rfl⟩⟩
  map := fun _ es _ h _ => ⟨es, h, rfl⟩

/-- The abstract memory stays, the world has turned outside of it. -/
theorem MemInv.later_same {O : Nat → Prop} {ρ : Nat → Nat × Nat} {m : Mem} {w w' : World} (hm : MemInv O ρ m w) (hl : Later ρ m w ρ m w')
    (hown : ∀ h, (∃ cs g s kid, m.b[h]? = some (.row cs g s kid)) ∨ (∃ es g, m.b[h]? = some (.map es g)) → w'.heap[(ρ h).1]? = w.heap[(ρ h).1]?) : MemInv O ρ m w' where
  row := fun h cs g s kid hr => by
    obtain ⟨h1, h2, c, E, h3, h4⟩ := hm.row h cs g s kid hr
    refine ⟨h1, h2, c, E, by rw [hown h (.inl ⟨cs, g, s, kid, hr⟩)]; exact h3, fun j hj => ?_⟩
    obtain ⟨u, hu, hv⟩ := h4 j hj
    exact ⟨u, hu, hv.later hm hl⟩
  map := fun h es g hr => by
    obtain ⟨h1, h2, c, k, h3, h4, h5⟩ := hm.map h es g hr
    refine ⟨h1, h2, c, k, by rw [hown h (.inr ⟨es, g, hr⟩)]; exact h3, h4, fun j hj => ?_⟩
    obtain ⟨u, hu, hk, hv⟩ := h5 j hj
    exact ⟨u, hu, hk, hv.later hm hl⟩
  dis := hm.dis
  fz := hm.fz
  kd := hm.kd
  ex := fun b hb => Nat.lt_of_lt_of_le (hm.ex b hb) hl.size

theorem MemInv.of_heap {O : Nat → Prop} {ρ : Nat → Nat × Nat} {m : Mem} {w w' : World} (hm : MemInv O ρ m w) (hh : w'.heap = w.heap) (ho : w'.os = w.os) (ht : w'.tape = w.tape) (hp : w'.output = w.output) : MemInv O ρ m w' :=
  hm.later_same (later_of_heap hh ho ht hp) fun _ _ => by rw [hh]

/-- A world that is as it was but for new blocks. -/
theorem MemInv.grown {O : Nat → Prop} {ρ : Nat → Nat × Nat} {m : Mem} {w w' : World} (hm : MemInv O ρ m w) (ho : w'.os = w.os) (ht : w'.tape = w.tape) (hp : w'.output = w.output)
    (hs : w.heap.size ≤ w'.heap.size) (hk : ∀ b, b < w.heap.size → w'.heap[b]? = w.heap[b]?) : MemInv O ρ m w' ∧ Later ρ m w ρ m w' := by
  have hl : Later ρ m w ρ m w' :=
    { os := ho, tape := ht, output := hp, size := hs, keep := fun b hb _ => hk b hb, own := fun _ h => .inl h, n := Nat.le_refl _
      row := fun h cs _ s kid hr _ => ⟨cs, s, kid, hr, rfl, rfl, fun c E f hc => ⟨c, E, f, by rw [hk _ (hm.lt_row hr)]; exact hc, rfl⟩⟩
      map := fun _ es _ h _ => ⟨es, h, rfl⟩ }
  refine ⟨hm.later_same hl fun h hr => hk _ ?_, hl⟩
  rcases hr with ⟨cs, g, s, kid, hr⟩ | ⟨es, g, hr⟩
  · exact hm.lt_row hr
  · exact hm.lt_mut (.inr ⟨es, g, hr⟩)

/-- Some blocks are forgotten. -/
theorem shrink {O : Nat → Prop} {ρ : Nat → Nat × Nat} {m m' : Mem} {w : World} (hm : MemInv O ρ m w) (hn : m.n ≤ m'.n)
    (hb : ∀ (i : Nat) (x : Blk), m'.b[i]? = some x → m.b[i]? = some x ∨ x = .dead) : MemInv O ρ m' w ∧ Later ρ m w ρ m' w := by
  have hrow : ∀ {i : Nat} {cs : List AV} {g : Nat} {s : Ow} {kid : Option (Nat × Nat)}, m'.b[i]? = some (.row cs g s kid) → m.b[i]? = some (.row cs g s kid) := fun h => (hb _ _ h).resolve_right (by intro hh; cases hh)
  have hmap : ∀ {i : Nat} {es : List (Value × AV)} {g : Nat}, m'.b[i]? = some (.map es g) → m.b[i]? = some (.map es g) := fun h => (hb _ _ h).resolve_right (by intro hh; cases hh)
  have hmut : ∀ {i}, Mut m' i → Mut m i := by
    rintro i (⟨cs, g, kid, h⟩ | ⟨es, g, h⟩)
    · exact .inl ⟨cs, g, kid, hrow h⟩
    · exact .inr ⟨es, g, hmap h⟩
  have hown : ∀ b, OwnB ρ m' b → OwnB ρ m b := fun b ⟨i, hi, e⟩ => ⟨i, hmut hi, e⟩
  have hl : Later ρ m w ρ m' w :=
    { os := rfl, tape := rfl, output := rfl, size := Nat.le_refl _, keep := fun _ _ _ => rfl, own := fun b h => .inl (hown b h), n := hn
      row := fun i cs g s kid h _ => ⟨cs, s, kid, hrow h, rfl, rfl, fun c E f hc => ⟨c, E, f, hc, rfl⟩⟩
      map := fun i es g h _ => ⟨es, hmap h, rfl⟩ }
  refine ⟨?_, hl⟩
  exact
    { row := fun h cs g s kid hr => by
        obtain ⟨h1, h2, c, E, h3, h4⟩ := hm.row h cs g s kid (hrow hr)
        refine ⟨Nat.lt_of_lt_of_le h1 hn, h2, c, E, h3, fun j hj => ?_⟩
        obtain ⟨u, hu, hv⟩ := h4 j hj
        exact ⟨u, hu, hv.later hm hl⟩
      map := fun h es g hr => by
        obtain ⟨h1, h2, c, k, h3, h4, h5⟩ := hm.map h es g (hmap hr)
        refine ⟨Nat.lt_of_lt_of_le h1 hn, h2, c, k, h3, h4, fun j hj => ?_⟩
        obtain ⟨u, hu, hk, hv⟩ := h5 j hj
        exact ⟨u, hu, hk, hv.later hm hl⟩
      dis := fun h h' a b => hm.dis h h' (hmut a) (hmut b)
      fz := fun h cs g kid hr ho => hm.fz h cs g kid (hrow hr) (hown _ ho)
      kd := fun k cs g p kid hr h hmt he => by
        obtain ⟨h1, cs', g', h2⟩ := hm.kd k cs g p kid (hrow hr) h (hmut hmt) he
        refine ⟨h1, cs', g', ?_⟩
        rcases hmt with ⟨cs1, g1, kid1, h3⟩ | ⟨es, g1, h3⟩
        · have := hrow h3; rw [h2] at this; simp only [Option.some.injEq, Blk.row.injEq] at this
          obtain ⟨rfl, rfl, _, rfl⟩ := this
          exact h3
        · have := hmap h3; rw [h2] at this; cases this
      ex := hm.ex }

/-- A new block of cells. -/
theorem push {O : Nat → Prop} {ρ : Nat → Nat × Nat} {m : Mem} {w : World} (hm : MemInv O ρ m w) (cs : List AV) (c : Array Value) (E : TypeId)
    (hc : ∀ j (hj : j < cs.length), ∃ u, c[j]? = some u ∧ RV (Av O ρ m) ρ m w (cs[j]'hj) u) :
    MemInv O (upd ρ m.b.length (w.heap.size, 0)) (m.push cs) (w.alloc (.cells c E)) ∧ Later ρ m w (upd ρ m.b.length (w.heap.size, 0)) (m.push cs) (w.alloc (.cells c E)) := by
  have hold : ∀ {i : Nat} {x : Blk}, m.b[i]? = some x → i ≠ m.b.length := by
    intro i x h e
    rw [e, List.getElem?_eq_none (Nat.le_refl _)] at h; cases h
  have hget : ∀ {i : Nat} {x : Blk}, (m.push cs).b[i]? = some x → (m.b[i]? = some x ∧ i ≠ m.b.length) ∨ (i = m.b.length ∧ x = .row cs m.n .ow none) := by
    intro i x h
    simp only [Mem.push, List.getElem?_append] at h
    split at h
    · exact .inl ⟨h, by omega⟩
    · right
      have : i - m.b.length = 0 := by
        by_cases h0 : i - m.b.length = 0
        · exact h0
        · rw [List.getElem?_eq_none (by simp; omega)] at h; cases h
      rw [this] at h
      simp only [List.getElem?_cons_zero, Option.some.injEq] at h
      exact ⟨by omega, h.symm⟩
  have hmut : ∀ {i}, Mut (m.push cs) i → (Mut m i ∧ i ≠ m.b.length) ∨ i = m.b.length := by
    rintro i (⟨cs', g, kid, h⟩ | ⟨es, g, h⟩)
    · rcases hget h with ⟨h, hi⟩ | ⟨hi, _⟩
      · exact .inl ⟨.inl ⟨cs', g, kid, h⟩, hi⟩
      · exact .inr hi
    · rcases hget h with ⟨h, hi⟩ | ⟨_, hi⟩
      · exact .inl ⟨.inr ⟨es, g, h⟩, hi⟩
      · cases hi
  have hown : ∀ b, OwnB (upd ρ m.b.length (w.heap.size, 0)) (m.push cs) b → OwnB ρ m b ∨ w.heap.size ≤ b := by
    rintro b ⟨i, hi, rfl⟩
    rcases hmut hi with ⟨hi, hne⟩ | rfl
    · rw [upd_other _ _ hne]; exact .inl ⟨i, hi, rfl⟩
    · rw [upd_same]; exact .inr (Nat.le_refl _)
  have hk : ∀ b, b < w.heap.size → (w.alloc (.cells c E)).heap[b]? = w.heap[b]? := fun b hb => RowKit.Below.heap_alloc w _ b hb
  have hl : Later ρ m w (upd ρ m.b.length (w.heap.size, 0)) (m.push cs) (w.alloc (.cells c E)) :=
    { os := rfl, tape := rfl, output := rfl, size := by simp, keep := fun b hb _ => hk b hb, own := hown, n := by simp [Mem.push]
      row := fun i cs' g s kid h hg => by
        rcases hget h with ⟨h, hi⟩ | ⟨_, hx⟩
        · exact ⟨cs', s, kid, h, rfl, upd_other _ _ hi, fun c' E' f hc' => ⟨c', E', f, by rw [hk _ (hm.lt_row h)]; exact hc', rfl⟩⟩
        · simp only [Blk.row.injEq] at hx; omega
      map := fun i es g h hg => by
        rcases hget h with ⟨h, hi⟩ | ⟨_, hx⟩
        · exact ⟨es, h, upd_other _ _ hi⟩
        · cases hx }
  refine ⟨?_, hl⟩
  exact
    { row := fun h cs' g s kid hr => by
        rcases hget hr with ⟨hr, hi⟩ | ⟨rfl, hx⟩
        · obtain ⟨h1, h2, c', E', h3, h4⟩ := hm.row h cs' g s kid hr
          rw [upd_other _ _ hi]
          refine ⟨by simp [Mem.push]; omega, h2, c', E', by rw [hk _ (hm.lt_row hr)]; exact h3, fun j hj => ?_⟩
          obtain ⟨u, hu, hv⟩ := h4 j hj
          exact ⟨u, hu, hv.later hm hl⟩
        · simp only [Blk.row.injEq] at hx
          obtain ⟨rfl, rfl, rfl, rfl⟩ := hx
          rw [upd_same]
          refine ⟨by simp [Mem.push], fun ho => absurd (hm.ex _ ho) (by simp), c, E, heap_alloc_new w _, fun j hj => ?_⟩
          obtain ⟨u, hu, hv⟩ := hc j hj
          exact ⟨u, by simpa using hu, hv.later hm hl⟩
      map := fun h es g hr => by
        rcases hget hr with ⟨hr, hi⟩ | ⟨_, hx⟩
        · obtain ⟨h1, h2, c', k, h3, h4, h5⟩ := hm.map h es g hr
          rw [upd_other _ _ hi]
          refine ⟨by simp [Mem.push]; omega, h2, c', k, by rw [hk _ (hm.lt_mut (.inr ⟨es, g, hr⟩))]; exact h3, h4, fun j hj => ?_⟩
          obtain ⟨u, hu, hk, hv⟩ := h5 j hj
          exact ⟨u, hu, hk, hv.later hm hl⟩
        · cases hx
      dis := fun i j hi hj he => by
        rcases hmut hi with ⟨hi, hni⟩ | rfl <;> rcases hmut hj with ⟨hj, hnj⟩ | rfl
        · rw [upd_other _ _ hni, upd_other _ _ hnj] at he; exact hm.dis i j hi hj he
        · rw [upd_other _ _ hni, upd_same] at he; have := hm.lt_mut hi; simp only at he; omega
        · rw [upd_other _ _ hnj, upd_same] at he; have := hm.lt_mut hj; simp only at he; omega
        · rfl
      fz := fun h cs' g kid hr ho => by
        rcases hget hr with ⟨hr, hi⟩ | ⟨_, hx⟩
        · rw [upd_other _ _ hi] at ho
          rcases hown _ ho with ho | ho
          · exact hm.fz h cs' g kid hr ho
          · have := hm.lt_row hr; omega
        · cases hx
      kd := fun k cs' g p kid hr h hmt he => by
        rcases hget hr with ⟨hr, hi⟩ | ⟨_, hx⟩
        · rw [upd_other _ _ hi] at he
          rcases hmut hmt with ⟨hmt, hh⟩ | rfl
          · rw [upd_other _ _ hh] at he
            obtain ⟨h1, cs2, g2, h2⟩ := hm.kd k cs' g p kid hr h hmt he
            refine ⟨h1, cs2, g2, ?_⟩
            simp only [Mem.push]
            rw [List.getElem?_append_left (by
              by_cases hlt : h < m.b.length
              · exact hlt
              · rw [List.getElem?_eq_none (by omega)] at h2; cases h2)]
            exact h2
          · rw [upd_same] at he; have := hm.lt_row hr; simp only at he; omega
        · cases hx
      ex := fun b hb => by have := hm.ex b hb; simp; omega }

end Go.Am

namespace Go.Am

theorem kill_length (b : List Blk) (k : Option (Nat × Nat)) : (kill b k).length = b.length := by
  unfold kill
  split
  · rfl
  · split
    · split <;> simp
    · rfl

theorem kill_get {b : List Blk} {k : Option (Nat × Nat)} {i : Nat} {x : Blk} (h : (kill b k)[i]? = some x) : b[i]? = some x ∨ x = .dead := by
  unfold kill at h
  split at h
  · exact .inl h
  · split at h
    · split at h
      · rw [List.getElem?_set] at h
        split at h
        · split at h
          · simp only [Option.some.injEq] at h; exact .inr h.symm
          · cases h
        · exact .inl h
      · exact .inl h
    · exact .inl h

theorem kill_dead {b : List Blk} {k g : Nat} {cs : List AV} {s : Ow} {kid : Option (Nat × Nat)} (hk : b[k]? = some (.row cs g s kid)) : (kill b (some (k, g)))[k]? = some .dead := by
  have hlt : k < b.length := by
    by_cases h : k < b.length
    · exact h
    · rw [List.getElem?_eq_none (by omega)] at hk; cases hk
  simp only [kill, hk]
  simp [hlt]

/-- A block of one's own gets new cells, in its place or in another. -/
theorem replace {O : Nat → Prop} {ρ : Nat → Nat × Nat} {m : Mem} {w w' : World} (hm : MemInv O ρ m w) {h g : Nat} {cs : List AV} {kid : Option (Nat × Nat)}
    (ho : m.b[h]? = some (.row cs g .ow kid)) (p' : Nat × Nat) (cs' : List AV) (g' n' : Nat) (hn : m.n ≤ n') (hg' : g' < n') (c' : Array Value) (E' : TypeId)
    (hsame : (g' = g ∧ cs'.length = cs.length ∧ p' = ρ h ∧ ∀ c E f, w.heap[(ρ h).1]? = some (.cells c E f) → c'.size = c.size) ∨ m.n ≤ g')
    (hsz : w.heap.size ≤ w'.heap.size) (hos : w'.os = w.os) (htp : w'.tape = w.tape) (hou : w'.output = w.output)
    (hkeep : ∀ b, b < w.heap.size → b ≠ (ρ h).1 → w'.heap[b]? = w.heap[b]?)
    (hp : p'.1 = (ρ h).1 ∨ w.heap.size ≤ p'.1) (hc : w'.heap[p'.1]? = some (.cells c' E' (0, 0)))
    (hcells : ∀ j (hj : j < cs'.length), ∃ u, c'[p'.2 + j]? = some u ∧ RV (Av O ρ m) ρ m w (cs'[j]'hj) u) :
    MemInv O (upd ρ h p') ⟨(kill m.b kid).set h (.row cs' g' .ow none), n'⟩ w' ∧ Later ρ m w (upd ρ h p') ⟨(kill m.b kid).set h (.row cs' g' .ow none), n'⟩ w' := by
  have hmuth : Mut m h := .inl ⟨cs, g, kid, ho⟩
  have hlt : h < (kill m.b kid).length := by
    rw [kill_length]
    by_cases hh : h < m.b.length
    · exact hh
    · rw [List.getElem?_eq_none (by omega)] at ho; cases ho
  have hget : ∀ {i : Nat} {x : Blk}, ((kill m.b kid).set h (.row cs' g' .ow none))[i]? = some x →
      (i ≠ h ∧ (kill m.b kid)[i]? = some x) ∨ (i = h ∧ x = .row cs' g' .ow none) := by
    intro i x hx
    rw [List.getElem?_set] at hx
    split at hx
    · rename_i he
      simp only [Option.some.injEq] at hx
      exact .inr ⟨he.symm, hx.symm⟩
    · rename_i he; exact .inl ⟨fun e => he e.symm, hx⟩
  have hmut : ∀ {i}, Mut ⟨(kill m.b kid).set h (.row cs' g' .ow none), n'⟩ i → (i ≠ h ∧ Mut m i) ∨ i = h := by
    rintro i (⟨cs1, g1, kid1, hx⟩ | ⟨es, g1, hx⟩)
    · rcases hget hx with ⟨hi, hx⟩ | ⟨hi, _⟩
      · exact .inl ⟨hi, .inl ⟨cs1, g1, kid1, (kill_get hx).resolve_right (by intro hh; cases hh)⟩⟩
      · exact .inr hi
    · rcases hget hx with ⟨hi, hx⟩ | ⟨_, hx⟩
      · exact .inl ⟨hi, .inr ⟨es, g1, (kill_get hx).resolve_right (by intro hh; cases hh)⟩⟩
      · cases hx
  have hown : ∀ b, OwnB (upd ρ h p') ⟨(kill m.b kid).set h (.row cs' g' .ow none), n'⟩ b → OwnB ρ m b ∨ w.heap.size ≤ b := by
    rintro b ⟨i, hi, rfl⟩
    rcases hmut hi with ⟨hne, hi⟩ | rfl
    · rw [upd_other _ _ hne]; exact .inl ⟨i, hi, rfl⟩
    · rw [upd_same]
      rcases hp with hp | hp
      · exact .inl ⟨i, hmuth, hp.symm⟩
      · exact .inr hp
  have hl : Later ρ m w (upd ρ h p') ⟨(kill m.b kid).set h (.row cs' g' .ow none), n'⟩ w' :=
    { os := hos, tape := htp, output := hou, size := hsz, own := hown, n := hn
      keep := fun b hb hno => hkeep b hb fun e => hno ⟨h, hmuth, e.symm⟩
      row := fun i cs1 g1 s1 kid1 hx0 hg1 => by
        rcases hget hx0 with ⟨hi, hx⟩ | ⟨rfl, hx⟩
        · have hx' := (kill_get hx).resolve_right (by intro hh; cases hh)
          refine ⟨cs1, s1, kid1, hx', rfl, upd_other _ _ hi, fun c E f hc1 => ?_⟩
          by_cases hb : (ρ i).1 = (ρ h).1
          · rw [hb] at hc1 ⊢
            -- the same block: its kid, which is dead
            exfalso
            cases s1 with
            | ow => exact hi (hm.dis i h (.inl ⟨cs1, g1, kid1, hx'⟩) hmuth hb)
            | fz => exact hm.fz i cs1 g1 kid1 hx' ⟨h, hmuth, hb.symm⟩
            | kd p =>
              obtain ⟨_, cs2, g2, h2⟩ := hm.kd i cs1 g1 p kid1 hx' h hmuth hb.symm
              rw [ho] at h2
              simp only [Option.some.injEq, Blk.row.injEq] at h2
              rw [h2.2.2.2, kill_dead hx'] at hx; cases hx
          · exact ⟨c, E, f, by rw [hkeep _ (hm.lt_row hx') hb]; exact hc1, rfl⟩
        · simp only [Blk.row.injEq] at hx
          obtain ⟨rfl, rfl, rfl, rfl⟩ := hx
          rcases hsame with ⟨rfl, hlen, rfl, hsize⟩ | hge
          · exact ⟨cs, .ow, kid, ho, hlen, upd_same _ _ _, fun c E f hc1 => ⟨c', E', _, hc, hsize c E f hc1⟩⟩
          · omega
      map := fun i es g1 hx hg1 => by
        rcases hget hx with ⟨hi, hx⟩ | ⟨_, hx⟩
        · exact ⟨es, (kill_get hx).resolve_right (by intro hh; cases hh), upd_other _ _ hi⟩
        · cases hx }
  have hapart : ∀ {i cs1 g1 s1 kid1}, i ≠ h → (kill m.b kid)[i]? = some (.row cs1 g1 s1 kid1) → m.b[i]? = some (.row cs1 g1 s1 kid1) ∧ (ρ i).1 ≠ (ρ h).1 := by
    intro i cs1 g1 s1 kid1 hi hx
    have hx' := (kill_get hx).resolve_right (by intro hh; cases hh)
    refine ⟨hx', fun hb => ?_⟩
    cases s1 with
    | ow => exact hi (hm.dis i h (.inl ⟨cs1, g1, kid1, hx'⟩) hmuth hb)
    | fz => exact hm.fz i cs1 g1 kid1 hx' ⟨h, hmuth, hb.symm⟩
    | kd p =>
      obtain ⟨_, cs2, g2, h2⟩ := hm.kd i cs1 g1 p kid1 hx' h hmuth hb.symm
      rw [ho] at h2
      simp only [Option.some.injEq, Blk.row.injEq] at h2
      rw [h2.2.2.2, kill_dead hx'] at hx; cases hx
  refine ⟨?_, hl⟩
  exact
    { row := fun i cs1 g1 s1 kid1 hx0 => by
        rcases hget hx0 with ⟨hi, hx⟩ | ⟨rfl, hx⟩
        · obtain ⟨hx', hb⟩ := hapart hi hx
          obtain ⟨h1, h2, c1, E1, h3, h4⟩ := hm.row i cs1 g1 s1 kid1 hx'
          rw [upd_other _ _ hi]
          refine ⟨Nat.lt_of_lt_of_le h1 hn, h2, c1, E1, by rw [hkeep _ (hm.lt_row hx') hb]; exact h3, fun j hj => ?_⟩
          obtain ⟨u, hu, hv⟩ := h4 j hj
          exact ⟨u, hu, hv.later hm hl⟩
        · simp only [Blk.row.injEq] at hx
          obtain ⟨rfl, rfl, rfl, rfl⟩ := hx
          rw [upd_same]
          refine ⟨hg', fun hO => ?_, c', E', hc, fun j hj => ?_⟩
          · rcases hp with hp | hp
            · rw [hp] at hO; exact (hm.row i cs g .ow kid ho).2.1 hO
            · have := hm.ex _ hO; omega
          · obtain ⟨u, hu, hv⟩ := hcells j hj
            exact ⟨u, hu, hv.later hm hl⟩
      map := fun i es g1 hx => by
        rcases hget hx with ⟨hi, hx⟩ | ⟨_, hx⟩
        · have hx' := (kill_get hx).resolve_right (by intro hh; cases hh)
          obtain ⟨h1, h2, c1, k1, h3, h4, h5⟩ := hm.map i es g1 hx'
          rw [upd_other _ _ hi]
          refine ⟨Nat.lt_of_lt_of_le h1 hn, h2, c1, k1, ?_, h4, fun j hj => ?_⟩
          · rw [hkeep _ (hm.lt_mut (.inr ⟨es, g1, hx'⟩)) fun hb => hi (hm.dis i h (.inr ⟨es, g1, hx'⟩) hmuth hb)]; exact h3
          · obtain ⟨u, hu, hk, hv⟩ := h5 j hj
            exact ⟨u, hu, hk, hv.later hm hl⟩
        · cases hx
      dis := fun i j hi hj he => by
        rcases hmut hi with ⟨hni, hi1⟩ | hi1 <;> rcases hmut hj with ⟨hnj, hj1⟩ | hj1
        · rw [upd_other _ _ hni, upd_other _ _ hnj] at he; exact hm.dis i j hi1 hj1 he
        · subst hj1
          rw [upd_other _ _ hni, upd_same] at he
          rcases hp with hp | hp
          · exact hm.dis i j hi1 hmuth (he.trans hp)
          · have := hm.lt_mut hi1; omega
        · subst hi1
          rw [upd_other _ _ hnj, upd_same] at he
          rcases hp with hp | hp
          · exact hm.dis i j hmuth hj1 (hp.symm.trans he)
          · have := hm.lt_mut hj1; omega
        · rw [hi1, hj1]
      fz := fun i cs1 g1 kid1 hx hOw => by
        rcases hget hx with ⟨hi, hx⟩ | ⟨_, hx⟩
        · obtain ⟨hx', hb⟩ := hapart hi hx
          rw [upd_other _ _ hi] at hOw
          rcases hown _ hOw with hOw | hOw
          · exact hm.fz i cs1 g1 kid1 hx' hOw
          · have := hm.lt_row hx'; omega
        · cases hx
      kd := fun k cs1 g1 p kid1 hx i hmt he => by
        rcases hget hx with ⟨hi, hx⟩ | ⟨_, hx⟩
        · obtain ⟨hx', hb⟩ := hapart hi hx
          rw [upd_other _ _ hi] at he
          rcases hmut hmt with ⟨hni, hmt'⟩ | rfl
          · rw [upd_other _ _ hni] at he
            obtain ⟨h1, cs2, g2, h2⟩ := hm.kd k cs1 g1 p kid1 hx' i hmt' he
            refine ⟨h1, cs2, g2, ?_⟩
            rcases hmt with ⟨cs3, g3, kid3, h3⟩ | ⟨es, g3, h3⟩
            · have h3' := h3
              rcases hget h3 with ⟨_, h3⟩ | ⟨h3, _⟩
              · have := (kill_get h3).resolve_right (by intro hh; cases hh)
                rw [h2] at this
                simp only [Option.some.injEq, Blk.row.injEq] at this
                obtain ⟨rfl, rfl, _, rfl⟩ := this
                exact h3'
              · exact absurd h3 hni
            · rcases hget h3 with ⟨_, h3⟩ | ⟨_, h3⟩
              · have := (kill_get h3).resolve_right (by intro hh; cases hh)
                rw [h2] at this; cases this
              · cases h3
          · rw [upd_same] at he
            rcases hp with hp | hp
            · exact absurd (he.symm.trans hp) hb
            · have := hm.lt_row hx'; omega
        · cases hx
      ex := fun b hb => Nat.lt_of_lt_of_le (hm.ex b hb) hsz }

/-- Some blocks are frozen. -/
theorem frozen {O : Nat → Prop} {ρ : Nat → Nat × Nat} {m m' : Mem} {w : World} (hm : MemInv O ρ m w) (hn : m'.n = m.n)
    (hb : ∀ (i : Nat) (x : Blk), m'.b[i]? = some x → m.b[i]? = some x ∨ ∃ cs g s kid, x = .row cs g .fz kid ∧ m.b[i]? = some (.row cs g s kid) ∧
      ∀ p, s = .kd p → ¬ ∃ cs g kid, m'.b[p]? = some (.row cs g .ow kid)) : MemInv O ρ m' w ∧ Later ρ m w ρ m' w := by
  have hrow : ∀ {i : Nat} {cs : List AV} {g : Nat} {s : Ow} {kid : Option (Nat × Nat)}, m'.b[i]? = some (.row cs g s kid) → ∃ s, m.b[i]? = some (.row cs g s kid) := by
    intro i cs g s kid h
    rcases hb _ _ h with h | ⟨cs1, g1, s1, kid1, he, h, _⟩
    · exact ⟨s, h⟩
    · simp only [Blk.row.injEq] at he; obtain ⟨rfl, rfl, _, rfl⟩ := he; exact ⟨s1, h⟩
  have hmap : ∀ {i : Nat} {es : List (Value × AV)} {g : Nat}, m'.b[i]? = some (.map es g) → m.b[i]? = some (.map es g) := by
    intro i es g h
    rcases hb _ _ h with h | ⟨cs1, g1, s1, kid1, he, h, _⟩
    · exact h
    · cases he
  have how : ∀ {i : Nat} {cs : List AV} {g : Nat} {kid : Option (Nat × Nat)}, m'.b[i]? = some (.row cs g .ow kid) → m.b[i]? = some (.row cs g .ow kid) := by
    intro i cs g kid h
    rcases hb _ _ h with h | ⟨cs1, g1, s1, kid1, he, h, _⟩
    · exact h
    · cases he
  have hmut : ∀ {i}, Mut m' i → Mut m i := by
    rintro i (⟨cs, g, kid, h⟩ | ⟨es, g, h⟩)
    · exact .inl ⟨cs, g, kid, how h⟩
    · exact .inr ⟨es, g, hmap h⟩
  have hown : ∀ b, OwnB ρ m' b → OwnB ρ m b := fun b ⟨i, hi, e⟩ => ⟨i, hmut hi, e⟩
  have hl : Later ρ m w ρ m' w :=
    { os := rfl, tape := rfl, output := rfl, size := Nat.le_refl _, keep := fun _ _ _ => rfl, own := fun b h => .inl (hown b h), n := Nat.le_of_eq hn.symm
      row := fun i cs g s kid h _ => by
        obtain ⟨s1, h1⟩ := hrow h
        exact ⟨cs, s1, kid, h1, rfl, rfl, fun c E f hc => ⟨c, E, f, hc, rfl⟩⟩
      map := fun i es g h _ => ⟨es, hmap h, rfl⟩ }
  refine ⟨?_, hl⟩
  exact
    { row := fun h cs g s kid hr => by
        obtain ⟨s1, hr1⟩ := hrow hr
        obtain ⟨h1, h2, c, E, h3, h4⟩ := hm.row h cs g s1 kid hr1
        refine ⟨by rw [hn]; exact h1, h2, c, E, h3, fun j hj => ?_⟩
        obtain ⟨u, hu, hv⟩ := h4 j hj
        exact ⟨u, hu, hv.later hm hl⟩
      map := fun h es g hr => by
        obtain ⟨h1, h2, c, k, h3, h4, h5⟩ := hm.map h es g (hmap hr)
        refine ⟨by rw [hn]; exact h1, h2, c, k, h3, h4, fun j hj => ?_⟩
        obtain ⟨u, hu, hk, hv⟩ := h5 j hj
        exact ⟨u, hu, hk, hv.later hm hl⟩
      dis := fun h h' a b => hm.dis h h' (hmut a) (hmut b)
      fz := fun h cs g kid hr ho => by
        rcases hb _ _ hr with hr1 | ⟨cs1, g1, s1, kid1, he, hr1, hp⟩
        · exact hm.fz h cs g kid hr1 (hown _ ho)
        · obtain ⟨i, hi, hio⟩ := ho
          cases s1 with
          | ow =>
            have := hm.dis i h (hmut hi) (.inl ⟨cs1, g1, kid1, hr1⟩) hio
            subst this
            rcases hi with ⟨cs2, g2, kid2, h2⟩ | ⟨es, g2, h2⟩
            · rw [hr] at h2; cases h2
            · rw [hr] at h2; cases h2
          | fz => exact hm.fz h cs1 g1 kid1 hr1 ⟨i, hmut hi, hio⟩
          | kd p =>
            obtain ⟨rfl, cs3, g3, h3⟩ := hm.kd h cs1 g1 p kid1 hr1 i (hmut hi) hio
            rcases hi with ⟨cs2, g2, kid2, h2⟩ | ⟨es, g2, h2⟩
            · exact hp i rfl ⟨cs2, g2, kid2, h2⟩
            · have := hmap h2; rw [h3] at this; cases this
      kd := fun k cs g p kid hr h hmt he => by
        have hr1 : m.b[k]? = some (.row cs g (.kd p) kid) := by
          rcases hb _ _ hr with hr1 | ⟨cs1, g1, s1, kid1, hx, _, _⟩
          · exact hr1
          · cases hx
        obtain ⟨h1, cs', g', h2⟩ := hm.kd k cs g p kid hr1 h (hmut hmt) he
        refine ⟨h1, cs', g', ?_⟩
        rcases hmt with ⟨cs2, g2, kid2, h3⟩ | ⟨es, g2, h3⟩
        · have := how h3; rw [h2] at this; simp only [Option.some.injEq, Blk.row.injEq] at this
          obtain ⟨rfl, rfl, _, rfl⟩ := this
          exact h3
        · have := hmap h3; rw [h2] at this; cases this
      ex := hm.ex }

end Go.Am

namespace Go.Am

/-- A new map. -/
theorem pushMap {O : Nat → Prop} {ρ : Nat → Nat × Nat} {m : Mem} {w : World} (hm : MemInv O ρ m w) :
    MemInv O (upd ρ m.b.length (w.heap.size, 0)) m.pushMap (w.alloc (.map #[] 0)) ∧ Later ρ m w (upd ρ m.b.length (w.heap.size, 0)) m.pushMap (w.alloc (.map #[] 0)) := by
  have hold : ∀ {i : Nat} {x : Blk}, m.b[i]? = some x → i ≠ m.b.length := by
    intro i x h e
    rw [e, List.getElem?_eq_none (Nat.le_refl _)] at h; cases h
  have hget : ∀ {i : Nat} {x : Blk}, m.pushMap.b[i]? = some x → (m.b[i]? = some x ∧ i ≠ m.b.length) ∨ (i = m.b.length ∧ x = .map [] m.n) := by
    intro i x h
    simp only [Mem.pushMap, List.getElem?_append] at h
    split at h
    · exact .inl ⟨h, by omega⟩
    · right
      have : i - m.b.length = 0 := by
        by_cases h0 : i - m.b.length = 0
        · exact h0
        · rw [List.getElem?_eq_none (by simp; omega)] at h; cases h
      rw [this] at h
      simp only [List.getElem?_cons_zero, Option.some.injEq] at h
      exact ⟨by omega, h.symm⟩
  have hmut : ∀ {i}, Mut m.pushMap i → (Mut m i ∧ i ≠ m.b.length) ∨ i = m.b.length := by
    rintro i (⟨cs', g, kid, h⟩ | ⟨es, g, h⟩)
    · rcases hget h with ⟨h, hi⟩ | ⟨_, hi⟩
      · exact .inl ⟨.inl ⟨cs', g, kid, h⟩, hi⟩
      · cases hi
    · rcases hget h with ⟨h, hi⟩ | ⟨hi, _⟩
      · exact .inl ⟨.inr ⟨es, g, h⟩, hi⟩
      · exact .inr hi
  have hown : ∀ b, OwnB (upd ρ m.b.length (w.heap.size, 0)) m.pushMap b → OwnB ρ m b ∨ w.heap.size ≤ b := by
    rintro b ⟨i, hi, rfl⟩
    rcases hmut hi with ⟨hi, hne⟩ | rfl
    · rw [upd_other _ _ hne]; exact .inl ⟨i, hi, rfl⟩
    · rw [upd_same]; exact .inr (Nat.le_refl _)
  have hk : ∀ b, b < w.heap.size → (w.alloc (.map #[] 0)).heap[b]? = w.heap[b]? := fun b hb => RowKit.Below.heap_alloc w _ b hb
  have hl : Later ρ m w (upd ρ m.b.length (w.heap.size, 0)) m.pushMap (w.alloc (.map #[] 0)) :=
    { os := rfl, tape := rfl, output := rfl, size := by simp, keep := fun b hb _ => hk b hb, own := hown, n := by simp [Mem.pushMap]
      row := fun i cs' g s kid h hg => by
        rcases hget h with ⟨h, hi⟩ | ⟨_, hx⟩
        · exact ⟨cs', s, kid, h, rfl, upd_other _ _ hi, fun c' E' f hc' => ⟨c', E', f, by rw [hk _ (hm.lt_row h)]; exact hc', rfl⟩⟩
        · cases hx
      map := fun i es g h hg => by
        rcases hget h with ⟨h, hi⟩ | ⟨_, hx⟩
        · exact ⟨es, h, upd_other _ _ hi⟩
        · simp only [Blk.map.injEq] at hx; omega }
  refine ⟨?_, hl⟩
  exact
    { row := fun h cs' g s kid hr => by
        rcases hget hr with ⟨hr, hi⟩ | ⟨rfl, hx⟩
        · obtain ⟨h1, h2, c', E', h3, h4⟩ := hm.row h cs' g s kid hr
          rw [upd_other _ _ hi]
          refine ⟨by simp [Mem.pushMap]; omega, h2, c', E', by rw [hk _ (hm.lt_row hr)]; exact h3, fun j hj => ?_⟩
          obtain ⟨u, hu, hv⟩ := h4 j hj
          exact ⟨u, hu, hv.later hm hl⟩
        · cases hx
      map := fun h es g hr => by
        rcases hget hr with ⟨hr, hi⟩ | ⟨rfl, hx⟩
        · obtain ⟨h1, h2, c', k, h3, h4, h5⟩ := hm.map h es g hr
          rw [upd_other _ _ hi]
          refine ⟨by simp [Mem.pushMap]; omega, h2, c', k, by rw [hk _ (hm.lt_mut (.inr ⟨es, g, hr⟩))]; exact h3, h4, fun j hj => ?_⟩
          obtain ⟨u, hu, hk, hv⟩ := h5 j hj
          exact ⟨u, hu, hk, hv.later hm hl⟩
        · simp only [Blk.map.injEq] at hx
          obtain ⟨rfl, rfl⟩ := hx
          rw [upd_same]
          exact ⟨by simp [Mem.pushMap], fun ho => absurd (hm.ex _ ho) (by simp), #[], 0, heap_alloc_new w _, rfl, fun j hj => absurd hj (by simp)⟩
      dis := fun i j hi hj he => by
        rcases hmut hi with ⟨hi, hni⟩ | rfl <;> rcases hmut hj with ⟨hj, hnj⟩ | rfl
        · rw [upd_other _ _ hni, upd_other _ _ hnj] at he; exact hm.dis i j hi hj he
        · rw [upd_other _ _ hni, upd_same] at he; have := hm.lt_mut hi; simp only at he; omega
        · rw [upd_other _ _ hnj, upd_same] at he; have := hm.lt_mut hj; simp only at he; omega
        · rfl
      fz := fun h cs' g kid hr ho => by
        rcases hget hr with ⟨hr, hi⟩ | ⟨_, hx⟩
        · rw [upd_other _ _ hi] at ho
          rcases hown _ ho with ho | ho
          · exact hm.fz h cs' g kid hr ho
          · have := hm.lt_row hr; omega
        · cases hx
      kd := fun k cs' g p kid hr h hmt he => by
        rcases hget hr with ⟨hr, hi⟩ | ⟨_, hx⟩
        · rw [upd_other _ _ hi] at he
          rcases hmut hmt with ⟨hmt, hh⟩ | rfl
          · rw [upd_other _ _ hh] at he
            obtain ⟨h1, cs2, g2, h2⟩ := hm.kd k cs' g p kid hr h hmt he
            refine ⟨h1, cs2, g2, ?_⟩
            simp only [Mem.pushMap]
            rw [List.getElem?_append_left (by
              by_cases hlt : h < m.b.length
              · exact hlt
              · rw [List.getElem?_eq_none (by omega)] at h2; cases h2)]
            exact h2
          · rw [upd_same] at he; have := hm.lt_row hr; simp only at he; omega
        · cases hx
      ex := fun b hb => by have := hm.ex b hb; simp; omega }


/-- What an append gave, kept beside its source. -/
theorem fork2 {O : Nat → Prop} {ρ : Nat → Nat × Nat} {m : Mem} {w : World} (hm : MemInv O ρ m w) {h g : Nat} {cs : List AV}
    (ho : m.b[h]? = some (.row cs g .ow none)) (p2 : Nat × Nat) (cs2 : List AV) (c2 : Array Value) (E2 : TypeId)
    (hO : ¬ O p2.1) (hq : ∀ i, Mut m i → (ρ i).1 = p2.1 → i = h) (hc : w.heap[p2.1]? = some (.cells c2 E2 (0, 0)))
    (hcells : ∀ j (hj : j < cs2.length), ∃ u, c2[p2.2 + j]? = some u ∧ RV (Av O ρ m) ρ m w (cs2[j]'hj) u) :
    MemInv O (upd ρ m.b.length p2) ⟨m.b.set h (.row cs g .ow (some (m.b.length, m.n))) ++ [.row cs2 m.n (.kd h) none], m.n + 1⟩ w ∧
    Later ρ m w (upd ρ m.b.length p2) ⟨m.b.set h (.row cs g .ow (some (m.b.length, m.n))) ++ [.row cs2 m.n (.kd h) none], m.n + 1⟩ w := by
  have hlt : h < m.b.length := by
    by_cases hh : h < m.b.length
    · exact hh
    · rw [List.getElem?_eq_none (by omega)] at ho; cases ho
  have hget : ∀ {i : Nat} {x : Blk}, (m.b.set h (.row cs g .ow (some (m.b.length, m.n))) ++ [.row cs2 m.n (.kd h) none])[i]? = some x →
      (i ≠ m.b.length ∧ i ≠ h ∧ m.b[i]? = some x) ∨ (i = h ∧ x = .row cs g .ow (some (m.b.length, m.n))) ∨ (i = m.b.length ∧ x = .row cs2 m.n (.kd h) none) := by
    intro i x hx
    simp only [List.getElem?_append, List.length_set] at hx
    split at hx
    · rename_i hi
      by_cases he : i = h
      · subst he
        rw [List.getElem?_set_self hi] at hx
        simp only [Option.some.injEq] at hx
        exact .inr (.inl ⟨rfl, hx.symm⟩)
      · rw [List.getElem?_set_ne (fun e => he e.symm)] at hx
        exact .inl ⟨by omega, he, hx⟩
    · rename_i hi
      have : i - m.b.length = 0 := by
        by_cases h0 : i - m.b.length = 0
        · exact h0
        · rw [List.getElem?_eq_none (by simp; omega)] at hx; cases hx
      rw [this] at hx
      simp only [List.getElem?_cons_zero, Option.some.injEq] at hx
      exact .inr (.inr ⟨by omega, hx.symm⟩)
  have hmut : ∀ {i}, Mut ⟨m.b.set h (.row cs g .ow (some (m.b.length, m.n))) ++ [.row cs2 m.n (.kd h) none], m.n + 1⟩ i → i ≠ m.b.length ∧ Mut m i := by
    rintro i (⟨cs1, g1, kid1, hx⟩ | ⟨es, g1, hx⟩)
    · rcases hget hx with ⟨h1, _, hx⟩ | ⟨rfl, _⟩ | ⟨_, hx⟩
      · exact ⟨h1, .inl ⟨cs1, g1, kid1, hx⟩⟩
      · exact ⟨by omega, .inl ⟨cs, g, none, ho⟩⟩
      · simp at hx
    · rcases hget hx with ⟨h1, _, hx⟩ | ⟨_, hx⟩ | ⟨_, hx⟩
      · exact ⟨h1, .inr ⟨es, g1, hx⟩⟩
      · cases hx
      · cases hx
  have hown : ∀ b, OwnB (upd ρ m.b.length p2) ⟨m.b.set h (.row cs g .ow (some (m.b.length, m.n))) ++ [.row cs2 m.n (.kd h) none], m.n + 1⟩ b → OwnB ρ m b := by
    rintro b ⟨i, hi, rfl⟩
    obtain ⟨hne, hi⟩ := hmut hi
    rw [upd_other _ _ hne]
    exact ⟨i, hi, rfl⟩
  have hl : Later ρ m w (upd ρ m.b.length p2) ⟨m.b.set h (.row cs g .ow (some (m.b.length, m.n))) ++ [.row cs2 m.n (.kd h) none], m.n + 1⟩ w :=
    { os := rfl, tape := rfl, output := rfl, size := Nat.le_refl _, keep := fun _ _ _ => rfl, own := fun b hb => .inl (hown b hb), n := Nat.le_succ _
      row := fun i cs1 g1 s1 kid1 hx0 hg1 => by
        rcases hget hx0 with ⟨h1, _, hx⟩ | ⟨rfl, hx⟩ | ⟨_, hx⟩
        · exact ⟨cs1, s1, kid1, hx, rfl, upd_other _ _ h1, fun c E f hc => ⟨c, E, f, hc, rfl⟩⟩
        · simp only [Blk.row.injEq] at hx
          obtain ⟨rfl, rfl, rfl, rfl⟩ := hx
          exact ⟨cs1, .ow, none, ho, rfl, upd_other _ _ (by omega), fun c E f hc => ⟨c, E, f, hc, rfl⟩⟩
        · simp only [Blk.row.injEq] at hx; omega
      map := fun i es g1 hx0 _ => by
        rcases hget hx0 with ⟨h1, _, hx⟩ | ⟨_, hx⟩ | ⟨_, hx⟩
        · exact ⟨es, hx, upd_other _ _ h1⟩
        · cases hx
        · cases hx }
  refine ⟨?_, hl⟩
  exact
    { row := fun i cs1 g1 s1 kid1 hx0 => by
        rcases hget hx0 with ⟨h1, _, hx⟩ | ⟨rfl, hx⟩ | ⟨rfl, hx⟩
        · obtain ⟨a1, a2, c, E, a3, a4⟩ := hm.row i cs1 g1 s1 kid1 hx
          rw [upd_other _ _ h1]
          refine ⟨Nat.lt_succ_of_lt a1, a2, c, E, a3, fun j hj => ?_⟩
          obtain ⟨u, hu, hv⟩ := a4 j hj
          exact ⟨u, hu, hv.later hm hl⟩
        · simp only [Blk.row.injEq] at hx
          obtain ⟨rfl, rfl, rfl, rfl⟩ := hx
          obtain ⟨a1, a2, c, E, a3, a4⟩ := hm.row i cs1 g1 .ow none ho
          rw [upd_other _ _ (by omega)]
          refine ⟨Nat.lt_succ_of_lt a1, a2, c, E, a3, fun j hj => ?_⟩
          obtain ⟨u, hu, hv⟩ := a4 j hj
          exact ⟨u, hu, hv.later hm hl⟩
        · simp only [Blk.row.injEq] at hx
          obtain ⟨rfl, rfl, rfl, rfl⟩ := hx
          rw [upd_same]
          refine ⟨Nat.lt_succ_self _, hO, c2, E2, hc, fun j hj => ?_⟩
          obtain ⟨u, hu, hv⟩ := hcells j hj
          exact ⟨u, hu, hv.later hm hl⟩
      map := fun i es g1 hx0 => by
        rcases hget hx0 with ⟨h1, _, hx⟩ | ⟨_, hx⟩ | ⟨_, hx⟩
        · obtain ⟨a1, a2, c, k, a3, a4, a5⟩ := hm.map i es g1 hx
          rw [upd_other _ _ h1]
          refine ⟨Nat.lt_succ_of_lt a1, a2, c, k, a3, a4, fun j hj => ?_⟩
          obtain ⟨u, hu, hk, hv⟩ := a5 j hj
          exact ⟨u, hu, hk, hv.later hm hl⟩
        · cases hx
        · cases hx
      dis := fun i j hi hj he => by
        obtain ⟨h1, hi⟩ := hmut hi
        obtain ⟨h2, hj⟩ := hmut hj
        rw [upd_other _ _ h1, upd_other _ _ h2] at he
        exact hm.dis i j hi hj he
      fz := fun i cs1 g1 kid1 hx0 hOw => by
        rcases hget hx0 with ⟨h1, _, hx⟩ | ⟨_, hx⟩ | ⟨_, hx⟩
        · rw [upd_other _ _ h1] at hOw
          exact hm.fz i cs1 g1 kid1 hx (hown _ hOw)
        · simp at hx
        · simp at hx
      kd := fun k cs1 g1 p kid1 hx0 i hmt he => by
        obtain ⟨hin, hmi⟩ := hmut hmt
        rw [upd_other _ _ hin] at he
        rcases hget hx0 with ⟨h1, _, hx⟩ | ⟨_, hx⟩ | ⟨rfl, hx⟩
        · rw [upd_other _ _ h1] at he
          obtain ⟨a1, cs3, g3, a2⟩ := hm.kd k cs1 g1 p kid1 hx i hmi he
          refine ⟨a1, cs3, g3, ?_⟩
          by_cases hih : i = h
          · subst hih; rw [ho] at a2; simp at a2
          · have hil : i < m.b.length := by
              by_cases hh : i < m.b.length
              · exact hh
              · rw [List.getElem?_eq_none (by omega)] at a2; cases a2
            show (m.b.set h _ ++ _)[i]? = _
            rw [List.getElem?_append_left (by simpa using hil), List.getElem?_set_ne (fun e => hih e.symm)]
            exact a2
        · simp at hx
        · simp only [Blk.row.injEq, Ow.kd.injEq] at hx
          obtain ⟨rfl, rfl, rfl, rfl⟩ := hx
          rw [upd_same] at he
          have := hq i hmi he
          subst this
          refine ⟨rfl, cs, g, ?_⟩
          show (m.b.set i _ ++ _)[i]? = _
          rw [List.getElem?_append_left (by simpa using hlt), List.getElem?_set_self hlt]
      ex := hm.ex }

/-- A map is written. -/
theorem mapWrite {O : Nat → Prop} {ρ : Nat → Nat × Nat} {m : Mem} {w w' : World} (hm : MemInv O ρ m w) {h g : Nat} {es : List (Value × AV)}
    (ho : m.b[h]? = some (.map es g)) (es' : List (Value × AV)) (ces : Array MapEntry) (k : Nat)
    (hsz : w'.heap.size = w.heap.size) (hos : w'.os = w.os) (htp : w'.tape = w.tape) (hou : w'.output = w.output)
    (hkeep : ∀ b, b < w.heap.size → b ≠ (ρ h).1 → w'.heap[b]? = w.heap[b]?) (hc : w'.heap[(ρ h).1]? = some (.map ces k)) (hlen : ces.size = es'.length)
    (hcells : ∀ j (hj : j < es'.length), ∃ e, ces[j]? = some e ∧ e.key = (es'[j]'hj).1 ∧ RV (Av O ρ m) ρ m w (es'[j]'hj).2 e.val) :
    MemInv O ρ ⟨m.b.set h (.map es' g), m.n⟩ w' ∧ Later ρ m w ρ ⟨m.b.set h (.map es' g), m.n⟩ w' := by
  have hmuth : Mut m h := .inr ⟨es, g, ho⟩
  have hlt : h < m.b.length := by
    by_cases hh : h < m.b.length
    · exact hh
    · rw [List.getElem?_eq_none (by omega)] at ho; cases ho
  have hget : ∀ {i : Nat} {x : Blk}, (m.b.set h (.map es' g))[i]? = some x → (i ≠ h ∧ m.b[i]? = some x) ∨ (i = h ∧ x = .map es' g) := by
    intro i x hx
    by_cases he : i = h
    · subst he
      rw [List.getElem?_set_self hlt] at hx
      simp only [Option.some.injEq] at hx
      exact .inr ⟨rfl, hx.symm⟩
    · rw [List.getElem?_set_ne (fun e => he e.symm)] at hx
      exact .inl ⟨he, hx⟩
  have hrow : ∀ {i : Nat} {cs : List AV} {g1 : Nat} {s : Ow} {kid : Option (Nat × Nat)}, (m.b.set h (.map es' g))[i]? = some (.row cs g1 s kid) → i ≠ h ∧ m.b[i]? = some (.row cs g1 s kid) := by
    intro i cs g1 s kid hx
    rcases hget hx with hx | ⟨_, hx⟩
    · exact hx
    · cases hx
  have hmut : ∀ {i}, Mut ⟨m.b.set h (.map es' g), m.n⟩ i → Mut m i := by
    rintro i (⟨cs1, g1, kid1, hx⟩ | ⟨es1, g1, hx⟩)
    · exact .inl ⟨cs1, g1, kid1, (hrow hx).2⟩
    · rcases hget hx with ⟨_, hx⟩ | ⟨rfl, _⟩
      · exact .inr ⟨es1, g1, hx⟩
      · exact hmuth
  have hown : ∀ b, OwnB ρ ⟨m.b.set h (.map es' g), m.n⟩ b → OwnB ρ m b := fun b ⟨i, hi, e⟩ => ⟨i, hmut hi, e⟩
  have hapart : ∀ {i : Nat} {cs : List AV} {g1 : Nat} {s : Ow} {kid : Option (Nat × Nat)}, m.b[i]? = some (.row cs g1 s kid) → (ρ i).1 ≠ (ρ h).1 := by
    intro i cs g1 s kid hx he
    obtain ⟨_, _, c, E, h3, _⟩ := hm.row i cs g1 s kid hx
    obtain ⟨_, _, c2, k2, h4, _⟩ := hm.map h es g ho
    rw [he] at h3
    rw [h3] at h4; cases h4
  have hl : Later ρ m w ρ ⟨m.b.set h (.map es' g), m.n⟩ w' :=
    { os := hos, tape := htp, output := hou, size := Nat.le_of_eq hsz.symm, own := fun b hb => .inl (hown b hb), n := Nat.le_refl _
      keep := fun b hb hno => hkeep b hb fun e => hno ⟨h, hmuth, e.symm⟩
      row := fun i cs1 g1 s1 kid1 hx _ => by
        obtain ⟨_, hx⟩ := hrow hx
        exact ⟨cs1, s1, kid1, hx, rfl, rfl, fun c E f hc1 => ⟨c, E, f, by rw [hkeep _ (hm.lt_row hx) (hapart hx)]; exact hc1, rfl⟩⟩
      map := fun i es1 g1 hx0 _ => by
        rcases hget hx0 with ⟨_, hx⟩ | ⟨rfl, hx⟩
        · exact ⟨es1, hx, rfl⟩
        · simp only [Blk.map.injEq] at hx
          obtain ⟨rfl, rfl⟩ := hx
          exact ⟨es, ho, rfl⟩ }
  refine ⟨?_, hl⟩
  exact
    { row := fun i cs1 g1 s1 kid1 hx => by
        obtain ⟨_, hx⟩ := hrow hx
        obtain ⟨a1, a2, c, E, a3, a4⟩ := hm.row i cs1 g1 s1 kid1 hx
        refine ⟨a1, a2, c, E, by rw [hkeep _ (hm.lt_row hx) (hapart hx)]; exact a3, fun j hj => ?_⟩
        obtain ⟨u, hu, hv⟩ := a4 j hj
        exact ⟨u, hu, hv.later hm hl⟩
      map := fun i es1 g1 hx0 => by
        rcases hget hx0 with ⟨hi, hx⟩ | ⟨rfl, hx⟩
        · obtain ⟨a1, a2, c, k1, a3, a4, a5⟩ := hm.map i es1 g1 hx
          refine ⟨a1, a2, c, k1, ?_, a4, fun j hj => ?_⟩
          · rw [hkeep _ (hm.lt_mut (.inr ⟨es1, g1, hx⟩)) fun e => hi (hm.dis i h (.inr ⟨es1, g1, hx⟩) hmuth e)]; exact a3
          · obtain ⟨u, hu, hk, hv⟩ := a5 j hj
            exact ⟨u, hu, hk, hv.later hm hl⟩
        · simp only [Blk.map.injEq] at hx
          obtain ⟨rfl, rfl⟩ := hx
          obtain ⟨a1, a2, _⟩ := hm.map i es g1 ho
          refine ⟨a1, a2, ces, k, hc, hlen, fun j hj => ?_⟩
          obtain ⟨u, hu, hk, hv⟩ := hcells j hj
          exact ⟨u, hu, hk, hv.later hm hl⟩
      dis := fun i j hi hj he => hm.dis i j (hmut hi) (hmut hj) he
      fz := fun i cs1 g1 kid1 hx hOw => hm.fz i cs1 g1 kid1 (hrow hx).2 (hown _ hOw)
      kd := fun k1 cs1 g1 p kid1 hx i hmt he => by
        obtain ⟨a1, cs3, g3, a2⟩ := hm.kd k1 cs1 g1 p kid1 (hrow hx).2 i (hmut hmt) he
        refine ⟨a1, cs3, g3, ?_⟩
        by_cases hih : i = h
        · subst hih; rw [ho] at a2; cases a2
        · show (m.b.set h _)[i]? = _
          rw [List.getElem?_set_ne (fun e => hih e.symm)]
          exact a2
      ex := fun b hb => by rw [hsz]; exact hm.ex b hb }

end Go.Am

namespace Go.Am

def kdOfDesc (P : Program) : TypeDesc → Kd × Bool
  | .int k => (.int k, false)
  | .bool => (.bool, false)
  | .string => (.str, false)
  | .slice e => (.slice e, false)
  | .array n e => (.array n e, true)
  | .struct fs => (match fs.toList.mapM (fun f => (P.info? f.type).map fun i => (f.offset, i.size, f.type)) with | some l => .struct l | none => .other, true)
  | .map k e => (.map k e, false)
  | _ => (.other, false)

def okV : Value → Bool
  | .agg _ | .tuple _ => false
  | _ => true

def zeroV (i : TI) : Value := if i.agg then .agg i.zero.toArray else i.zero.headD undef

structure TIOk (P : Program) (ty : TypeId → Option TI) (t : TypeId) (i : TI) : Prop where
  info : (P.info? t).map (fun x => (x.size, x.bytes, x.zero)) = some (i.size, i.bytes, some (zeroV i))
  und : (P.underlying t).map (kdOfDesc P) = some (i.kd, i.agg)
  zlen : i.zero.length = i.size
  zok : i.zero.all okV = true
  one : i.agg = false → i.size = 1
  flat : i.flat = true → ∃ n e k j, i.kd = .array n e ∧ ty e = some j ∧ j.kd = .int k ∧ i.size = n ∧ j.size = 1

section
variable {P : Program} {ty : TypeId → Option TI} {t : TypeId} {i : TI} (h : TIOk P ty t i) (w : World)
include h

theorem TIOk.typeInfo : ∃ x, P.info? t = some x ∧ x.size = i.size ∧ x.bytes = i.bytes ∧ x.zero = some (zeroV i) := by
  have := h.info
  cases hx : P.info? t with
  | none => rw [hx] at this; cases this
  | some x =>
    rw [hx] at this
    simp only [Option.map_some, Option.some.injEq, Prod.mk.injEq] at this
    exact ⟨x, rfl, this.1, this.2.1, this.2.2⟩

theorem TIOk.run_size : (sizeOf t).run P w = .ok i.size w := by
  obtain ⟨x, hx, hs, _, _⟩ := h.typeInfo
  simp [sizeOf, Go.typeInfo, hx, hs]

theorem TIOk.cellsOf : P.cellsOf t = i.size := by
  obtain ⟨x, hx, hs, _, _⟩ := h.typeInfo
  simp [Program.cellsOf, hx, hs]

theorem TIOk.run_info : ∃ x, (Go.typeInfo t).run P w = .ok x w ∧ x.size = i.size ∧ x.bytes = i.bytes ∧ x.zero = some (zeroV i) := by
  obtain ⟨x, hx, hs, hb, hz⟩ := h.typeInfo
  exact ⟨x, by simp [Go.typeInfo, hx], hs, hb, hz⟩

theorem TIOk.run_zero : (zeroValue t).run P w = .ok (zeroV i) w := by
  obtain ⟨x, hx, _, _, hz⟩ := h.typeInfo
  simp [zeroValue, Go.typeInfo, hx, hz]

theorem TIOk.desc : ∃ d, P.underlying t = some d ∧ kdOfDesc P d = (i.kd, i.agg) := by
  have := h.und
  cases hx : P.underlying t with
  | none => rw [hx] at this; cases this
  | some d =>
    rw [hx] at this
    simp only [Option.map_some, Option.some.injEq] at this
    exact ⟨d, rfl, this⟩

theorem TIOk.run_agg : (isAgg t).run P w = .ok i.agg w := by
  obtain ⟨d, hd, hk⟩ := h.desc
  have hk2 : (kdOfDesc P d).2 = i.agg := by rw [hk]
  simp only [isAgg, Sem.run_bind, run_underlying hd, Result.andThen_ok]
  rw [← hk2]
  cases d <;> simp [kdOfDesc]

theorem TIOk.desc_of {k : Kd} (hk : i.kd = k) : ∃ d, P.underlying t = some d ∧ (kdOfDesc P d).1 = k := by
  obtain ⟨d, hd, hk'⟩ := h.desc
  exact ⟨d, hd, by rw [hk', hk]⟩

theorem TIOk.slice {e : TypeId} (hk : i.kd = .slice e) : P.underlying t = some (.slice e) := by
  obtain ⟨d, hd, hk'⟩ := h.desc_of hk
  cases d <;> simp_all [kdOfDesc] <;> (split at hk' <;> cases hk')

theorem TIOk.array {n : Nat} {e : TypeId} (hk : i.kd = .array n e) : P.underlying t = some (.array n e) := by
  obtain ⟨d, hd, hk'⟩ := h.desc_of hk
  cases d <;> simp_all [kdOfDesc] <;> (split at hk' <;> cases hk')

theorem TIOk.str (hk : i.kd = .str) : P.underlying t = some .string := by
  obtain ⟨d, hd, hk'⟩ := h.desc_of hk
  cases d <;> simp_all [kdOfDesc] <;> (split at hk' <;> cases hk')

theorem TIOk.bool (hk : i.kd = .bool) : P.underlying t = some .bool := by
  obtain ⟨d, hd, hk'⟩ := h.desc_of hk
  cases d <;> simp_all [kdOfDesc] <;> (split at hk' <;> cases hk')

theorem TIOk.int {k : IntKind} (hk : i.kd = .int k) : P.underlying t = some (.int k) := by
  obtain ⟨d, hd, hk'⟩ := h.desc_of hk
  cases d <;> simp_all [kdOfDesc] <;> (split at hk' <;> cases hk')

theorem TIOk.map {k e : TypeId} (hk : i.kd = .map k e) : P.underlying t = some (.map k e) := by
  obtain ⟨d, hd, hk'⟩ := h.desc_of hk
  cases d <;> simp_all [kdOfDesc] <;> (split at hk' <;> cases hk')

theorem TIOk.struct {fs : List (Nat × Nat × TypeId)} (hk : i.kd = .struct fs) : ∃ fields : Array Field, P.underlying t = some (.struct fields) ∧ fields.toList.mapM (fun f => (P.info? f.type).map fun i => (f.offset, i.size, f.type)) = some fs := by
  obtain ⟨d, hd, hk'⟩ := h.desc_of hk
  cases d <;> simp only [kdOfDesc, reduceCtorEq] at hk'
  rename_i fields
  refine ⟨fields, hd, ?_⟩
  cases hq : fields.toList.mapM (fun f => (P.info? f.type).map fun i => (f.offset, i.size, f.type)) with
  | none => rw [hq] at hk'; cases hk'
  | some l => rw [hq] at hk'; simp only [Kd.struct.injEq] at hk'; rw [hk']

omit h in
theorem TIOk.zero_agg (ha : i.agg = true) : zeroV i = .agg i.zero.toArray := by simp [zeroV, ha]

theorem TIOk.zero_one (ha : i.agg = false) : ∃ x, i.zero = [x] ∧ zeroV i = x := by
  have h1 := h.one ha
  have h2 := h.zlen
  match hz : i.zero, h2 with
  | [x], _ => exact ⟨x, rfl, by simp [zeroV, ha, hz]⟩
  | [], h2 => simp at h2; omega
  | _ :: _ :: _, h2 => simp at h2; omega

theorem TIOk.zero_ok {x : Value} (hx : x ∈ i.zero) : okV x = true := List.all_eq_true.mp h.zok x hx

theorem TIOk.zero_cells : (zeroV i).cells = i.zero.toArray := by
  cases ha : i.agg with
  | true => rw [TIOk.zero_agg ha]; rfl
  | false =>
    obtain ⟨x, hx, hz⟩ := h.zero_one ha
    have hok := h.zero_ok (x := x) (by rw [hx]; simp)
    rw [hz, hx]
    cases x <;> simp_all [Value.cells, okV]
end

/-- All that the soundness asks of a context. -/
structure Ctx.TyOk (Γ : Ctx) : Prop where
  ty : ∀ t i, Γ.ty t = some i → TIOk Γ.P Γ.ty t i

theorem cells_rv {A : Nat → Prop} {ρ : Nat → Nat × Nat} {m : Mem} {w : World} {x : AV} {v : Value} {cs : List AV} (h : RV A ρ m w x v) (hc : cellsA x = some cs) :
    v.cells.size = cs.length ∧ ∀ j (hj : j < cs.length), ∃ u, v.cells[j]? = some u ∧ RV A ρ m w (cs[j]'hj) u := by
  cases h with
  | ag xs vs hl hr =>
    simp only [cellsA, Option.some.injEq] at hc
    subst hc
    refine ⟨by simp [Value.cells, hl], fun j hj => ⟨vs.getD j undef, ?_, hr j hj⟩⟩
    simp [Value.cells, List.getD_eq_getElem?_getD, hl, hj]
  | d x v hd =>
    cases hd with
    | v =>
      cases v <;> simp only [cellsA, Option.some.injEq, reduceCtorEq] at hc <;> subst hc <;>
        refine ⟨by simp [Value.cells], fun j hj => ?_⟩ <;> (obtain rfl : j = 0 := by simpa using hj) <;> exact ⟨_, by simp [Value.cells], .d _ _ (.v _)⟩
    | emp t a cap h0 => simp only [cellsA, Option.some.injEq] at hc; subst hc; exact ⟨rfl, fun j hj => by (obtain rfl : j = 0 := by simpa using hj); exact ⟨_, rfl, .d _ _ (.emp t a cap h0)⟩⟩
    | sl t len cells b o cap us a1 a2 a3 a4 a5 a6 =>
      simp only [cellsA, Option.some.injEq] at hc; subst hc
      exact ⟨rfl, fun j hj => by (obtain rfl : j = 0 := by simpa using hj); exact ⟨_, rfl, .d _ _ (.sl t len cells b o cap us a1 a2 a3 a4 a5 a6)⟩⟩
  | rp cells b o us a1 a2 a3 a4 => simp only [cellsA, Option.some.injEq] at hc; subst hc; exact ⟨rfl, fun j hj => by (obtain rfl : j = 0 := by simpa using hj); exact ⟨_, rfl, .rp cells b o us a1 a2 a3 a4⟩⟩
  | own i g off len e cap a n c hg hv => simp only [cellsA, Option.some.injEq] at hc; subst hc; exact ⟨rfl, fun j hj => by (obtain rfl : j = 0 := by simpa using hj); exact ⟨_, rfl, .own i g off len e cap a n c hg hv⟩⟩
  | ptr i g off a hg hv => simp only [cellsA, Option.some.injEq] at hc; subst hc; exact ⟨rfl, fun j hj => by (obtain rfl : j = 0 := by simpa using hj); exact ⟨_, rfl, .ptr i g off a hg hv⟩⟩
  | fn f caps vs hl hr => simp only [cellsA, Option.some.injEq] at hc; subst hc; exact ⟨rfl, fun j hj => by (obtain rfl : j = 0 := by simpa using hj); exact ⟨_, rfl, .fn f caps vs hl hr⟩⟩
  | tu xs vs hl hr => simp only [cellsA, Option.some.injEq] at hc; subst hc; exact ⟨rfl, fun j hj => by (obtain rfl : j = 0 := by simpa using hj); exact ⟨_, rfl, .tu xs vs hl hr⟩⟩
  | mp i g r hg hv => simp only [cellsA, Option.some.injEq] at hc; subst hc; exact ⟨rfl, fun j hj => by (obtain rfl : j = 0 := by simpa using hj); exact ⟨_, rfl, .mp i g r hg hv⟩⟩

theorem cellOk_rv {A : Nat → Prop} {ρ : Nat → Nat × Nat} {m : Mem} {w : World} {x : AV} {v : Value} (h : RV A ρ m w x v) (hc : cellOk x = true) : okV v = true := by
  cases h with
  | d x v hd =>
    cases hd with
    | v => cases v <;> simp_all [cellOk, okV]
    | emp => rfl
    | sl => rfl
  | ag => simp [cellOk] at hc
  | tu => simp [cellOk] at hc
  | _ => rfl

theorem ofValue_rv (A : Nat → Prop) (ρ : Nat → Nat × Nat) (m : Mem) (w : World) (v : Value) : RV A ρ m w (ofValue v) v := by
  unfold ofValue
  split
  · rename_i cs
    have : (Value.agg cs) = .agg cs.toList.toArray := by simp
    rw [this]
    refine .ag _ _ (by simp) fun i hi => ?_
    simp only [List.getElem_map]
    refine .d _ _ ?_
    simp only [List.length_map] at hi
    rw [List.getD_eq_getElem?_getD, List.getElem?_eq_getElem hi]
    exact .v _
  · split
    · rename_i f a b hab
      obtain ⟨ha, hb⟩ := hab
      have ea : a = #[] := Array.eq_empty_of_size_eq_zero ha
      have eb : b = #[] := Array.eq_empty_of_size_eq_zero hb
      subst ea; subst eb
      exact .fn f [] [] rfl fun i hi => absurd hi (by simp)
    · exact .d _ _ (.v _)
  · exact .d _ _ (.v _)

theorem eval_rv {A : Nat → Prop} {ρ : Nat → Nat × Nat} {m : Mem} {w : World} {t : List AV} {a : Act} (h : ∀ i, RV A ρ m w (nth t i) (a.tmps.getD i undef)) (x : Operand) :
    RV A ρ m w (evalA t x) (a.eval x) := by
  cases x with
  | tmp i => exact h i
  | const v => exact ofValue_rv A ρ m w v
  | global g => exact .d _ _ (.v _)
  | func f => exact .fn f [] [] rfl fun i hi => absurd hi (by simp)

/-- What an operation gives. -/
def Gives (O : Nat → Prop) (P : Program) (ρ : Nat → Nat × Nat) (m : Mem) (w : World) (s : Sem Next) (r : AV) (m' : Mem) : Prop :=
  ∃ v w' ρ', (s.run P w = .ok (.value v) w' ∨ (s.run P w = .ok .skip w' ∧ v = undef)) ∧ RV (Av O ρ' m') ρ' m' w' r v ∧ MemInv O ρ' m' w' ∧ Later ρ m w ρ' m' w'

theorem Gives.same {O : Nat → Prop} {P : Program} {ρ : Nat → Nat × Nat} {m : Mem} {w : World} {s : Sem Next} {r : AV} (hm : MemInv O ρ m w) {v : Value} (h : s.run P w = .ok (.value v) w)
    (hr : RV (Av O ρ m) ρ m w r v) : Gives O P ρ m w s r m := ⟨v, w, ρ, .inl h, hr, hm, .refl ρ m w⟩

/-- The cells of a row, read. -/
theorem row_read {O : Nat → Prop} {ρ : Nat → Nat × Nat} {m : Mem} {w : World} (hm : MemInv O ρ m w) {h g : Nat} {cs : List AV} (hr : row? m h g = some cs) :
    (∃ s kid, m.b[h]? = some (.row cs g s kid)) ∧ ∃ us : Nat → Value, ∀ j (hj : j < cs.length), w.cell? ⟨(ρ h).1, (ρ h).2 + j, none⟩ = some (us j) ∧ RV (Av O ρ m) ρ m w (cs[j]'hj) (us j) := by
  unfold row? at hr
  split at hr
  · rename_i cs' g' s kid hb
    split at hr
    · rename_i hg
      subst hg
      simp only [Option.some.injEq] at hr
      subst hr
      refine ⟨⟨s, kid, hb⟩, ?_⟩
      obtain ⟨_, _, c, E, hc, hcell⟩ := hm.row h cs' g' s kid hb
      refine ⟨fun j => (c[(ρ h).2 + j]?).getD undef, fun j hj => ?_⟩
      obtain ⟨u, hu, hv⟩ := hcell j hj
      simp only [hu, Option.getD_some]
      exact ⟨by simp [World.cell?, hc, hu], hv⟩
    · cases hr
  · cases hr

theorem cut_get {cs : List AV} {off k j : Nat} (h : off + k ≤ cs.length) (hj : j < (cut cs off k).length) : off + j < cs.length ∧ (cut cs off k)[j]'hj = cs[off + j]'(by simp [cut] at hj; omega) := by
  have : j < k := by simp [cut] at hj; omega
  refine ⟨by omega, ?_⟩
  simp [cut]

theorem cut_len {cs : List AV} {off k : Nat} (h : off + k ≤ cs.length) : (cut cs off k).length = k := by simp [cut]; omega

/-- Cells made a value of a type: what loadVar gives. -/
theorem asVal_load {O : Nat → Prop} {Γ : Ctx} {ρ : Nat → Nat × Nat} {m : Mem} {w : World} {t : TypeId} {i : TI} (hi : TIOk Γ.P Γ.ty t i) {cs : List AV} {r : AV} (h : asVal i cs = some r) (b o : Nat) (us : Nat → Value)
    (hc : ∀ j (hj : j < cs.length), w.cell? ⟨b, o + j, none⟩ = some (us j) ∧ RV (Av O ρ m) ρ m w (cs[j]'hj) (us j)) :
    ∃ v, (loadVar t ⟨b, o, none⟩).run Γ.P w = .ok v w ∧ RV (Av O ρ m) ρ m w r v := by
  unfold asVal at h
  split at h
  · rename_i hlen
    cases ha : i.agg with
    | true =>
      rw [ha] at h
      simp only [if_true, Option.some.injEq] at h
      subst h
      refine ⟨.agg ((List.range i.size).map us).toArray, ?_, ?_⟩
      · have hl := run_loadCells_list (P := Γ.P) w ⟨b, o, none⟩ ((List.range i.size).map us) (fun j v hj => by
          have hlt : j < i.size := by
            by_cases hh : j < i.size
            · exact hh
            · rw [List.getElem?_eq_none (by simp; omega)] at hj; cases hj
          simp only [List.getElem?_map, List.getElem?_range hlt, Option.map_some, Option.some.injEq] at hj
          rw [← hj]
          have hadd : (⟨b, o, none⟩ : Addr).add j = ⟨b, o + j, none⟩ := by unfold Addr.add; split <;> simp_all
          rw [hadd]
          exact (hc j (by omega)).1)
        simp only [List.length_map, List.length_range] at hl
        simp [loadVar, hi.run_agg, ha, hi.run_size, hl]
      · refine .ag _ _ (by simp [hlen]) fun j hj => ?_
        have : ((List.range i.size).map us).getD j undef = us j := by
          rw [List.getD_eq_getElem?_getD, List.getElem?_map, List.getElem?_range (by omega)]; rfl
        rw [this]
        exact (hc j hj).2
    | false =>
      rw [ha] at h
      simp only [Bool.false_eq_true, if_false] at h
      split at h
      · rename_i c
        simp only [Option.some.injEq] at h
        subst h
        have := hc 0 (by simp)
        refine ⟨us 0, ?_, this.2⟩
        have h1 := this.1
        simp only [Nat.add_zero] at h1
        simp [loadVar, hi.run_agg, ha, h1]
      · cases h
  · cases h

end Go.Am

namespace Go.Am

theorem upd_self (ρ : Nat → Nat × Nat) (h : Nat) : upd ρ h (ρ h) = ρ := by
  funext i; by_cases hi : i = h <;> simp [upd, hi]

theorem okV_one {v : Value} (h : okV v = true) : v.oneCell' = true := by cases v <;> simp_all [okV, Value.oneCell']

theorem over_len : ∀ (cs : List AV) (n : Nat) (xs : List AV), n + xs.length ≤ cs.length → (over cs n xs).length = cs.length
  | cs, 0, xs, h => by simp [over]; omega
  | [], n + 1, xs, h => by simp at h
  | c :: cs, n + 1, xs, h => by simp only [over, List.length_cons]; rw [over_len cs n xs (by simp at h; omega)]

theorem over_get? : ∀ (cs : List AV) (n : Nat) (xs : List AV), n + xs.length ≤ cs.length → ∀ j, (over cs n xs)[j]? = if j < n then cs[j]? else if j < n + xs.length then xs[j - n]? else cs[j]?
  | cs, 0, xs, h, j => by
    simp only [over, Nat.not_lt_zero, if_false, Nat.zero_add, Nat.sub_zero, List.getElem?_append]
    split
    · rfl
    · rw [List.getElem?_drop]; congr 1; omega
  | [], n + 1, xs, h, j => by simp at h
  | c :: cs, n + 1, xs, h, 0 => by simp [over]
  | c :: cs, n + 1, xs, h, j + 1 => by
    simp only [over, List.getElem?_cons_succ]
    have e1 : (j + 1 < n + 1) = (j < n) := by simp
    have e2 : (j + 1 < n + 1 + xs.length) = (j < n + xs.length) := propext ⟨fun h => by omega, fun h => by omega⟩
    have e3 : j + 1 - (n + 1) = j - n := by omega
    rw [over_get? cs n xs (by simp at h; omega) j]
    simp only [e1, e2, e3]

theorem seg_get {c : List Value} {a : Nat} {vs : List Value} (h : a + vs.length ≤ c.length) (j : Nat) :
    (c.take a ++ vs ++ c.drop (a + vs.length))[j]? = if j < a then c[j]? else if j < a + vs.length then vs[j - a]? else c[j]? := by
  have ha : (c.take a).length = a := by simp; omega
  rw [List.append_assoc, List.getElem?_append, ha]
  by_cases h1 : j < a
  · rw [if_pos h1, if_pos h1, List.getElem?_take, if_pos h1]
  · rw [if_neg h1, if_neg h1, List.getElem?_append]
    by_cases h2 : j < a + vs.length
    · rw [if_pos (by omega), if_pos h2]
    · rw [if_neg (by omega), if_neg h2, List.getElem?_drop]; congr 1; omega

theorem own_row {m : Mem} {h g : Nat} {cs : List AV} {kid : Option (Nat × Nat)} (hr : own? m h g = some (cs, kid)) : m.b[h]? = some (.row cs g .ow kid) := by
  unfold own? at hr
  split at hr
  · rename_i cs' g' kid' hb
    split at hr
    · rename_i hg
      subst hg
      simp only [Option.some.injEq, Prod.mk.injEq] at hr
      obtain ⟨rfl, rfl⟩ := hr
      exact hb
    · cases hr
  · cases hr

/-- Cells written into a row of one's own. -/
theorem write_row {O : Nat → Prop} {P : Program} {ρ : Nat → Nat × Nat} {m : Mem} {w : World} (hm : MemInv O ρ m w) {h g : Nat} {cs : List AV} {kid : Option (Nat × Nat)} (ho : m.b[h]? = some (.row cs g .ow kid))
    (off : Nat) (xs : List AV) (vs : List Value) (hoff : off + xs.length ≤ cs.length) (hl : vs.length = xs.length) (hok : ∀ v ∈ vs, okV v = true)
    (hv : ∀ j (hj : j < xs.length), RV (Av O ρ m) ρ m w (xs[j]'hj) (vs.getD j undef)) :
    ∃ w', (storeCells ⟨(ρ h).1, (ρ h).2 + off, none⟩ vs).run P w = .ok () w' ∧ MemInv O ρ (m.write h g kid (over cs off xs)) w' ∧ Later ρ m w ρ (m.write h g kid (over cs off xs)) w' := by
  obtain ⟨hgn, hno, c, E, hc, hcell⟩ := hm.row h cs g .ow kid ho
  by_cases h0 : vs = []
  · subst h0
    have hx : xs = [] := List.length_eq_zero_iff.mp hl.symm
    subst hx
    have he : over cs off [] = cs := List.ext_getElem? fun j => by
      rw [over_get? cs off [] hoff j]
      by_cases h1 : j < off
      · rw [if_pos h1]
      · rw [if_neg h1, if_neg (by simp; omega)]
    rw [he]
    refine ⟨w, rfl, ?_⟩
    have := replace hm ho (ρ h) cs g m.n (Nat.le_refl _) hgn c E (w' := w)
      (.inl ⟨rfl, rfl, rfl, fun c1 E1 f1 h1 => by rw [hc] at h1; simp only [Option.some.injEq, Obj.cells.injEq] at h1; rw [← h1.1]⟩)
      (Nat.le_refl _) rfl rfl rfl (fun _ _ _ => rfl) (.inl rfl) hc hcell
    rw [upd_self] at this
    exact this
  have hv0 : 0 < vs.length := by cases vs with
    | nil => exact absurd rfl h0
    | cons => simp
  have hsize : (ρ h).2 + off + vs.length ≤ c.size := by
    obtain ⟨u, hu, _⟩ := hcell (off + vs.length - 1) (by omega)
    have := (Array.getElem?_eq_some_iff.mp hu).1
    omega
  refine ⟨w.setRow (ρ h).1 (c.toList.take ((ρ h).2 + off) ++ vs ++ c.toList.drop ((ρ h).2 + off + vs.length)).toArray, ?_, ?_⟩
  · have := run_storeCells_at P (ρ h).1 ((ρ h).2 + off) E vs 0 c w hc (by simpa using hsize) (fun v hv => okV_one (hok v hv))
    simpa using this
  · have := replace hm ho (ρ h) (over cs off xs) g m.n (Nat.le_refl _) hgn (c.toList.take ((ρ h).2 + off) ++ vs ++ c.toList.drop ((ρ h).2 + off + vs.length)).toArray E
      (w' := w.setRow (ρ h).1 (c.toList.take ((ρ h).2 + off) ++ vs ++ c.toList.drop ((ρ h).2 + off + vs.length)).toArray)
      (.inl ⟨rfl, over_len _ _ _ hoff, rfl, fun c1 E1 f1 h1 => by
        rw [hc] at h1; simp only [Option.some.injEq, Obj.cells.injEq] at h1; rw [← h1.1]; simp; omega⟩)
      (by simp) rfl rfl rfl (fun b _ hb => setRow_other w _ b _ hb) (.inl rfl) (setRow_heap w _ c _ E _ hc) (fun j hj => by
        have hlen : j < cs.length := by rw [over_len _ _ _ hoff] at hj; exact hj
        obtain ⟨u, hu, huv⟩ := hcell j hlen
        have hov := over_get? cs off xs hoff j
        rw [List.getElem?_eq_getElem hj] at hov
        have hsg := seg_get (c := c.toList) (a := (ρ h).2 + off) (vs := vs) (by simpa using hsize) ((ρ h).2 + j)
        simp only [List.getElem?_toArray]
        rw [hsg]
        by_cases h1 : j < off
        · rw [if_pos (by omega)]
          rw [if_pos h1, List.getElem?_eq_getElem hlen] at hov
          simp only [Option.some.injEq] at hov
          exact ⟨u, by simpa using hu, by rw [hov]; exact huv⟩
        · rw [if_neg (by omega)]
          by_cases h2 : j < off + xs.length
          · rw [if_pos (by omega)]
            rw [if_neg h1, if_pos h2, List.getElem?_eq_getElem (by omega)] at hov
            simp only [Option.some.injEq] at hov
            refine ⟨vs.getD (j - off) undef, ?_, by rw [hov]; exact hv (j - off) (by omega)⟩
            have e : (ρ h).2 + j - ((ρ h).2 + off) = j - off := by omega
            rw [e, List.getD_eq_getElem?_getD, List.getElem?_eq_getElem (by omega)]; rfl
          · rw [if_neg (by omega)]
            rw [if_neg h1, if_neg h2, List.getElem?_eq_getElem hlen] at hov
            simp only [Option.some.injEq] at hov
            exact ⟨u, by simpa using hu, by rw [hov]; exact huv⟩)
    rw [upd_self] at this
    exact this

section
variable {O : Nat → Prop} {Γ : Ctx} {ρ : Nat → Nat × Nat} {m : Mem} {w : World} {t : List AV} {e : Operand → Value} {o : Oper}

theorem op_move (hm : MemInv O ρ m w) {x : Operand} (ho : o.op = .move x ∨ o.op = .assign x) (hx : RV (Av O ρ m) ρ m w (evalA t x) (e x)) : Gives O Γ.P ρ m w (execOp e o) (evalA t x) m := by
  refine .same hm (v := e x) ?_ hx
  rcases ho with ho | ho <;> simp [execOp, ho]

theorem rv_bool {A : Nat → Prop} {b : Bool} {v : Value} (h : RV A ρ m w (.d (.v (.bool b))) v) : v = .bool b := by
  cases h with
  | d x v hd => cases hd; rfl

theorem rv_v {A : Nat → Prop} {x v : Value} (h : RV A ρ m w (.d (.v x)) v) : v = x := by
  cases h with
  | d x v hd => cases hd; rfl

theorem op_pick (hm : MemInv O ρ m w) {c x y : Operand} (ho : o.op = .pick c x y) {b : Bool} (hc : RV (Av O ρ m) ρ m w (.d (.v (.bool b))) (e c))
    (hx : RV (Av O ρ m) ρ m w (evalA t x) (e x)) (hy : RV (Av O ρ m) ρ m w (evalA t y) (e y)) : Gives O Γ.P ρ m w (execOp e o) (if b then evalA t x else evalA t y) m := by
  have hb := rv_bool hc
  refine .same hm (v := if b then e x else e y) ?_ (by cases b <;> simpa)
  cases b <;> simp [execOp, ho, hb, asBool]

/-- A new row, and a pointer to it. -/
theorem push_ptr (hm : MemInv O ρ m w) (cs : List AV) (c : Array Value) (E : TypeId)
    (hc : ∀ j (hj : j < cs.length), ∃ u, c[j]? = some u ∧ RV (Av O ρ m) ρ m w (cs[j]'hj) u) {s : Sem Next}
    (hs : s.run Γ.P w = .ok (.value (.pointer (some ⟨w.heap.size, 0, none⟩))) (w.alloc (.cells c E))) :
    Gives O Γ.P ρ m w s (.ptr m.b.length m.n 0) (m.push cs) := by
  obtain ⟨h1, h2⟩ := push hm cs c E hc
  refine ⟨_, _, _, .inl hs, ?_, h1, h2⟩
  refine .ptr _ _ _ _ (by simp [Mem.push]) fun cs' s' kid' _ => ?_
  rw [upd_same]

theorem op_alloc (ok : Γ.TyOk) (hm : MemInv O ρ m w) {ty : TypeId} (ho : o.op = .alloc ty) {i : TI} (hi : Γ.ty ty = some i) :
    Gives O Γ.P ρ m w (execOp e o) (.ptr m.b.length m.n 0) (m.push (zeroA i)) := by
  have h := ok.ty ty i hi
  refine push_ptr hm (zeroA i) (zeroV i).cells ty (fun j hj => ?_) ?_
  · simp only [zeroA, List.length_map] at hj
    refine ⟨i.zero[j], by rw [h.zero_cells]; simp [hj], ?_⟩
    simp only [zeroA, List.getElem_map]
    exact .d _ _ (.v _)
  · simp [execOp, ho, Instr.alloc, h.run_zero, newVar, newRow]

theorem op_box (hm : MemInv O ρ m w) {ty : TypeId} {x : Operand} (ho : o.op = .box ty x) (hx : RV (Av O ρ m) ρ m w (evalA t x) (e x)) {cs : List AV} (hc : cellsA (evalA t x) = some cs) :
    Gives O Γ.P ρ m w (execOp e o) (.ptr m.b.length m.n 0) (m.push cs) := by
  obtain ⟨h1, h2⟩ := cells_rv hx hc
  refine push_ptr hm cs (e x).cells ty h2 ?_
  simp [execOp, ho, Instr.box, newVar, newRow]

theorem load_sound (ok : Γ.TyOk) (hm : MemInv O ρ m w) {ty : TypeId} {x : AV} {xv : Value} (hx : RV (Av O ρ m) ρ m w x xv) {r : AV} (hr : loadA Γ ty m x = some r) :
    ∃ b v, xv = .pointer (some b) ∧ (loadVar ty b).run Γ.P w = .ok v w ∧ RV (Av O ρ m) ρ m w r v := by
  unfold loadA at hr
  split at hr
  · cases hr
  · rename_i i hi
    have hI := ok.ty ty i hi
    split at hr
    · rename_i h g off
      split at hr
      · rename_i cs hrow
        obtain ⟨⟨s, kid, hb⟩, us, hus⟩ := row_read hm hrow
        cases hx with
        | ptr _ _ _ a hg hv =>
          have ha := hv cs s kid hb
          have hlen : (cut cs off i.size).length = i.size := by
            unfold asVal at hr; split at hr
            · assumption
            · cases hr
          obtain ⟨v, h1, h2⟩ := asVal_load (m := m) (ρ := ρ) (O := O) (w := w) hI hr (ρ h).1 ((ρ h).2 + off) (fun j => us (off + j)) (fun j hj => by
            have hle : off + i.size ≤ cs.length ∨ i.size = 0 := by
              simp [cut] at hlen; omega
            rw [hlen] at hj
            rcases hle with hle | hle
            · obtain ⟨hk1, hk2⟩ := cut_get hle (j := j) (by rw [hlen]; exact hj)
              obtain ⟨h3, h4⟩ := hus (off + j) hk1
              exact ⟨by rw [Nat.add_assoc]; exact h3, by rw [hk2]; exact h4⟩
            · omega)
          exact ⟨_, v, by rw [ha], h1, h2⟩
      · cases hr
    · rename_i cells
      cases hx with
      | rp _ b o' us hc hrd hb hs =>
        obtain ⟨v, h1, h2⟩ := asVal_load (m := m) (ρ := ρ) (O := O) (w := w) hI hr b o' us (fun j hj => by
          have hj' : j < cells.length := by simp at hj; omega
          refine ⟨hc j hj', ?_⟩
          simp only [List.getElem_map, List.getElem_take]
          exact .d _ _ (hrd j hj'))
        exact ⟨_, v, rfl, h1, h2⟩
    · cases hr

theorem op_load (ok : Γ.TyOk) (hm : MemInv O ρ m w) {ty : TypeId} {x : Operand} (ho : o.op = .load ty x) (hx : RV (Av O ρ m) ρ m w (evalA t x) (e x)) {r : AV} (hr : loadA Γ ty m (evalA t x) = some r) :
    ∃ v, (execOp e o).run Γ.P w = .ok (.value v) w ∧ RV (Av O ρ m) ρ m w r v := by
  obtain ⟨b, v, h1, h2, h3⟩ := load_sound ok hm hx hr
  exact ⟨v, by simp [execOp, ho, Instr.loadAt, h1, Instr.sureAddr, h2], h3⟩

theorem op_store (ok : Γ.TyOk) (hm : MemInv O ρ m w) {ty : TypeId} {x y : Operand} (ho : o.op = .store ty x y) (hx : RV (Av O ρ m) ρ m w (evalA t x) (e x)) (hy : RV (Av O ρ m) ρ m w (evalA t y) (e y))
    {m' : Mem} (hr : storeA Γ ty m (evalA t x) (evalA t y) = some m') : Gives O Γ.P ρ m w (execOp e o) undefA m' := by
  unfold storeA at hr
  split at hr
  · rename_i i xs h g off hi hc hxe
    rw [hxe] at hx
    split at hr
    · rename_i hlen
      obtain ⟨hlen, hok⟩ := hlen
      split at hr
      · rename_i cs kid hown
        split at hr
        · rename_i hoff
          simp only [Option.some.injEq] at hr
          subst hr
          have hb := own_row hown
          generalize hv : e x = v at hx
          cases hx with
          | ptr _ _ _ a hg hva =>
            have ha := hva cs .ow kid hb
            obtain ⟨h1, h2⟩ := cells_rv hy hc
            have hI := ok.ty ty i hi
            have hg2 : ∀ j (hj : j < xs.length), RV (Av O ρ m) ρ m w (xs[j]'hj) ((e y).cells.toList.getD j undef) := fun j hj => by
              obtain ⟨u, hu, huv⟩ := h2 j hj
              rw [List.getD_eq_getElem?_getD]
              simp only [Array.getElem?_toList, hu, Option.getD_some]
              exact huv
            obtain ⟨w', h3, h4, h5⟩ := write_row (P := Γ.P) hm hb off xs (e y).cells.toList (by omega) (by simpa using h1) (fun v hvm => by
              obtain ⟨j, hj, hjv⟩ := List.getElem_of_mem hvm
              have hjx : j < xs.length := by simp at hj; omega
              have := hg2 j hjx
              rw [List.getD_eq_getElem?_getD, List.getElem?_eq_getElem hj, Option.getD_some, hjv] at this
              exact cellOk_rv this (List.all_eq_true.mp hok _ (List.getElem_mem hjx))) hg2
            refine ⟨undef, w', ρ, .inr ⟨?_, rfl⟩, RV.undef _ _ _ _, h4, h5⟩
            simp [execOp, ho, Instr.storeAt, hv, ha, Instr.sureAddr, storeVar, hI.run_size, h1, hlen, h3]
        · cases hr
      · cases hr
    · cases hr
  · cases hr
end

end Go.Am

namespace Go.Am

/-- Cells stand for cells. -/
def CR (A : Nat → Prop) (ρ : Nat → Nat × Nat) (m : Mem) (w : World) (xs : List AV) (c : Array Value) : Prop :=
  c.size = xs.length ∧ ∀ j (hj : j < xs.length), ∃ u, c[j]? = some u ∧ RV A ρ m w (xs[j]'hj) u

theorem foldl_set (off : Nat) : ∀ (vs : List Value) (k : Nat) (c : Array Value), off + k + vs.length ≤ c.size →
    ((vs.zipIdx k).foldl (fun (cs : Array Value) (x : Value × Nat) => cs.setIfInBounds (off + x.2) x.1) c).size = c.size ∧
    ∀ j, ((vs.zipIdx k).foldl (fun (cs : Array Value) (x : Value × Nat) => cs.setIfInBounds (off + x.2) x.1) c)[j]? =
      if j < off + k then c[j]? else if j < off + k + vs.length then vs[j - (off + k)]? else c[j]?
  | [], k, c, _ => by
    refine ⟨rfl, fun j => ?_⟩
    simp only [List.zipIdx_nil, List.foldl_nil, List.length_nil, Nat.add_zero]
    split
    · rfl
    · rfl
  | v :: vs, k, c, h => by
    simp only [List.zipIdx_cons, List.foldl_cons]
    simp only [List.length_cons] at h
    obtain ⟨h1, h2⟩ := foldl_set off vs (k + 1) (c.setIfInBounds (off + k) v) (by simp; omega)
    refine ⟨by rw [h1]; simp, fun j => ?_⟩
    rw [h2 j]
    simp only [Array.getElem?_setIfInBounds, List.length_cons]
    by_cases a : j < off + k
    · have c1 : j < off + (k + 1) := by omega
      have c2 : ¬ off + k = j := by omega
      simp only [a, c1, c2, if_true, if_false]
    · by_cases b : j = off + k
      · subst b
        have c1 : off + k < off + (k + 1) := by omega
        have c2 : off + k < c.size := by omega
        have c3 : off + k < off + k + (vs.length + 1) := by omega
        simp only [a, c1, c2, c3, if_true, if_false, Nat.sub_self, List.getElem?_cons_zero]
      · have c1 : ¬ j < off + (k + 1) := by omega
        have c2 : ¬ off + k = j := by omega
        by_cases d : j < off + k + (vs.length + 1)
        · have c3 : j < off + (k + 1) + vs.length := by omega
          have c4 : j - (off + k) = (j - (off + (k + 1))) + 1 := by omega
          simp only [a, c1, d, c3, c4, if_true, if_false, List.getElem?_cons_succ]
        · have c3 : ¬ j < off + (k + 1) + vs.length := by omega
          simp only [a, c1, c2, d, c3, if_false]

section
variable {O : Nat → Prop} {Γ : Ctx} {ρ : Nat → Nat × Nat} {m : Mem} {w : World} {t : List AV} {e : Operand → Value} {o : Oper}

theorem fill_sound {A : Nat → Prop} (place : Nat → Option (Nat × Nat)) : ∀ (l : List (Nat × Operand)) (xs ys : List AV) (c : Array Value), fillA place t xs l = some ys → CR A ρ m w xs c →
    (∀ p ∈ l, RV A ρ m w (evalA t p.2) (e p.2)) → ∃ c', Instr.fill place c (l.map fun p => (p.1, e p.2)) = some c' ∧ CR A ρ m w ys c'
  | [], xs, ys, c, h, hc, _ => by
    simp only [fillA, Option.some.injEq] at h
    subst h
    exact ⟨c, rfl, hc⟩
  | (i, x) :: l, xs, ys, c, h, hc, hp => by
    simp only [fillA] at h
    split at h
    · rename_i off size zs hpl hcs
      split at h
      · rename_i hb
        obtain ⟨h1, h2⟩ := cells_rv (hp (i, x) (by simp)) hcs
        have h1' : (e x).cells.size = zs.length := h1
        have hsz : (e x).cells.toList.length = zs.length := by simpa using h1
        obtain ⟨h3, h4⟩ := foldl_set off (e x).cells.toList 0 c (by rw [hc.1]; omega)
        have hcr : CR A ρ m w (over xs off zs) ((e x).cells.toList.zipIdx.foldl (fun (cs : Array Value) (x : Value × Nat) => cs.setIfInBounds (off + x.2) x.1) c) := by
          have hol := over_len xs off zs (by omega)
          refine ⟨by rw [h3, hc.1, hol], fun j hj => ?_⟩
          rw [h4 j]
          have hov := over_get? xs off zs (by omega) j
          rw [List.getElem?_eq_getElem hj] at hov
          rw [hol] at hj
          simp only [Nat.add_zero, hsz]
          by_cases a : j < off
          · rw [if_pos a]
            rw [if_pos a, List.getElem?_eq_getElem hj] at hov
            simp only [Option.some.injEq] at hov
            rw [hov]; exact hc.2 j hj
          · rw [if_neg a]
            by_cases b : j < off + zs.length
            · rw [if_pos b]
              rw [if_neg a, if_pos b, List.getElem?_eq_getElem (by omega)] at hov
              simp only [Option.some.injEq] at hov
              rw [hov]
              obtain ⟨u, hu, huv⟩ := h2 (j - off) (by omega)
              exact ⟨u, by simpa using hu, huv⟩
            · rw [if_neg b]
              rw [if_neg a, if_neg b, List.getElem?_eq_getElem hj] at hov
              simp only [Option.some.injEq] at hov
              rw [hov]; exact hc.2 j hj
        obtain ⟨c', h5, h6⟩ := fill_sound place l _ ys _ h hcr (fun p hp' => hp p (by simp [hp']))
        refine ⟨c', ?_, h6⟩
        have hc1 := hc.1
        have n1 : ¬ ((e x).cells.size ≠ size) := by omega
        have n2 : ¬ (off + (e x).cells.size > c.size) := by omega
        simp only [List.map_cons, Instr.fill, hpl]
        have n3 : (decide ((e x).cells.size ≠ size) || decide (off + (e x).cells.size > c.size)) = false := by simp [n1]; exact Nat.not_lt.mp n2
        rw [if_neg (by simpa using n3)]
        rw [← h5]
        congr 1
        rw [← Array.foldl_toList, Array.toList_zipIdx]
      · cases h
    · cases h

theorem zeroA_cr {A : Nat → Prop} {ty : TypeId} {i : TI} (h : TIOk Γ.P Γ.ty ty i) : CR A ρ m w (zeroA i) (zeroV i).cells := by
  rw [h.zero_cells]
  refine ⟨by simp [zeroA], fun j hj => ?_⟩
  simp only [zeroA, List.length_map] at hj
  refine ⟨i.zero[j], by simp [hj], ?_⟩
  simp only [zeroA, List.getElem_map]
  exact .d _ _ (.v _)

theorem cr_ag {A : Nat → Prop} {xs : List AV} {c : Array Value} (h : CR A ρ m w xs c) : RV A ρ m w (.ag xs) (.agg c) := by
  have : c = c.toList.toArray := by simp
  rw [this]
  refine .ag xs c.toList (by simpa using h.1) fun j hj => ?_
  obtain ⟨u, hu, huv⟩ := h.2 j hj
  rw [List.getD_eq_getElem?_getD]
  simp only [Array.getElem?_toList, hu, Option.getD_some]
  exact huv

theorem mapM_pair {P : Program} : ∀ {l : List Field} {r : List (Nat × Nat × TypeId)}, l.mapM (fun f => (P.info? f.type).map fun i => (f.offset, i.size, f.type)) = some r →
    l.mapM (fun f => (P.info? f.type).map fun i => (f.offset, i.size)) = some (r.map fun p => (p.1, p.2.1))
  | [], r, h => by simp at h; subst h; rfl
  | f :: l, r, h => by
    simp only [List.mapM_cons, Option.bind_eq_bind, Option.pure_def] at h ⊢
    cases hi : P.info? f.type with
    | none => simp [hi] at h
    | some i =>
      cases hl : l.mapM (fun f => (P.info? f.type).map fun i => (f.offset, i.size, f.type)) with
      | none => simp [hi, hl] at h
      | some zs =>
        simp [hi, hl] at h
        subst h
        simp [mapM_pair hl]

theorem op_build (ok : Γ.TyOk) (hm : MemInv O ρ m w) {ty : TypeId} {parts : Array (Nat × Operand)} (ho : o.op = .build ty parts) (hp : ∀ p ∈ parts.toList, RV (Av O ρ m) ρ m w (evalA t p.2) (e p.2))
    {i : TI} (hi : Γ.ty ty = some i) {place : Nat → Option (Nat × Nat)} (hpl : placeOf Γ i = some place) {ys : List AV} (hf : fillA place t (zeroA i) parts.toList = some ys) :
    Gives O Γ.P ρ m w (execOp e o) (.ag ys) m := by
  have hI := ok.ty ty i hi
  obtain ⟨c, h1, h2⟩ := fill_sound place parts.toList _ ys _ hf (zeroA_cr hI) hp
  obtain ⟨x, hx, hxs, _, hxz⟩ := hI.typeInfo
  refine .same hm ?_ (cr_ag h2)
  have hrun := run_build (P := Γ.P) w ty (parts.map fun (i, x) => (i, e x)) c (by
    unfold Program.built
    have hl : (parts.map fun (p : Nat × Operand) => (p.1, e p.2)).toList = parts.toList.map fun p => (p.1, e p.2) := by simp
    unfold placeOf at hpl
    split at hpl
    · rename_i fs hk
      simp only [Option.some.injEq] at hpl
      obtain ⟨fields, hu, hmm⟩ := hI.struct hk
      simp only [hx, hu, hxz, mapM_pair hmm]
      rw [← h1, ← hpl]
      simp
    · rename_i n el hk
      split at hpl
      · rename_i j hj
        simp only [Option.some.injEq] at hpl
        have hJ := ok.ty el j hj
        obtain ⟨y, hy, hys, _, _⟩ := hJ.typeInfo
        simp only [hx, hI.array hk, hxz, hy]
        rw [← h1, ← hpl, hys]
        simp
      · cases hpl
    · cases hpl)
  simp [execOp, ho, hrun]

theorem zerosA_len (i : TI) : ∀ n, (zerosA i n).length = n * i.zero.length
  | 0 => by simp [zerosA]
  | n + 1 => by simp [zerosA, zeroA, zerosA_len i n, Nat.succ_mul, Nat.add_comm]

theorem zerosA_get (i : TI) : ∀ n j, j < n * i.zero.length → (zerosA i n)[j]? = some (.d (.v (i.zero.getD (j % i.zero.length) undef)))
  | 0, j, h => by simp at h
  | n + 1, j, h => by
    simp only [zerosA, List.getElem?_append]
    have hl : (zeroA i).length = i.zero.length := by simp [zeroA]
    rw [hl]
    split
    · rename_i h1
      rw [Nat.mod_eq_of_lt h1]
      simp [zeroA, List.getD_eq_getElem?_getD, h1]
    · rename_i h1
      rw [zerosA_get i n (j - i.zero.length) (by rw [Nat.succ_mul] at h; omega)]
      have : j % i.zero.length = (j - i.zero.length) % i.zero.length := by
        rw [Nat.mod_eq_sub_mod (by omega)]
      rw [this]

/-- A block of zero cells, as the model makes it. -/
theorem zeros_cr {A : Nat → Prop} {ty : TypeId} {i : TI} (h : TIOk Γ.P Γ.ty ty i) (hs : i.size ≠ 0) (n : Nat) :
    CR A ρ m w (zerosA i n) ((Array.range (n * i.size)).map ((zeroV i).cells[· % (zeroV i).cells.size]!)) := by
  have hz := h.zlen
  have hc := h.zero_cells
  refine ⟨by simp [zerosA_len, hz], fun j hj => ?_⟩
  have hj' : j < n * i.zero.length := by rw [zerosA_len] at hj; exact hj
  have hg := zerosA_get i n j hj'
  rw [List.getElem?_eq_getElem hj] at hg
  simp only [Option.some.injEq] at hg
  rw [hg]
  have hmod : j % i.zero.length < i.zero.length := Nat.mod_lt _ (by omega)
  refine ⟨i.zero.getD (j % i.zero.length) undef, ?_, .d _ _ (.v _)⟩
  rw [hz] at hj'
  simp only [Array.getElem?_map, Array.getElem?_range, hj', Option.map_some, hc, List.size_toArray, if_true]
  rw [List.getD_eq_getElem?_getD, List.getElem?_eq_getElem hmod]
  simp [hmod]

theorem elem_ok (ok : Γ.TyOk) {ty el : TypeId} {i : TI} (h : elemOf Γ ty = some (el, i)) : Γ.P.underlying ty = some (.slice el) ∧ TIOk Γ.P Γ.ty el i := by
  unfold elemOf at h
  split at h
  · rename_i e' _ _ _ _ _ hty
    have hT := ok.ty ty _ hty
    cases he : Γ.ty e' with
    | none => rw [he] at h; cases h
    | some j =>
      rw [he] at h
      simp only [Option.map_some, Option.some.injEq, Prod.mk.injEq] at h
      obtain ⟨rfl, rfl⟩ := h
      exact ⟨hT.slice rfl, ok.ty _ _ he⟩
  · cases h

/-- A new row, and a slice over it. -/
theorem push_own (hm : MemInv O ρ m w) (cs : List AV) (c : Array Value) (E : TypeId) (hc : CR (Av O ρ m) ρ m w cs c) (len el cap : Nat) (hel : 0 < el) (hl : len ≤ cap) (hcap : cap * el ≤ cs.length) {s : Sem Next}
    (hs : s.run Γ.P w = .ok (.value (.slice (some ⟨w.heap.size, 0, none⟩) len cap)) (w.alloc (.cells c E))) :
    Gives O Γ.P ρ m w s (.own m.b.length m.n 0 len el (some cap)) (m.push cs) := by
  obtain ⟨h1, h2⟩ := push hm cs c E hc.2
  refine ⟨_, _, _, .inl hs, ?_, h1, h2⟩
  refine .own _ _ _ _ _ _ _ _ _ (by simp [Mem.push]) fun cs' s' kid' hr => ?_
  have hcs : cs' = cs := by
    simp only [Mem.push, List.getElem?_append_right (Nat.le_refl _), Nat.sub_self, List.getElem?_cons_zero, Option.some.injEq, Blk.row.injEq] at hr
    exact hr.1.symm
  subst hcs
  rw [upd_same]
  have hle : len * el ≤ cap * el := Nat.mul_le_mul_right _ hl
  exact ⟨cap, rfl, hel, by omega, hl, fun c' hc' => by simp only [Option.some.injEq] at hc'; subst hc'; exact ⟨rfl, by omega⟩, fun hn => by cases hn⟩

theorem op_buildSlice (ok : Γ.TyOk) {ty : TypeId} {len : Nat} {parts : Array (Nat × Operand)} (ho : o.op = .buildSlice ty len parts)
    (hp : ∀ p ∈ parts.toList, RV (Av O ρ m) ρ m w (evalA t p.2) (e p.2)) {el : TypeId} {i : TI} (hi : elemOf Γ ty = some (el, i)) (hs : ¬ (i.size = 0 ∨ len * i.size > 16777216))
    {cs : List AV} (hf : fillA (fun k => some (k * i.size, i.size)) t (zerosA i len) parts.toList = some cs) :
    ∃ c, CR (Av O ρ m) ρ m w cs c ∧ cs.length = len * i.size ∧ (execOp e o).run Γ.P w = .ok (.value (.slice (some ⟨w.heap.size, 0, none⟩) len len)) (w.alloc (.cells c el)) := by
  obtain ⟨hu, hI⟩ := elem_ok ok hi
  have hs0 : i.size ≠ 0 := fun h => hs (.inl h)
  have hs1 : ¬ len * i.size > 16777216 := fun h => hs (.inr h)
  obtain ⟨c, h1, h2⟩ := fill_sound _ parts.toList _ cs _ hf (zeros_cr hI hs0 len) hp
  have hfl : ∀ (l : List (Nat × Operand)) (xs ys : List AV), fillA (fun k => some (k * i.size, i.size)) t xs l = some ys → ys.length = xs.length := by
    intro l
    induction l with
    | nil => intro xs ys h; simp only [fillA, Option.some.injEq] at h; rw [h]
    | cons p l ih =>
      intro xs ys h
      simp only [fillA] at h
      split at h
      · rename_i off size zs hpl hcs
        split at h
        · rename_i hb; rw [ih _ _ h, over_len _ _ _ (by omega)]
        · cases h
      · cases h
  refine ⟨c, h2, by rw [hfl _ _ _ hf, zerosA_len, hI.zlen], ?_⟩
  have hl : (parts.map fun (p : Nat × Operand) => (p.1, e p.2)).toList = parts.toList.map fun p => (p.1, e p.2) := by simp
  simp only [execOp, ho, Instr.buildSlice, Sem.run_bind, run_underlying hu, Result.andThen_ok, hI.run_size]
  have h24 : (2 : Nat) ^ 24 = 16777216 := by decide
  have hlim : ¬ (len * i.size > 2 ^ 24) := by rw [h24]; exact hs1
  rw [if_neg hlim]
  by_cases h0 : len * i.size = 0
  · rw [if_pos h0]
    have harr : (Array.range (len * i.size)).map (fun x => (#[] : Array Value)[x % (#[] : Array Value).size]!) = (Array.range (len * i.size)).map ((zeroV i).cells[· % (zeroV i).cells.size]!) := by
      rw [h0]; simp
    simp only [Sem.run_bind, Sem.run_pure, Result.andThen_ok, hl, harr, h1]
    simp [newRow]
  · rw [if_neg h0]
    simp only [Sem.run_bind, Sem.run_pure, Result.andThen_ok, hI.run_zero, hl, h1]
    simp [newRow]

theorem op_extract (hm : MemInv O ρ m w) {x : Operand} {k : Nat} (ho : o.op = .extract x k) (hx : RV (Av O ρ m) ρ m w (evalA t x) (e x)) {vs : List AV} (hv : evalA t x = .tu vs) {r : AV} (hr : vs[k]? = some r) :
    Gives O Γ.P ρ m w (execOp e o) r m := by
  rw [hv] at hx
  generalize he : e x = v at hx
  cases hx with
  | tu _ us hl hrr =>
    obtain ⟨hk, hkr⟩ := List.getElem?_eq_some_iff.mp hr
    have h1 := hrr k hk
    have hk' : k < us.length := by omega
    rw [hkr, List.getD_eq_getElem?_getD, List.getElem?_eq_getElem hk', Option.getD_some] at h1
    refine .same hm (v := us[k]) ?_ h1
    simp [execOp, ho, Instr.extract, he, hk']

theorem op_makeFunc (hm : MemInv O ρ m w) {f : FuncId} {first caps : Array Operand} (ho : o.op = .makeFunc (.func f) first caps) (h0 : first.size = 0) (hx : ∀ x ∈ caps.toList, RV (Av O ρ m) ρ m w (evalA t x) (e x)) :
    Gives O Γ.P ρ m w (execOp e o) (.fn f (caps.toList.map (evalA t))) m := by
  have hf : first = #[] := Array.eq_empty_of_size_eq_zero h0
  subst hf
  refine .same hm (v := .func (.func f) #[] (caps.toList.map e).toArray) ?_ ?_
  · simp only [execOp, ho, Instr.makeFunc]
    have hm' : caps.map e = (caps.toList.map e).toArray := by apply Array.ext'; simp
    rw [← hm']
    simp
  · refine .fn f _ _ (by simp) fun j hj => ?_
    simp only [List.length_map] at hj
    rw [List.getD_eq_getElem?_getD, List.getElem?_map, List.getElem?_eq_getElem hj, List.getElem_map]
    exact hx _ (List.getElem_mem hj)

end
end Go.Am

namespace Go.Am

theorem add_none (b o n : Nat) : (⟨b, o, none⟩ : Addr).add n = ⟨b, o + n, none⟩ := by unfold Addr.add; split <;> simp_all

theorem mapM_get {α β : Type} {f : α → Option β} : ∀ {l : List α} {r : List β}, l.mapM f = some r → ∀ {i : Nat} {y : β}, r[i]? = some y → ∃ x, l[i]? = some x ∧ f x = some y
  | [], r, h, i, y, hy => by simp at h; subst h; simp at hy
  | x :: l, r, h, i, y, hy => by
    simp only [List.mapM_cons, Option.bind_eq_bind, Option.pure_def] at h
    cases hx : f x with
    | none => simp [hx] at h
    | some z =>
      cases hl : l.mapM f with
      | none => simp [hx, hl] at h
      | some zs =>
        simp [hx, hl] at h
        subst h
        cases i with
        | zero => simp at hy; subst hy; exact ⟨x, rfl, hx⟩
        | succ i => simp at hy ⊢; exact mapM_get hl hy

theorem row_some {m : Mem} {h g : Nat} (hr : (row? m h g).isSome = true) : ∃ cs s kid, m.b[h]? = some (.row cs g s kid) := by
  cases hq : row? m h g with
  | none => rw [hq] at hr; cases hr
  | some cs =>
    unfold row? at hq
    split at hq
    · rename_i cs' g' s kid hb
      split at hq
      · rename_i hg; subst hg; exact ⟨cs', s, kid, hb⟩
      · cases hq
    · cases hq

section
variable {O : Nat → Prop} {Γ : Ctx} {ρ : Nat → Nat × Nat} {m : Mem} {w : World} {t : List AV} {e : Operand → Value} {o : Oper}

/-- A pointer that may be followed. -/
theorem rv_ptr {A : Nat → Prop} {h g off : Nat} {v : Value} (hx : RV A ρ m w (.ptr h g off) v) (hr : (row? m h g).isSome = true) : v = .pointer (some ⟨(ρ h).1, (ρ h).2 + off, none⟩) ∧ g < m.n := by
  obtain ⟨cs, s, kid, hb⟩ := row_some hr
  cases hx with
  | ptr _ _ _ a hg hv => exact ⟨by rw [hv cs s kid hb], hg⟩

theorem ptr_rv {A : Nat → Prop} {h g off : Nat} (hg : g < m.n) {p : Addr} (hp : p = ⟨(ρ h).1, (ρ h).2 + off, none⟩) : RV A ρ m w (.ptr h g off) (.pointer (some p)) := by
  subst hp
  exact .ptr h g off _ hg fun _ _ _ _ => rfl

theorem rv_own {A : Nat → Prop} {h g off len el : Nat} {cap : Option Nat} {v : Value} {cs : List AV} (hx : RV A ρ m w (.own h g off len el cap) v) (hr : row? m h g = some cs) :
    g < m.n ∧ OwnOk w (ρ h) cs.length off len el cap v := by
  unfold row? at hr
  split at hr
  · rename_i cs' g' s kid hb
    split at hr
    · rename_i hg
      subst hg
      simp only [Option.some.injEq] at hr
      subst hr
      cases hx with
      | own _ _ _ _ _ _ a n c hg hv => exact ⟨hg, hv cs' s kid hb⟩
    · cases hr
  · cases hr

theorem own_rv {A : Nat → Prop} {h g off len el : Nat} {cap : Option Nat} {cs : List AV} (hg : g < m.n) (hr : row? m h g = some cs) {a : Option Addr} {n c : Nat} (ho : OwnOk w (ρ h) cs.length off len el cap (.slice a n c)) :
    RV A ρ m w (.own h g off len el cap) (.slice a n c) := by
  refine .own h g off len el cap a n c hg fun cs' s kid hb => ?_
  have : cs' = cs := by
    unfold row? at hr
    rw [hb] at hr
    simpa using hr
  rw [this]; exact ho

theorem rv_int {A : Nat → Prop} {k : IntKind} {n : Int} {v : Value} (h : RV A ρ m w (.d (.v (.int k n))) v) : v = .int k n := rv_v h

theorem natOf_rv {A : Nat → Prop} {x : AV} {v : Value} {n : Nat} (h : RV A ρ m w x v) (hn : natOf x = some n) : ∃ k, v = .int k (Int.ofNat n) := by
  unfold natOf at hn
  split at hn
  · rename_i k n'
    simp only [Option.some.injEq] at hn
    subst hn
    exact ⟨k, rv_v h⟩
  · cases hn

theorem rv_intA (A : Nat → Prop) (k : IntKind) (n : Int) : RV A ρ m w (intA k n) (.int k n) := .d _ _ (.v _)
theorem rv_boolA (A : Nat → Prop) (b : Bool) : RV A ρ m w (boolA b) (.bool b) := .d _ _ (.v _)

theorem take_rp {A : Nat → Prop} {cells : List D} {v : Value} (h : RV A ρ m w (.rp cells) v) (i k : Nat) (hi : i + k ≤ cells.length) :
    ∃ b o', v = .pointer (some ⟨b, o', none⟩) ∧ RV A ρ m w (.rp ((cells.drop i).take k)) (.pointer (some ⟨b, o' + i, none⟩)) := by
  cases h with
  | rp _ b o' us hc hr hb hs =>
    refine ⟨b, o', rfl, .rp _ b (o' + i) (fun j => us (i + j)) (fun j hj => ?_) (fun j hj => ?_) hb hs⟩
    · have hj' : i + j < cells.length := by simp at hj; omega
      rw [Nat.add_assoc]
      exact hc (i + j) hj'
    · have hj' : i + j < cells.length := by simp at hj; omega
      simp only [List.getElem_take, List.getElem_drop]
      exact hr (i + j) hj'

theorem op_fieldAddr (ok : Γ.TyOk) (hm : MemInv O ρ m w) {ty : TypeId} {x : Operand} {f : Nat} (ho : o.op = .fieldAddr ty x f) (hx : RV (Av O ρ m) ρ m w (evalA t x) (e x)) {i : TI} (hi : Γ.ty ty = some i)
    {fs : List (Nat × Nat × TypeId)} (hk : i.kd = .struct fs) {off' size : Nat} {ft : TypeId} (hf : fs[f]? = some (off', size, ft)) (hs : size ≠ 0) {r : AV}
    (hr : (∃ h g off, evalA t x = .ptr h g off ∧ (row? m h g).isSome = true ∧ r = .ptr h g (off + off')) ∨ (∃ cells, evalA t x = .rp cells ∧ off' + size ≤ cells.length ∧ r = .rp ((cells.drop off').take size))) :
    Gives O Γ.P ρ m w (execOp e o) r m := by
  have hI := ok.ty ty i hi
  obtain ⟨fields, hu, hmm⟩ := hI.struct hk
  obtain ⟨fd, hfd, hinf⟩ := mapM_get hmm hf
  cases hinfo : Γ.P.info? fd.type with
  | none => rw [hinfo] at hinf; cases hinf
  | some inf =>
    rw [hinfo] at hinf
    simp only [Option.map_some, Option.some.injEq, Prod.mk.injEq] at hinf
    obtain ⟨ho', hsz, _⟩ := hinf
    have hfd' : fields[f]? = some fd := by simpa using hfd
    have hsize : (sizeOf fd.type).run Γ.P w = .ok size w := by simp [sizeOf, typeInfo, hinfo, hsz]
    have key : ∀ b o', e x = .pointer (some ⟨b, o', none⟩) → (execOp e o).run Γ.P w = .ok (.value (.pointer (some ⟨b, o' + off', none⟩))) w := by
      intro b o' he
      simp only [execOp, ho, Instr.fieldAt, Sem.run_bind, run_underlying hu, Result.andThen_ok, hfd', he]
      simp [Instr.sureAddr, fieldPlace, hsize, hs, add_none, ho']
    rcases hr with ⟨h, g, off, hxe, hrow, rfl⟩ | ⟨cells, hxe, hle, rfl⟩
    · rw [hxe] at hx
      obtain ⟨hv, hg⟩ := rv_ptr hx hrow
      exact .same hm (key _ _ hv) (ptr_rv hg (by rw [Nat.add_assoc]))
    · rw [hxe] at hx
      obtain ⟨b, o', hv, hrv⟩ := take_rp hx off' size hle
      exact .same hm (key _ _ hv) hrv

theorem part_sound {A : Nat → Prop} {ty : TypeId} {i : TI} (hI : TIOk Γ.P Γ.ty ty i) {cs : List AV} {vs : List Value} (hl : vs.length = cs.length) (hr : ∀ j (h : j < cs.length), RV A ρ m w (cs[j]'h) (vs.getD j undef))
    {off : Nat} {r : AV} (hp : partA i cs off = some r) : ∃ v, (part ty vs.toArray off).run Γ.P w = .ok v w ∧ RV A ρ m w r v := by
  unfold partA asVal at hp
  split at hp
  · rename_i hlen
    have hle : off + i.size ≤ cs.length ∨ i.size = 0 := by simp [cut] at hlen; omega
    cases ha : i.agg with
    | true =>
      rw [ha] at hp
      simp only [if_true, Option.some.injEq] at hp
      subst hp
      refine ⟨.agg (vs.toArray.extract off (off + i.size)), by simp [part, hI.run_agg, ha, hI.run_size], ?_⟩
      have he : vs.toArray.extract off (off + i.size) = ((vs.drop off).take i.size).toArray := by
        apply Array.ext'; simp
      rw [he]
      refine .ag _ _ (by rw [hlen]; simp; omega) fun j hj => ?_
      rw [hlen] at hj
      rcases hle with hle | hle
      · obtain ⟨h1, h2⟩ := cut_get hle (j := j) (by rw [hlen]; exact hj)
        rw [h2]
        have := hr (off + j) h1
        rw [List.getD_eq_getElem?_getD] at this ⊢
        rw [List.getElem?_take, if_pos hj, List.getElem?_drop]
        exact this
      · omega
    | false =>
      rw [ha] at hp
      simp only [Bool.false_eq_true, if_false] at hp
      split at hp
      · rename_i c hc
        simp only [Option.some.injEq] at hp
        subst hp
        have h1 := hI.one ha
        have hlt : off < cs.length := by rcases hle with h | h <;> omega
        have hcc : cs[off] = c := by
          have h2 : (cut cs off i.size)[0]? = some c := by rw [hc]; rfl
          simp only [cut, List.getElem?_take, h1, List.getElem?_drop, Nat.add_zero] at h2
          rw [if_pos (by omega), List.getElem?_eq_getElem hlt] at h2
          simpa using h2
        have h3 := hr off hlt
        rw [hcc] at h3
        have hlv : off < vs.length := by omega
        rw [List.getD_eq_getElem?_getD, List.getElem?_eq_getElem hlv, Option.getD_some] at h3
        exact ⟨vs[off], by simp [part, hI.run_agg, ha, hlv], h3⟩
      · cases hp
  · cases hp

theorem op_index (ok : Γ.TyOk) (hm : MemInv O ρ m w) {ty : TypeId} {x y : Operand} (ho : o.op = .index ty x y) (hx : RV (Av O ρ m) ρ m w (evalA t x) (e x)) (hy : RV (Av O ρ m) ρ m w (evalA t y) (e y))
    {k : Nat} (hn : natOf (evalA t y) = some k) {i : TI} (hi : Γ.ty ty = some i) {n : Nat} {el : TypeId} (hk : i.kd = .array n el) {cs : List AV} (hxe : evalA t x = .ag cs) {j : TI} (hj : Γ.ty el = some j) (hlt : k < n)
    {r : AV} (hp : partA j cs (k * j.size) = some r) : Gives O Γ.P ρ m w (execOp e o) r m := by
  have hI := ok.ty ty i hi
  have hJ := ok.ty el j hj
  obtain ⟨kk, hyv⟩ := natOf_rv hy hn
  rw [hxe] at hx
  generalize hv : e x = v at hx
  cases hx with
  | ag _ vs hl hr =>
    obtain ⟨v, h1, h2⟩ := part_sound hJ hl hr hp
    refine .same hm ?_ h2
    have hc : (0 : Int) ≤ Int.ofNat k ∧ Int.ofNat k < (n : Int) := ⟨Int.natCast_nonneg k, by simpa using hlt⟩
    simp only [execOp, ho, Instr.index, hyv, asIntOf, Sem.run_bind, Sem.run_pure, Result.andThen_ok, run_underlying (hI.array hk), hv]
    rw [if_pos hc]
    simp [hJ.run_size, h1]

theorem op_indexStr (ok : Γ.TyOk) (hm : MemInv O ρ m w) {ty : TypeId} {x y : Operand} (ho : o.op = .index ty x y) (hx : RV (Av O ρ m) ρ m w (evalA t x) (e x)) (hy : RV (Av O ρ m) ρ m w (evalA t y) (e y))
    {k : Nat} (hn : natOf (evalA t y) = some k) {i : TI} (hi : Γ.ty ty = some i) (hk : i.kd = .str) {s : ByteArray} (hxe : evalA t x = .d (.v (.string s))) {b : UInt8} (hb : s[k]? = some b) :
    Gives O Γ.P ρ m w (execOp e o) (.d (.v (.int .u8 b.toNat))) m := by
  have hI := ok.ty ty i hi
  obtain ⟨kk, hyv⟩ := natOf_rv hy hn
  rw [hxe] at hx
  have hv := rv_v hx
  refine .same hm ?_ (.d _ _ (.v _))
  have hc : (0 : Int) ≤ Int.ofNat k := Int.natCast_nonneg k
  simp only [execOp, ho, Instr.index, hyv, asIntOf, Sem.run_bind, Sem.run_pure, Result.andThen_ok, run_underlying (hI.str hk), hv]
  rw [if_pos hc]
  have : (Int.ofNat k).toNat = k := rfl
  simp [hb]

theorem op_field (ok : Γ.TyOk) (hm : MemInv O ρ m w) {ty : TypeId} {x : Operand} {f : Nat} (ho : o.op = .field ty x f) (hx : RV (Av O ρ m) ρ m w (evalA t x) (e x)) {i : TI} (hi : Γ.ty ty = some i)
    {fs : List (Nat × Nat × TypeId)} (hk : i.kd = .struct fs) {off size : Nat} {ft : TypeId} (hf : fs[f]? = some (off, size, ft)) {cs : List AV} (hxe : evalA t x = .ag cs) {j : TI} (hj : Γ.ty ft = some j)
    {r : AV} (hp : partA j cs off = some r) : Gives O Γ.P ρ m w (execOp e o) r m := by
  have hI := ok.ty ty i hi
  have hJ := ok.ty ft j hj
  obtain ⟨fields, hu, hmm⟩ := hI.struct hk
  obtain ⟨fd, hfd, hinf⟩ := mapM_get hmm hf
  cases hinfo : Γ.P.info? fd.type with
  | none => rw [hinfo] at hinf; cases hinf
  | some inf =>
    rw [hinfo] at hinf
    simp only [Option.map_some, Option.some.injEq, Prod.mk.injEq] at hinf
    obtain ⟨ho', _, hft⟩ := hinf
    have hfd' : fields[f]? = some fd := by simpa using hfd
    rw [hxe] at hx
    generalize hv : e x = v at hx
    cases hx with
    | ag _ vs hl hr =>
      obtain ⟨v, h1, h2⟩ := part_sound hJ hl hr hp
      refine .same hm ?_ h2
      simp only [execOp, ho, Instr.field, Sem.run_bind, run_underlying hu, Result.andThen_ok, hfd', hv]
      simp [asAgg, ho', hft, h1]

end
end Go.Am

namespace Go.Am

section
variable {O : Nat → Prop} {Γ : Ctx} {ρ : Nat → Nat × Nat} {m : Mem} {w : World} {t : List AV} {e : Operand → Value} {o : Oper}

theorem op_nilCheck (hm : MemInv O ρ m w) {x : Operand} (ho : o.op = .nilCheck x) (hx : RV (Av O ρ m) ρ m w (evalA t x) (e x))
    (hr : (∃ h g off, evalA t x = .ptr h g off ∧ (row? m h g).isSome = true) ∨ (∃ c, evalA t x = .rp c) ∨ (∃ f cs, evalA t x = .fn f cs)) : Gives O Γ.P ρ m w (execOp e o) (evalA t x) m := by
  refine .same hm (v := e x) ?_ hx
  rcases hr with ⟨h, g, off, hxe, hrow⟩ | ⟨c, hxe⟩ | ⟨f, cs, hxe⟩ <;> rw [hxe] at hx
  · obtain ⟨hv, _⟩ := rv_ptr hx hrow
    simp [execOp, ho, hv]
  · generalize hv : e x = v at hx
    cases hx
    simp [execOp, ho, hv]
  · generalize hv : e x = v at hx
    cases hx
    simp [execOp, ho, hv]

theorem op_indexAddr (ok : Γ.TyOk) (hm : MemInv O ρ m w) {ty : TypeId} {x y : Operand} (ho : o.op = .indexAddr ty x y) (hx : RV (Av O ρ m) ρ m w (evalA t x) (e x)) (hy : RV (Av O ρ m) ρ m w (evalA t y) (e y))
    {r : AV} (hr : indexAddrA Γ ty m (evalA t x) (evalA t y) = some r) : Gives O Γ.P ρ m w (execOp e o) r m := by
  unfold indexAddrA at hr
  split at hr
  · cases hr
  · rename_i k hk
    obtain ⟨kk, hyv⟩ := natOf_rv hy hk
    have h0 : (0 : Int) ≤ Int.ofNat k := Int.natCast_nonneg k
    split at hr
    · -- an array
      rename_i n el _ _ _ _ _ hty
      have hI := ok.ty ty _ hty
      have hu := hI.array rfl
      split at hr
      · rename_i j hj
        have hJ := ok.ty el j hj
        split at hr
        · rename_i hlt
          have hc : (0 : Int) ≤ Int.ofNat k ∧ Int.ofNat k < (n : Int) := ⟨h0, by simpa using hlt⟩
          have key : ∀ b o', e x = .pointer (some ⟨b, o', none⟩) → (execOp e o).run Γ.P w = .ok (.value (.pointer (some ⟨b, o' + k * j.size, none⟩))) w := by
            intro b o' he
            simp only [execOp, ho, Instr.indexAt, hyv, asIntOf, Sem.run_bind, Sem.run_pure, Result.andThen_ok, run_underlying hu, he, Instr.sureAddr]
            rw [if_pos hc]
            simp [hJ.run_size, add_none]
          split at hr
          · rename_i h g off hxe
            split at hr
            · rename_i hrow
              simp only [Option.some.injEq] at hr
              subst hr
              rw [hxe] at hx
              obtain ⟨hv, hg⟩ := rv_ptr hx hrow
              exact .same hm (key _ _ hv) (ptr_rv hg (by rw [Nat.add_assoc]))
            · cases hr
          · rename_i cells hxe
            split at hr
            · rename_i hle
              simp only [Option.some.injEq] at hr
              subst hr
              rw [hxe] at hx
              have hle2 : k * j.size + j.size ≤ cells.length := by
                have : (k + 1) * j.size ≤ n * j.size := Nat.mul_le_mul_right _ hlt
                rw [Nat.succ_mul] at this
                omega
              obtain ⟨b, o', hv, hrv⟩ := take_rp hx (k * j.size) j.size hle2
              exact .same hm (key _ _ hv) hrv
            · cases hr
          · cases hr
        · cases hr
      · cases hr
    · rename_i el _ _ _ _ _ hty
      have hI := ok.ty ty _ hty
      have hu := hI.slice rfl
      split at hr
      · rename_i j hj
        have hJ := ok.ty el j hj
        have key : ∀ b o' len cap, k < len → e x = .slice (some ⟨b, o', none⟩) len cap → (execOp e o).run Γ.P w = .ok (.value (.pointer (some ⟨b, o' + k * j.size, none⟩))) w := by
          intro b o' len cap hlt he
          have hc : (0 : Int) ≤ Int.ofNat k ∧ Int.ofNat k < (len : Int) := ⟨h0, by simpa using hlt⟩
          simp only [execOp, ho, Instr.indexAt, hyv, asIntOf, Sem.run_bind, Sem.run_pure, Result.andThen_ok, run_underlying hu, he]
          rw [if_pos hc]
          simp [hJ.run_size, add_none]
        split at hr
        · rename_i h g off len e' cap hxe
          split at hr
          · rename_i hc
            obtain ⟨hlt, he', hrow⟩ := hc
            simp only [Option.some.injEq] at hr
            subst hr
            rw [hxe] at hx
            obtain ⟨cs, s, kid, hb⟩ := row_some hrow
            have hrow' : row? m h g = some cs := by simp [row?, hb]
            obtain ⟨hg, cap', hv, _⟩ := rv_own hx hrow'
            exact .same hm (key _ _ _ _ hlt hv) (ptr_rv hg (by rw [Nat.add_assoc]))
          · cases hr
        · rename_i tt len cells hxe
          split at hr
          · rename_i hc
            obtain ⟨hlt, hlen⟩ := hc
            simp only [Option.some.injEq] at hr
            subst hr
            rw [hxe] at hx
            generalize hv : e x = v at hx
            cases hx with
            | d _ _ hd =>
              cases hd with
              | emp => omega
              | sl _ _ _ b o' cap us hc hrd hb hs hl ht =>
                have hle2 : k * j.size + j.size ≤ cells.length := by
                  have : (k + 1) * j.size ≤ len * j.size := Nat.mul_le_mul_right _ hlt
                  rw [Nat.succ_mul] at this
                  omega
                obtain ⟨b', o'', hv', hrv⟩ := take_rp (ρ := ρ) (m := m) (RV.rp cells b o' us hc hrd hb hs) (k * j.size) j.size hle2
                simp only [Value.pointer.injEq, Option.some.injEq, Addr.mk.injEq] at hv'
                obtain ⟨rfl, rfl, _⟩ := hv'
                exact .same hm (key _ _ _ _ hlt hv) hrv
          · cases hr
        · cases hr
      · cases hr
    · cases hr

/-! slices of slices -/

theorem boundA_run {A : Nat → Prop} {x : AV} {v : Value} (hx : RV A ρ m w x v) {most n : Nat} (h : boundA x most = some n) (code : BoundsCode) {P : Program} {y : Nat} (hy : most ≤ y) : n ≤ most ∧ (Instr.sliceBound v y code).run P w = .ok n w := by
  unfold boundA at h
  split at h
  · rename_i k n'
    split at h
    · rename_i hle
      simp only [Option.some.injEq] at h
      subst h
      refine ⟨hle, ?_⟩
      rw [rv_v hx]
      have hc : (0 : Int) ≤ Int.ofNat n' ∧ Int.ofNat n' ≤ (y : Int) := ⟨Int.natCast_nonneg _, by simp; omega⟩
      simp only [Instr.sliceBound, asIntOf, Sem.run_bind, Sem.run_pure, Result.andThen_ok]
      rw [if_pos hc]
      rfl
    · cases h
  · cases h

/-- The bounds of a slice expression are what the model takes. -/
theorem bounds_run {A : Nat → Prop} {P : Program} (isSlice : Bool) (len most cap' : Nat) (cap : Option Nat) (hlm : len ≤ most) (hmost : most ≤ cap') (hcap : ∀ c, cap = some c → cap' = c) {lo hi mx : Option AV} {vl vh vm : Option Value}
    (hlo : ∀ x, lo = some x → ∃ v, vl = some v ∧ RV A ρ m w x v) (hlo' : lo = none → vl = none) (hhi : ∀ x, hi = some x → ∃ v, vh = some v ∧ RV A ρ m w x v) (hhi' : hi = none → vh = none)
    (hmx : ∀ x, mx = some x → ∃ v, vm = some v ∧ RV A ρ m w x v) (hmx' : mx = none → vm = none) {l h : Nat} {c : Option Nat} (hb : bounds len most cap lo hi mx = some (l, h, c)) :
    ∃ mm, (Instr.sliceBounds isSlice len cap' vl vh vm).run P w = .ok (l, h, mm) w ∧ l ≤ h ∧ h ≤ mm ∧ mm ≤ cap' ∧ (h ≤ most) ∧ (∀ k, c = some k → mm = k ∧ (k ≤ most ∨ cap = some k)) ∧ (c = none → mm = cap' ∧ cap = none) := by
  unfold bounds at hb
  split at hb
  · rename_i xm
    obtain ⟨v, hv, hvr⟩ := hmx xm rfl
    subst hv
    split at hb
    · rename_i mb xh hmb
      obtain ⟨hm1, hm2⟩ := boundA_run (P := P) hvr hmb (if isSlice then .slice3Acap else .slice3Alen) hmost
      obtain ⟨vh', hvh, hvhr⟩ := hhi xh rfl
      subst hvh
      split at hb
      · rename_i hh hhb
        obtain ⟨hh1, hh2⟩ := boundA_run (P := P) hvhr hhb .slice3B (Nat.le_refl mb)
        split at hb
        · rename_i xl
          obtain ⟨vl', hvl, hvlr⟩ := hlo xl rfl
          subst hvl
          cases hlb : boundA xl hh with
          | none => rw [hlb] at hb; cases hb
          | some l' =>
            rw [hlb] at hb
            simp only [Option.map_some, Option.some.injEq, Prod.mk.injEq] at hb
            obtain ⟨rfl, rfl, rfl⟩ := hb
            obtain ⟨hl1, hl2⟩ := boundA_run (P := P) hvlr hlb .slice3C (Nat.le_refl _)
            refine ⟨mb, ?_, hl1, hh1, by omega, by omega, fun k hk => by simp only [Option.some.injEq] at hk; exact ⟨hk, .inl (by omega)⟩, fun h => by cases h⟩
            simp [Instr.sliceBounds, hm2, hh2, hl2]
        · simp only [Option.some.injEq, Prod.mk.injEq] at hb
          obtain ⟨rfl, rfl, rfl⟩ := hb
          rw [hlo' rfl]
          refine ⟨mb, ?_, Nat.zero_le _, hh1, by omega, by omega, fun k hk => by simp only [Option.some.injEq] at hk; exact ⟨hk, .inl (by omega)⟩, fun h => by cases h⟩
          simp [Instr.sliceBounds, hm2, hh2]
      · cases hb
    · cases hb
  · rw [hmx' rfl]
    cases hhi0 : hi with
    | none =>
      rw [hhi0] at hb
      simp only at hb
      rw [hhi' hhi0]
      split at hb
      · rename_i xl
        obtain ⟨vl', hvl, hvlr⟩ := hlo xl rfl
        subst hvl
        cases hlb : boundA xl len with
        | none => rw [hlb] at hb; cases hb
        | some l' =>
          rw [hlb] at hb
          simp only [Option.map_some, Option.some.injEq, Prod.mk.injEq] at hb
          obtain ⟨rfl, rfl, rfl⟩ := hb
          obtain ⟨hl1, hl2⟩ := boundA_run (P := P) hvlr hlb .sliceB (Nat.le_refl _)
          refine ⟨cap', ?_, hl1, by omega, Nat.le_refl _, hlm, fun k hk => ⟨hcap k hk, .inr hk⟩, fun h => ⟨rfl, h⟩⟩
          simp [Instr.sliceBounds, hl2]
      · simp only [Option.some.injEq, Prod.mk.injEq] at hb
        obtain ⟨rfl, rfl, rfl⟩ := hb
        rw [hlo' rfl]
        refine ⟨cap', ?_, Nat.zero_le _, by omega, Nat.le_refl _, hlm, fun k hk => ⟨hcap k hk, .inr hk⟩, fun h => ⟨rfl, h⟩⟩
        simp [Instr.sliceBounds]
    | some xh =>
      rw [hhi0] at hb
      simp only at hb
      obtain ⟨vh', hvh, hvhr⟩ := hhi xh hhi0
      subst hvh
      split at hb
      · rename_i hh hhb
        obtain ⟨hh1, hh2⟩ := boundA_run (P := P) hvhr hhb (if isSlice then .sliceAcap else .sliceAlen) hmost
        split at hb
        · rename_i xl
          obtain ⟨vl', hvl, hvlr⟩ := hlo xl rfl
          subst hvl
          cases hlb : boundA xl hh with
          | none => rw [hlb] at hb; cases hb
          | some l' =>
            rw [hlb] at hb
            simp only [Option.map_some, Option.some.injEq, Prod.mk.injEq] at hb
            obtain ⟨rfl, rfl, rfl⟩ := hb
            obtain ⟨hl1, hl2⟩ := boundA_run (P := P) hvlr hlb .sliceB (Nat.le_refl _)
            refine ⟨cap', ?_, hl1, by omega, Nat.le_refl _, hh1, fun k hk => ⟨hcap k hk, .inr hk⟩, fun h => ⟨rfl, h⟩⟩
            simp [Instr.sliceBounds, hh2, hl2]
        · simp only [Option.some.injEq, Prod.mk.injEq] at hb
          obtain ⟨rfl, rfl, rfl⟩ := hb
          rw [hlo' rfl]
          refine ⟨cap', ?_, Nat.zero_le _, by omega, Nat.le_refl _, hh1, fun k hk => ⟨hcap k hk, .inr hk⟩, fun h => ⟨rfl, h⟩⟩
          simp [Instr.sliceBounds, hh2]
      · cases hb

end
end Go.Am
