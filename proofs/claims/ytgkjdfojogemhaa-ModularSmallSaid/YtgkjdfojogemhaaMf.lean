/-
  Regions whose order is open: every order comes to what one order comes to. Conditions: none.
-/
import Derived.Test.YtgkjdfojogemhaaMe
set_option linter.unusedSimpArgs false
set_option linter.unusedVariables false
namespace Go.Am

section
variable {Γ : Ctx} {fk : Nat → Bool} {cf : CF} {ops : Array Oper} {T T1 T2 : List Ent} {L : Nat → Bool} {e : Ent} {t0 : List AV} {m0 : Mem}

theorem allA_add (hc : cE Γ ops e ≠ 2) (hN : Nxt ops T T1 e T2 L) (hO : Order Γ ops T) : allA Γ ops T (addL L e.i) = allA Γ ops T L := by
  rw [Bool.eq_iff_iff, allA_iff, allA_iff]
  have key : ∀ f ∈ T, cE Γ ops f = 2 → addL L e.i f.i = L f.i := by
    intro f hf hfc
    refine addL_ne ?_
    rw [hN.eq] at hf
    simp only [List.mem_append, List.mem_cons] at hf
    rcases hf with hf | rfl | hf
    · exact ((hN.pairs hO).1 f hf).1
    · exact absurd hfc hc
    · exact ((hN.pairs hO).2 f hf).1
  constructor
  · intro h f hf hfc; rw [← key f hf hfc]; exact h f hf hfc
  · intro h f hf hfc; rw [key f hf hfc]; exact h f hf hfc

/-- Nothing stops before the operation. -/
theorem Nxt.pass (hN : Nxt ops T T1 e T2 L) (hO : Order Γ ops T) (h2 : cE Γ ops e ≠ 2) (h0 : cE Γ ops e ≠ 0) : ∀ f ∈ T1, stopE Γ ops T L f = false := by
  intro f hf
  refine stop_false (fun hfc => hN.before hO hf (free_other (by omega) h0 (by omega))) fun hfc => ?_
  rw [allA_iff]
  intro g hg hgc
  exact hN.before hO (hO.allocs hN.eq h2 ⟨f, hf, hfc⟩ g hg hgc) (free_other (by omega) h0 (by omega))

theorem Nxt.mem (ok : Γ.TyOk) (hcf : CFok Γ.P cf) (hin : CFin Γ.P cf) (htr : Trace Γ fk cf ops T t0 m0) (hpr : Prot ops T [] t0 m0) (hN : Nxt ops T T1 e T2 L) (hO : Order Γ ops T) (hc : cE Γ ops e ≠ 2) {o : Oper} (ho : ops[e.i]? = some o) :
    StepOk Γ.P ops o (memAt (stopE Γ ops T L) m0 T) e.r (memAt (stopE Γ ops T (addL L e.i)) m0 T) (foldT ops (fun _ => true) T1 t0) := by
  have htr' := htr
  rw [hN.eq] at htr'
  obtain ⟨_, ⟨o', ho', hs⟩, htr2⟩ := trace_append T1 (e :: T2) t0 m0 htr'
  rw [ho] at ho'
  simp only [Option.some.injEq] at ho'
  subst ho'
  have hce : cE Γ ops e = cls Γ o e.wk := by simp [cE, ho]
  have hle : cE Γ ops e ≤ 6 := by rw [hce]; exact cls_le o e.wk
  have hall := allA_add hc hN hO
  have hne1 : ∀ f ∈ T1, addL L e.i f.i = L f.i := fun f hf => addL_ne ((hN.pairs hO).1 f hf).1
  have hne2 : ∀ f ∈ T2, addL L e.i f.i = L f.i := fun f hf => addL_ne ((hN.pairs hO).2 f hf).1
  have hgd : ∀ f ∈ T2, ∀ of, ops[f.i]? = some of → cls Γ of f.wk = 2 → of.guard = none := by
    intro f hf of hof hfc
    obtain ⟨o1, d, h1, h2, _⟩ := hO.al f (by rw [hN.eq]; exact List.mem_append_right _ (List.mem_cons_of_mem _ hf)) (by simp [cE, hof, hfc])
    rw [hof] at h1
    simp only [Option.some.injEq] at h1
    subst h1
    exact h2
  by_cases hbar : cE Γ ops e = 3 ∨ cE Γ ops e = 4
  · -- it may write
    have hp := hN.pass hO hc (by omega)
    have e1 : memAt (stopE Γ ops T L) m0 T = lastM m0 T1 := by
      conv => lhs; arg 3; rw [hN.eq]
      rw [memAt_pass T1 _ m0 hp]
      simp only [memAt, stop_34 hbar hN.un, cond_true]
    have e2 : memAt (stopE Γ ops T (addL L e.i)) m0 T = memAt (stopE Γ ops T (addL L e.i)) e.m T2 := by
      conv => lhs; arg 3; rw [hN.eq]
      rw [memAt_pass T1 _ m0 (fun f hf => by
        rw [← hp f hf]
        exact stop_congr (fun _ => hne1 f hf) fun _ => hall)]
      have hse : stopE Γ ops T (addL L e.i) e = false := stop_false (fun _ => addL_same e.i) fun h => absurd h hc
      simp only [memAt, hse, cond_false]
    rw [e1, e2]
    refine (stepOk_same ok hcf hin hs).fz (memAt_fz (fk := fk) (cf := cf) hcf hin T2 _ _ htr2 fun f hf hfc => ?_)
    have hLf : L f.i = false := hN.behind hO hf (free_other (by omega) (by omega) (by omega))
    rcases hfc with hfc | hfc
    · refine stop_2 hfc ?_
      cases hA : allA Γ ops T (addL L e.i) with
      | false => rfl
      | true =>
        have := allA_iff.mp hA f (by rw [hN.eq]; exact List.mem_append_right _ (List.mem_cons_of_mem _ hf)) hfc
        rw [hne2 f hf, hLf] at this
        cases this
    · exact stop_34 hfc (by rw [hne2 f hf]; exact hLf)
  · have hcong : memAt (stopE Γ ops T (addL L e.i)) m0 T = memAt (stopE Γ ops T L) m0 T := by
      refine memAt_congr T m0 fun f hf => stop_congr (fun hfc => ?_) fun _ => hall
      rw [hN.eq] at hf
      simp only [List.mem_append, List.mem_cons] at hf
      rcases hf with hf | rfl | hf
      · exact hne1 f hf
      · exact absurd hfc hbar
      · exact hne2 f hf
    rw [hcong]
    by_cases h0 : cE Γ ops e = 0
    · exact (step_quiet_ok ok hcf hin (.inl (by rw [← hce]; exact h0)) hs).2 _ (.inl (by rw [← hce]; exact h0))
    · have hp := hN.pass hO hc h0
      have e1 : memAt (stopE Γ ops T L) m0 T = memAt (stopE Γ ops T L) e.m T2 := by
        conv => lhs; arg 3; rw [hN.eq]
        rw [memAt_pass T1 _ m0 hp]
        have hse : stopE Γ ops T L e = false := stop_false (fun h => absurd h hbar) fun h => absurd h hc
        simp only [memAt, hse, cond_false]
      by_cases h6 : cE Γ ops e = 6
      · rw [hce] at h6
        obtain ⟨k1, k2⟩ := step_load h6 hs
        refine stepOk_same ok hcf hin (k2 _ fun ty a hh g off cs hw hop he hr => ?_)
        have hpr' := hpr
        rw [hN.eq] at hpr'
        obtain ⟨H', o2, H2, ho2, hp2, hq2⟩ := prot_append T1 (e :: T2) [] t0 m0 hpr'
        rw [ho] at ho2
        simp only [Option.some.injEq] at ho2
        subst ho2
        rw [e1]
        refine memAt_row (fk := fk) (cf := cf) hcf hin T2 H2 _ _ htr2 hq2 hgd ?_ (by rw [k1]; exact hr)
        obtain ⟨_, _, _, hwk⟩ := cls6 h6
        unfold protA at hp2
        rw [hop, hwk] at hp2
        simp only [he, Option.some.injEq] at hp2
        rw [← hp2]
        exact List.mem_cons_self
      have hext : Ext e.m (memAt (stopE Γ ops T L) e.m T2) := memAt_ext (fk := fk) (cf := cf) hcf hin T2 _ _ htr2 (fun f hf hfc => stop_34 (.inl hfc) (hN.behind hO hf (free_other h0 (by omega) (by omega)))) hgd
      rw [e1]
      by_cases h1 : cE Γ ops e = 1
      · obtain ⟨k1, k2⟩ := step_quiet_ok ok hcf hin (.inr (by rw [← hce]; exact h1)) hs
        exact k2 _ (.inr (by rw [← k1]; exact hext))
      · exact (step_call5 hcf hin (by rw [← hce]; omega) hs).2 _ hext

end

end Go.Am

namespace Go.Am

section
variable {Γ : Ctx} {fk : Nat → Bool} {cf : CF} {ops : Array Oper} {T T1 T2 : List Ent} {L : Nat → Bool} {e : Ent} {t0 : List AV} {m0 : Mem} {O : Nat → Prop} {ρ0 : Nat → Nat × Nat} {w0 : World}

/-- Where allocations' results stand while some are to come. -/
def XA (Γ : Ctx) (ops : Array Oper) (T : List Ent) (L : Nat → Bool) (d : Nat) : Prop := ∃ e ∈ T, cE Γ ops e = 2 ∧ L e.i = true ∧ dstOf ops e.i = some d

def OA (Γ : Ctx) (ops : Array Oper) (T : List Ent) (O : Nat → Prop) (B : Nat → Nat) (L : Nat → Bool) (b : Nat) : Prop := O b ∨ ∃ e ∈ T, cE Γ ops e = 2 ∧ L e.i = true ∧ B e.i = b

def Full (Γ : Ctx) (ops : Array Oper) (T : List Ent) (O : Nat → Prop) (ρ0 : Nat → Nat × Nat) (w0 : World) (t0 : List AV) (m0 : Mem) (L : Nat → Bool) (a : Act) (w : World) : Prop :=
  ∃ ρ, RelX (fun _ => False) O ρ (foldT ops L T t0) (memAt (stopE Γ ops T L) m0 T) w a ∧ Later ρ0 m0 w0 ρ (memAt (stopE Γ ops T L) m0 T) w

def Part (Γ : Ctx) (ops : Array Oper) (T : List Ent) (O : Nat → Prop) (ρ0 : Nat → Nat × Nat) (w0 : World) (t0 : List AV) (m0 : Mem) (L : Nat → Bool) (a : Act) (w : World) : Prop :=
  ∃ ρ B, RelX (XA Γ ops T L) (OA Γ ops T O B L) ρ (foldT ops L T t0) (memAt (stopE Γ ops T L) m0 T) w a ∧ Later ρ0 m0 w0 ρ (memAt (stopE Γ ops T L) m0 T) w ∧
    (∀ e ∈ T, cE Γ ops e = 2 → L e.i = true → w0.heap.size ≤ B e.i ∧ ¬ O (B e.i) ∧ Ghost Γ ops e (B e.i) a w) ∧
    ∀ e ∈ T, ∀ f ∈ T, cE Γ ops e = 2 → cE Γ ops f = 2 → L e.i = true → L f.i = true → B e.i = B f.i → e.i = f.i

def Inv (Γ : Ctx) (ops : Array Oper) (T : List Ent) (O : Nat → Prop) (ρ0 : Nat → Nat × Nat) (w0 : World) (t0 : List AV) (m0 : Mem) (L : Nat → Bool) (a : Act) (w : World) : Prop :=
  (allA Γ ops T L = true → Full Γ ops T O ρ0 w0 t0 m0 L a w) ∧ (allA Γ ops T L = false → Part Γ ops T O ρ0 w0 t0 m0 L a w)

theorem RelX.temps {X O : Nat → Prop} {ρ : Nat → Nat × Nat} {t t' : List AV} {m : Mem} {w : World} {a : Act} (h : RelX X O ρ t m w a) (hl : t'.length = t.length) (hn : ∀ i, nth t' i = nth t i) : RelX X O ρ t' m w a :=
  ⟨h.mem, hl.trans h.len, fun i hi => by rw [hn]; exact h.tmp i hi, h.def0⟩

theorem Nxt.ne (hN : Nxt ops T T1 e T2 L) (hO : Order Γ ops T) {f : Ent} (hf : f ∈ T) (hc : cE Γ ops f ≠ cE Γ ops e) : f.i ≠ e.i := by
  rw [hN.eq] at hf
  simp only [List.mem_append, List.mem_cons] at hf
  rcases hf with hf | rfl | hf
  · exact ((hN.pairs hO).1 f hf).1
  · exact absurd rfl hc
  · exact ((hN.pairs hO).2 f hf).1

theorem Nxt.memT (hN : Nxt ops T T1 e T2 L) : e ∈ T := by rw [hN.eq]; exact List.mem_append_right _ List.mem_cons_self

/-- An operation that is no allocation. -/
theorem step_plain (ok : Γ.TyOk) (hcf : CFok Γ.P cf) (hin : CFin Γ.P cf) (htr : Trace Γ fk cf ops T t0 m0) (hpr : Prot ops T [] t0 m0) (hN : Nxt ops T T1 e T2 L) (hO : Order Γ ops T) (hc : cE Γ ops e ≠ 2) {a : Act} {w : World} {Q : Exit → Act → World → Prop}
    (hI : Inv Γ ops T O ρ0 w0 t0 m0 L a w) : wpOp Γ.P ops Q e.i (Inv Γ ops T O ρ0 w0 t0 m0 (addL L e.i)) a w := by
  have htr' := htr
  rw [hN.eq] at htr'
  obtain ⟨_, ⟨o, ho, _⟩, _⟩ := trace_append T1 (e :: T2) t0 m0 htr'
  have hS := hN.mem ok hcf hin htr hpr hO hc ho
  have hall := allA_add hc hN hO
  have hd : dstOf ops e.i = o.dst := by simp [dstOf, ho]
  have htemps : ∀ i, nth (foldT ops (addL L e.i) T t0) i = nth (putA' (foldT ops L T t0) o.dst e.r) i := fun i => by rw [hN.put hO, hd]
  have hlen : (foldT ops (addL L e.i) T t0).length = (putA' (foldT ops L T t0) o.dst e.r).length := by rw [put_len, foldT_len, foldT_len]
  have hadd : ∀ f ∈ T, cE Γ ops f = 2 → addL L e.i f.i = L f.i := fun f hf hfc => addL_ne (hN.ne hO hf (by rw [hfc]; exact fun h => hc h.symm))
  unfold wpOp
  rw [ho]
  cases hA : allA Γ ops T L with
  | true =>
    obtain ⟨ρ, hr, hl⟩ := hI.1 hA
    refine hS _ _ ρ w a _ hr (fun d hd => ⟨id, hN.look hO ho hd⟩) (by rw [foldT_len, foldT_len]) _ Q fun a' w' ρ' hr' hl' _ => ?_
    refine ⟨fun _ => ⟨ρ', hr'.temps hlen htemps, hl.trans hl'⟩, fun h => ?_⟩
    rw [hall, hA] at h; cases h
  | false =>
    obtain ⟨ρ, B, hr, hl, hg, hdis⟩ := hI.2 hA
    have hX : XA Γ ops T (addL L e.i) = XA Γ ops T L := by
      funext d
      simp only [XA, eq_iff_iff]
      constructor
      · rintro ⟨f, hf, h1, h2, h3⟩; exact ⟨f, hf, h1, by rw [← hadd f hf h1]; exact h2, h3⟩
      · rintro ⟨f, hf, h1, h2, h3⟩; exact ⟨f, hf, h1, by rw [hadd f hf h1]; exact h2, h3⟩
    have hOA : OA Γ ops T O B (addL L e.i) = OA Γ ops T O B L := by
      funext b
      simp only [OA, eq_iff_iff]
      constructor
      · rintro (h | ⟨f, hf, h1, h2, h3⟩)
        · exact .inl h
        · exact .inr ⟨f, hf, h1, by rw [← hadd f hf h1]; exact h2, h3⟩
      · rintro (h | ⟨f, hf, h1, h2, h3⟩)
        · exact .inl h
        · exact .inr ⟨f, hf, h1, by rw [hadd f hf h1]; exact h2, h3⟩
    refine hS _ _ ρ w a _ hr (fun d hd => ⟨?_, hN.look hO ho hd⟩) (by rw [foldT_len, foldT_len]) _ Q fun a' w' ρ' hr' hl' hsame => ?_
    · rintro ⟨f, hf, h1, h2, h3⟩
      obtain ⟨of, d', k1, k2, k3, k4⟩ := hO.al f hf h1
      have hdd : d' = d := by simpa [dstOf, k1, k3] using h3
      subst hdd
      have hbef := (k4 e hN.memT (fun h => hN.ne hO hf (by rw [h1]; exact fun h => hc h.symm) h.symm)).2 o ho hd
      have : allA Γ ops T L = true := allA_iff.mpr fun g hg hgc => hN.done (hN.ne hO hg (by rw [hgc]; exact fun h => hc h.symm)) (hbef g hg hgc)
      rw [hA] at this; cases this
    · refine ⟨fun h => ?_, fun _ => ⟨ρ', B, ?_, hl.trans hl', fun f hf hfc hLf => ?_, fun f hf g hg h1 h2 h3 h4 => hdis f hf g hg h1 h2 (by rw [← hadd f hf h1]; exact h3) (by rw [← hadd g hg h2]; exact h4)⟩⟩
      · rw [hall, hA] at h; cases h
      · rw [hX, hOA]
        exact hr'.temps hlen htemps
      · rw [hadd f hf hfc] at hLf
        obtain ⟨g1, g2, o', d, ty, i, c, E, g3, g4, g5, g6, g7, g8, g9⟩ := hg f hf hfc hLf
        refine ⟨g1, g2, o', d, ty, i, c, E, g3, g4, g5, g6, fun hlt => ?_, ?_, g9⟩
        · have hne : o.dst ≠ some d := by
            obtain ⟨of, d', k1, k2, k3, k4⟩ := hO.al f hf hfc
            rw [g3] at k1
            simp only [Option.some.injEq] at k1
            subst k1
            rw [g4] at k3
            simp only [Option.some.injEq] at k3
            subst k3
            have := (k4 e hN.memT (fun h => hN.ne hO hf (by rw [hfc]; exact fun h => hc h.symm) h.symm)).1
            rwa [hd] at this
          rw [hsame d hne]
          refine g7 ?_
          have e1 := hr'.len
          rw [put_len, foldT_len] at e1
          have e2 := hr.len
          rw [foldT_len] at e2
          rw [← e2, e1]
          exact hlt
        · have hfar := far_of hr.mem (b := B f.i) (.inr ⟨f, hf, hfc, hLf, rfl⟩)
          have hlt : B f.i < w.heap.size := by
            by_cases h : B f.i < w.heap.size
            · exact h
            · rw [Array.getElem?_eq_none (by omega)] at g8; cases g8
          rw [hl'.keep _ hlt hfar.own]
          exact g8

end

end Go.Am

namespace Go.Am

section
variable {Γ : Ctx} {fk : Nat → Bool} {cf : CF} {ops : Array Oper} {T T1 T2 : List Ent} {L : Nat → Bool} {e : Ent} {t0 : List AV} {m0 : Mem} {O : Nat → Prop} {ρ0 : Nat → Nat × Nat} {w0 : World}

theorem all_pass {Q A R : List Ent} (hT : T = Q ++ (A ++ R)) : ∀ e f, e ∈ Q → f ∈ A → ∃ T1 T2, T = T1 ++ f :: T2 ∧ e ∈ T1 := by
  intro e f he hf
  obtain ⟨A1, A2, rfl⟩ := List.append_of_mem hf
  exact ⟨Q ++ A1, A2 ++ R, by rw [hT]; simp, List.mem_append_left _ he⟩

/-- An allocation. -/
theorem step_new (ok : Γ.TyOk) (hcf : CFok Γ.P cf) (hin : CFin Γ.P cf) (htr : Trace Γ fk cf ops T t0 m0) (hN : Nxt ops T T1 e T2 L) (hO : Order Γ ops T) (hc : cE Γ ops e = 2) {a : Act} {w : World} {Q : Exit → Act → World → Prop}
    (hI : Inv Γ ops T O ρ0 w0 t0 m0 L a w) : wpOp Γ.P ops Q e.i (Inv Γ ops T O ρ0 w0 t0 m0 (addL L e.i)) a w := by
  obtain ⟨o, d, ho, hgd, hdst, hal⟩ := hO.al e hN.memT hc
  have hd : dstOf ops e.i = some d := by simp [dstOf, ho, hdst]
  have htr' := htr
  rw [hN.eq] at htr'
  obtain ⟨_, ⟨o', ho', hs⟩, _⟩ := trace_append T1 (e :: T2) t0 m0 htr'
  rw [ho] at ho'
  simp only [Option.some.injEq] at ho'
  subst ho'
  obtain ⟨ty, i, hop, hty, _, _⟩ := step_alloc (by simpa [cE, ho] using hc) hs hgd
  have hTI := ok.ty ty i hty
  have hA : allA Γ ops T L = false := by
    cases h : allA Γ ops T L with
    | false => rfl
    | true => have := allA_iff.mp h e hN.memT hc; rw [hN.un] at this; cases this
  obtain ⟨ρ, B, hr, hl, hg, hdis⟩ := hI.2 hA
  have hrun : (execOp a.eval o).run Γ.P w = .ok (.value (.pointer (some ⟨w.heap.size, 0, none⟩))) (w.alloc (.cells (zeroV i).cells ty)) := by
    simp [execOp, hop, Instr.alloc, hTI.run_zero, newVar, newRow]
  unfold wpOp
  rw [ho]
  simp only [Region.wanted, hgd, if_true]
  refine .inl ?_
  unfold Oper.wp
  rw [hrun, Oper.upon_value, hdst]
  generalize hw' : w.alloc (.cells (zeroV i).cells ty) = w'
  have hgrow : Grows w w' := by
    subst hw'
    exact ⟨rfl, rfl, rfl, by simp, fun b hb => RowKit.Below.heap_alloc w _ b hb⟩
  have hsz : w.heap.size < w'.heap.size := by subst hw'; simp
  have hnew : w'.heap[w.heap.size]? = some (.cells i.zero.toArray ty (0, 0)) := by
    subst hw'
    rw [heap_alloc_new, hTI.zero_cells]
  have hfi : ∀ f ∈ T, f.i = e.i → f = e := by
    intro f hf hfe
    rw [hN.eq] at hf
    simp only [List.mem_append, List.mem_cons] at hf
    rcases hf with hf | rfl | hf
    · exact absurd hfe ((hN.pairs hO).1 f hf).1
    · rfl
    · exact absurd hfe ((hN.pairs hO).2 f hf).1
  let B' : Nat → Nat := fun k => if k = e.i then w.heap.size else B k
  have hB'e : B' e.i = w.heap.size := by simp [B']
  have hB'f : ∀ f : Ent, f.i ≠ e.i → B' f.i = B f.i := fun f h => by simp [B', h]
  have hold : ∀ f ∈ T, cE Γ ops f = 2 → L f.i = true → B f.i < w.heap.size := by
    intro f hf hfc hLf
    obtain ⟨_, _, _, _, _, _, c, E, _, _, _, _, _, g8, _⟩ := hg f hf hfc hLf
    by_cases h : B f.i < w.heap.size
    · exact h
    · rw [Array.getElem?_eq_none (by omega)] at g8; cases g8
  have hne : ∀ f : Ent, L f.i = true → f.i ≠ e.i := fun f h he => by rw [he, hN.un] at h; cases h
  have hOA : ∀ b, OA Γ ops T O B' (addL L e.i) b ↔ OA Γ ops T O B L b ∨ b = w.heap.size := by
    intro b
    constructor
    · rintro (h | ⟨f, hf, h1, h2, h3⟩)
      · exact .inl (.inl h)
      · by_cases hfe : f.i = e.i
        · right; rw [← h3, hfe, hB'e]
        · rw [addL_ne hfe] at h2
          rw [hB'f f hfe] at h3
          exact .inl (.inr ⟨f, hf, h1, h2, h3⟩)
    · rintro ((h | ⟨f, hf, h1, h2, h3⟩) | h)
      · exact .inl h
      · exact .inr ⟨f, hf, h1, by rw [addL_ne (hne f h2)]; exact h2, by rw [hB'f f (hne f h2)]; exact h3⟩
      · exact .inr ⟨e, hN.memT, hc, addL_same _, by rw [hB'e, h]⟩
  obtain ⟨hm', hrv'⟩ := widen (O' := OA Γ ops T O B' (addL L e.i)) hr.mem hgrow (fun b hb => ((hOA b).mp hb).imp id fun h => by omega) fun b hb => by
    rcases (hOA b).mp hb with h | h
    · exact Nat.lt_trans (hr.mem.ex b h) hsz
    · omega
  have hlen : (foldT ops (addL L e.i) T t0).length = t0.length := foldT_len _ _
  have hRX : RelX (XA Γ ops T (addL L e.i)) (OA Γ ops T O B' (addL L e.i)) ρ (foldT ops (addL L e.i) T t0) (memAt (stopE Γ ops T L) m0 T) w' (a.put (some d) (.pointer (some ⟨w.heap.size, 0, none⟩))) := by
    refine ⟨hm', ?_, fun x hx => ?_, by rw [put_def0]; exact hr.def0⟩
    · rw [put_size, ← hr.len, foldT_len, foldT_len]
    · have hxd : d ≠ x := fun h => hx ⟨e, hN.memT, hc, addL_same _, by rw [hd, h]⟩
      rw [put_get _ _ _ _ (by simpa using hxd), hN.put hO, hd, nth_put, if_neg (fun h => hxd (by simpa using h.1))]
      exact hrv' _ _ (hr.tmp x fun ⟨f, hf, h1, h2, h3⟩ => hx ⟨f, hf, h1, by rw [addL_ne (hne f h2)]; exact h2, h3⟩)
  have hlater : Later ρ0 m0 w0 ρ (memAt (stopE Γ ops T L) m0 T) w' := hl.trans (hgrow.inv hr.mem).2
  have hsz0 : w0.heap.size ≤ w.heap.size := hl.size
  have hghost : ∀ f ∈ T, cE Γ ops f = 2 → addL L e.i f.i = true → w0.heap.size ≤ B' f.i ∧ ¬ O (B' f.i) ∧ Ghost Γ ops f (B' f.i) (a.put (some d) (.pointer (some ⟨w.heap.size, 0, none⟩))) w' := by
    intro f hf hfc hLf
    by_cases hfe : f.i = e.i
    · rw [hfe, hB'e]
      refine ⟨hsz0, fun h => ?_, o, d, ty, i, _, ty, by rw [hfe]; exact ho, hdst, hop, hty, fun hlt => put_same a d _ (by rw [put_size] at hlt; exact hlt), hnew, rfl⟩
      have := hr.mem.ex _ (.inl h)
      omega
    · rw [addL_ne hfe] at hLf
      rw [hB'f f hfe]
      obtain ⟨g1, g2, o', d', ty', i', c, E, g3, g4, g5, g6, g7, g8, g9⟩ := hg f hf hfc hLf
      refine ⟨g1, g2, o', d', ty', i', c, E, g3, g4, g5, g6, fun hlt => ?_, by rw [hgrow.2.2.2.2 _ (hold f hf hfc hLf)]; exact g8, g9⟩
      have hdd : d ≠ d' := by
        intro h
        have := (hal f hf hfe).1
        simp only [dstOf, g3, Option.bind_some, g4, h] at this
        exact this rfl
      rw [put_get _ _ _ _ (by simpa using hdd)]
      exact g7 (by rw [put_size] at hlt; exact hlt)
  have hdis' : ∀ f ∈ T, ∀ g ∈ T, cE Γ ops f = 2 → cE Γ ops g = 2 → addL L e.i f.i = true → addL L e.i g.i = true → B' f.i = B' g.i → f.i = g.i := by
    intro f hf g hg' h1 h2 h3 h4 h5
    by_cases hfe : f.i = e.i <;> by_cases hge : g.i = e.i
    · rw [hfe, hge]
    · rw [addL_ne hge] at h4
      rw [hfe, hB'e, hB'f g hge] at h5
      have := hold g hg' h2 h4; omega
    · rw [addL_ne hfe] at h3
      rw [hge, hB'e, hB'f f hfe] at h5
      have := hold f hf h1 h3; omega
    · rw [addL_ne hfe] at h3
      rw [addL_ne hge] at h4
      rw [hB'f f hfe, hB'f g hge] at h5
      exact hdis f hf g hg' h1 h2 h3 h4 h5
  refine ⟨fun hfull => ?_, fun hpart => ?_⟩
  · -- all are there
    obtain ⟨Qs, A, R, hT, hQ, hAA, hR⟩ := hO.grp
    have heA : e ∈ A := by
      have := hN.memT
      rw [hT] at this
      simp only [List.mem_append] at this
      rcases this with h | h | h
      · exact absurd hc (hQ e h)
      · exact h
      · exact absurd hc (hR e h)
    have hpos : ∀ f ∈ T, f ∈ Qs → f ∈ T1 := by
      intro f _ hf
      obtain ⟨U1, U2, hU, hfU⟩ := all_pass hT f e hf heA
      have hd := hO.dis
      rw [hN.eq] at hU
      rcases List.append_eq_append_iff.mp hU with ⟨X, hX1, hX2⟩ | ⟨X, hX1, hX2⟩
      · cases X with
        | nil => rw [hX1, List.append_nil] at hfU; exact hfU
        | cons x X =>
          simp only [List.cons_append, List.cons.injEq] at hX2
          rw [hN.eq, hX2.2] at hd
          simp only [List.pairwise_append, List.pairwise_cons] at hd
          exact absurd rfl (hd.2.1.1 e (List.mem_append_right _ List.mem_cons_self))
      · rw [hX1]; exact List.mem_append_left _ hfU
    have hpos2 : ∀ f, f ∈ R → f ∈ T2 := by
      intro f hf
      have hfT : f ∈ T := by rw [hT]; exact List.mem_append_right _ (List.mem_append_right _ hf)
      obtain ⟨A1, A2, hA12⟩ := List.append_of_mem heA
      have hU : T = (Qs ++ A1) ++ e :: (A2 ++ R) := by rw [hT, hA12]; simp
      have hd := hO.dis
      rw [hN.eq] at hU
      rcases List.append_eq_append_iff.mp hU with ⟨X, hX1, hX2⟩ | ⟨X, hX1, hX2⟩
      · cases X with
        | nil =>
          simp only [List.nil_append, List.cons.injEq, true_and] at hX2
          rw [hX2]; exact List.mem_append_right _ hf
        | cons x X =>
          simp only [List.cons_append, List.cons.injEq] at hX2
          rw [hN.eq, hX2.2] at hd
          simp only [List.pairwise_append, List.pairwise_cons] at hd
          exact absurd rfl (hd.2.1.1 e (List.mem_append_right _ List.mem_cons_self))
      · cases X with
        | nil =>
          simp only [List.nil_append, List.cons.injEq, true_and] at hX2
          rw [← hX2]; exact List.mem_append_right _ hf
        | cons x X =>
          simp only [List.cons_append, List.cons.injEq] at hX2
          have : f ∈ X ++ e :: T2 := by rw [← hX2.2]; exact List.mem_append_right _ hf
          simp only [List.mem_append, List.mem_cons] at this
          rcases this with h | rfl | h
          · -- e occurs twice
            have hd' := hd
            rw [hN.eq, hX1, ← hX2.1] at hd'
            simp only [List.pairwise_append, List.pairwise_cons, List.mem_append, List.mem_cons] at hd'
            exact absurd rfl (hd'.2.2 e (.inr (.inl rfl)) e (.inl rfl))
          · exact absurd hc (hR _ hf)
          · exact h
    have hmA : memAt (stopE Γ ops T L) m0 T = lastM m0 Qs := by
      conv => lhs; arg 3; rw [hT]
      rw [memAt_pass Qs _ m0 (fun f hf => stop_false (fun hfc => hN.before hO (hpos f (by rw [hT]; exact List.mem_append_left _ hf) hf) (free_other (by omega) (by omega) (by omega))) fun hfc => absurd hfc (hQ f hf))]
      obtain ⟨x, A', hA'⟩ := List.exists_cons_of_ne_nil (List.ne_nil_of_mem heA)
      rw [hA']
      simp only [List.cons_append, memAt, stop_2 (hAA x (by rw [hA']; exact List.mem_cons_self)) hA, cond_true]
    have hmB : memAt (stopE Γ ops T (addL L e.i)) m0 T = memAt (stopE Γ ops T (addL L e.i)) (lastM (lastM m0 Qs) A) R := by
      conv => lhs; arg 3; rw [hT]
      rw [memAt_pass Qs _ m0 (fun f hf => by
        have h1 := hpos f (by rw [hT]; exact List.mem_append_left _ hf) hf
        refine stop_false (fun hfc => ?_) fun hfc => absurd hfc (hQ f hf)
        rw [addL_ne ((hN.pairs hO).1 f h1).1]
        exact hN.before hO h1 (free_other (by omega) (by omega) (by omega)))]
      rw [memAt_pass A _ _ (fun f hf => stop_false (fun hfc => by have := hAA f hf; omega) fun _ => hfull)]
    rw [hT] at htr
    obtain ⟨_, htr2⟩ := trace_append Qs (A ++ R) t0 m0 htr
    obtain ⟨htrA, htrR⟩ := trace_append A R _ _ htr2
    have hfz : FzStep (lastM (lastM m0 Qs) A) (memAt (stopE Γ ops T (addL L e.i)) (lastM (lastM m0 Qs) A) R) := by
      refine memAt_fz (fk := fk) (cf := cf) hcf hin R _ _ htrR fun f hf hfc => ?_
      have h2 := hpos2 f hf
      rcases hfc with hfc | hfc
      · exact absurd hfc (hR f hf)
      · refine stop_34 hfc ?_
        rw [addL_ne ((hN.pairs hO).2 f h2).1]
        exact hN.behind hO h2 (free_other (by omega) (by omega) (by omega))
    have hAT : ∀ f ∈ A, f ∈ T := fun f hf => by rw [hT]; exact List.mem_append_right _ (List.mem_append_left _ hf)
    have hTA : ∀ f ∈ T, cE Γ ops f = 2 → f ∈ A := by
      intro f hf hfc
      rw [hT] at hf
      simp only [List.mem_append] at hf
      rcases hf with h | h | h
      · exact absurd hfc (hQ f h)
      · exact h
      · exact absurd hfc (hR f h)
    have hLA : ∀ f ∈ A, addL L e.i f.i = true := fun f hf => allA_iff.mp hfull f (hAT f hf) (hAA f hf)
    have hX : XA Γ ops T (addL L e.i) = fun d => ∃ f ∈ A, dstOf ops f.i = some d := by
      funext x
      simp only [XA, eq_iff_iff]
      exact ⟨fun ⟨f, hf, h1, _, h3⟩ => ⟨f, hTA f hf h1, h3⟩, fun ⟨f, hf, h3⟩ => ⟨f, hAT f hf, hAA f hf, hLA f hf, h3⟩⟩
    have hOO : OA Γ ops T O B' (addL L e.i) = fun b => O b ∨ ∃ f ∈ A, B' f.i = b := by
      funext x
      simp only [OA, eq_iff_iff]
      refine or_congr Iff.rfl ⟨fun ⟨f, hf, h1, _, h3⟩ => ⟨f, hTA f hf h1, h3⟩, fun ⟨f, hf, h3⟩ => ⟨f, hAT f hf, hAA f hf, hLA f hf, h3⟩⟩
    rw [hX, hOO, hmA] at hRX
    rw [hmA] at hlater
    have hdA : A.Pairwise fun e f => B' e.i ≠ B' f.i := by
      have h1 := hO.dis
      rw [hT] at h1
      simp only [List.pairwise_append] at h1
      refine List.Pairwise.imp_of_mem ?_ h1.2.1.1
      intro f g hf hg' hfg hB
      exact hfg (hdis' f (hAT f hf) g (hAT g hg') (hAA f hf) (hAA g hg') (hLA f hf) (hLA g hg') hB)
    obtain ⟨ρ', hr', hl'⟩ := adoptAll (O := O) (B := B') (w0 := w0) (ρ0 := ρ0) (m0 := m0) (tt := foldT ops (addL L e.i) T t0) A ρ (lastM m0 Qs) _ htrA (fun f hf => by
        obtain ⟨k1, k2, k3⟩ := hghost f (hAT f hf) (hAA f hf) (hLA f hf)
        refine ⟨hAA f hf, fun of hof => ?_, k3, k1, k2⟩
        obtain ⟨o', d', q1, q2, _⟩ := hO.al f (hAT f hf) (hAA f hf)
        rw [hof] at q1
        simp only [Option.some.injEq] at q1
        subst q1
        exact q2) hdA (fun f hf x hx hlt => by
        obtain ⟨o', d', q1, q2, q3, q4⟩ := hO.al f (hAT f hf) (hAA f hf)
        have hdx : d' = x := by simpa [dstOf, q1, q3] using hx
        subst hdx
        obtain ⟨V1, V2, hV⟩ := List.append_of_mem (hAT f hf)
        have hone : ∀ g ∈ T, g ≠ f → dstOf ops g.i ≠ some d' := by
          intro g hg' hgf
          refine (q4 g hg' fun h => hgf ?_).1
          have h1 := hO.dis
          rw [hV] at h1 hg'
          simp only [List.pairwise_append, List.pairwise_cons, List.mem_append, List.mem_cons] at h1 hg'
          rcases hg' with hg' | rfl | hg'
          · exact absurd h (h1.2.2 g hg' f (.inl rfl))
          · rfl
          · exact absurd h.symm (h1.2.1.1 g hg')
        have hnV : ∀ g ∈ V2, g ≠ f := by
          intro g hg' h
          subst h
          have h1 := hO.dis
          rw [hV] at h1
          simp only [List.pairwise_append, List.pairwise_cons] at h1
          exact absurd rfl (h1.2.1.1 g hg')
        rw [hlen] at hlt
        conv => lhs; arg 1; arg 3; rw [hV]
        rw [foldT_append]
        simp only [foldT, hLA f hf, cond_true]
        rw [fold_none V2 _ fun g hg' hgd => absurd hgd (hone g (by rw [hV]; exact List.mem_append_right _ (List.mem_cons_of_mem _ hg')) (hnV g hg')), nth_put, if_pos ⟨hx, by rw [foldT_len]; exact hlt⟩]) hRX hlater
    obtain ⟨z1, z2⟩ := hfz.inv hr'.mem
    refine ⟨ρ', ?_, ?_⟩
    · rw [hmB]
      exact ⟨z1, hr'.len, fun x hx => (hr'.tmp x hx).later hr'.mem z2, hr'.def0⟩
    · rw [hmB]
      exact hl'.trans z2
  · have hmem : memAt (stopE Γ ops T (addL L e.i)) m0 T = memAt (stopE Γ ops T L) m0 T := by
      refine memAt_congr T m0 fun f hf => stop_congr (fun hfc => addL_ne fun h => ?_) fun _ => by rw [hpart, hA]
      have := hfi f hf h
      subst this
      omega
    exact ⟨ρ, B', by rw [hmem]; exact hRX, by rw [hmem]; exact hlater, hghost, hdis'⟩

end

end Go.Am

namespace Go.Am

section
variable {Γ : Ctx} {fk : Nat → Bool} {cf : CF} {ops : Array Oper} {T : List Ent} {t0 : List AV} {m0 : Mem} {O : Nat → Prop} {ρ0 : Nat → Nat × Nat} {w0 : World}

/-- How many are to come. -/
def unl (L : Nat → Bool) : List Ent → Nat
  | [] => 0
  | e :: T => (bif L e.i then 0 else 1) + unl L T

theorem unl_mono {L L' : Nat → Bool} (h : ∀ i, L i = true → L' i = true) : ∀ T : List Ent, unl L' T ≤ unl L T
  | [] => Nat.le_refl _
  | e :: T => by
    have ih := unl_mono h T
    simp only [unl]
    cases hL : L e.i with
    | true => simp only [h _ hL, cond_true]; omega
    | false => cases L' e.i <;> simp only [cond_true, cond_false] <;> omega

theorem unl_less {L L' : Nat → Bool} (h : ∀ i, L i = true → L' i = true) {e : Ent} (h1 : L e.i = false) (h2 : L' e.i = true) : ∀ T : List Ent, e ∈ T → unl L' T < unl L T
  | f :: T, hm => by
    simp only [unl]
    rcases List.mem_cons.mp hm with rfl | hm
    · have := unl_mono h T
      rw [h1, h2]; simp only [cond_true, cond_false]; omega
    · have ih := unl_less h h1 h2 T hm
      cases hL : L f.i with
      | true => simp only [h _ hL, cond_true]; omega
      | false => cases L' f.i <;> simp only [cond_true, cond_false] <;> omega

theorem unl_zero {L : Nat → Bool} : ∀ T : List Ent, unl L T = 0 → ∀ e ∈ T, L e.i = true
  | f :: T, h, e, he => by
    simp only [unl] at h
    rcases List.mem_cons.mp he with rfl | he
    · cases hL : L e.i with
      | true => rfl
      | false => rw [hL] at h; simp only [cond_false] at h; omega
    · exact unl_zero T (by omega) e he

theorem first_un {L : Nat → Bool} : ∀ T : List Ent, (∃ e ∈ T, L e.i = false) → ∃ T1 e T2, T = T1 ++ e :: T2 ∧ L e.i = false ∧ ∀ f ∈ T1, L f.i = true
  | f :: T, ⟨e, he, hu⟩ => by
    cases hL : L f.i with
    | false => exact ⟨[], f, T, rfl, hL, fun _ h => by cases h⟩
    | true =>
      have : ∃ e ∈ T, L e.i = false := by
        rcases List.mem_cons.mp he with rfl | he
        · rw [hL] at hu; cases hu
        · exact ⟨e, he, hu⟩
      obtain ⟨T1, e, T2, h1, h2, h3⟩ := first_un T this
      refine ⟨f :: T1, e, T2, by rw [h1]; rfl, h2, fun g hg => ?_⟩
      rcases List.mem_cons.mp hg with rfl | hg
      · exact hL
      · exact h3 g hg

theorem any_order (ok : Γ.TyOk) (hcf : CFok Γ.P cf) (hin : CFin Γ.P cf) (htr : Trace Γ fk cf ops T t0 m0) (hpr : Prot ops T [] t0 m0) (hO : Order Γ ops T) {Q : Exit → Act → World → Prop}
    (hq : ∀ a' w' ρ', RelX (fun _ => False) O ρ' (foldT ops (fun _ => true) T t0) (lastM m0 T) w' a' → Later ρ0 m0 w0 ρ' (lastM m0 T) w' → Q .normal a' w') :
    ∀ (fuel : Nat) (listed : Array Bool) (a : Act) (w : World), listed.size = ops.size → unl (fun i => listed.getD i false) T ≤ fuel → Clo ops (fun i => listed.getD i false) →
      Inv Γ ops T O ρ0 w0 t0 m0 (fun i => listed.getD i false) a w → wpAny Γ.P .any ops Q fuel listed a w := by
  have hTlt : ∀ e ∈ T, e.i < ops.size := by
    intro e he
    obtain ⟨T1, T2, rfl⟩ := List.append_of_mem he
    obtain ⟨_, ⟨o, ho, _⟩, _⟩ := trace_append T1 (e :: T2) t0 m0 htr
    by_cases h : e.i < ops.size
    · exact h
    · rw [Array.getElem?_eq_none (by omega)] at ho; cases ho
  have hgd : ∀ (listed : Array Bool), listed.size = ops.size → ∀ i, i < ops.size → listed.getD i true = listed.getD i false := by
    intro listed hs i hi
    simp only [Array.getD_eq_getD_getElem?]
    rw [Array.getElem?_eq_getElem (by omega)]
    rfl
  have hend : ∀ (listed : Array Bool) (a : Act) (w : World), listed.size = ops.size → Inv Γ ops T O ρ0 w0 t0 m0 (fun i => listed.getD i false) a w → (∀ e ∈ T, listed.getD e.i false = true) → Q .normal a w := by
    intro listed a w hs hI hall
    have hA : allA Γ ops T (fun i => listed.getD i false) = true := allA_iff.mpr fun e he _ => hall e he
    obtain ⟨ρ, hr, hl⟩ := hI.1 hA
    have h1 : memAt (stopE Γ ops T (fun i => listed.getD i false)) m0 T = lastM m0 T := by
      conv => lhs; arg 3; rw [← List.append_nil T]
      rw [memAt_pass T [] m0 (fun f hf => stop_false (fun _ => hall f hf) fun _ => hA)]
      rfl
    rw [h1] at hr hl
    refine hq a w ρ (hr.temps (by rw [foldT_len, foldT_len]) fun x => ?_) hl
    exact fold_agree T t0 t0 (fun e he _ => (hall e he).symm) rfl rfl
  have hstuck : ∀ (listed : Array Bool), listed.size = ops.size → Region.ready .any ops listed = [] → ∀ e ∈ T, listed.getD e.i false = true := by
    intro listed hs hr
    by_cases hex : ∃ e ∈ T, (fun i => listed.getD i false) e.i = false
    · obtain ⟨T1, e, T2, h1, h2, h3⟩ := first_un (L := fun i => listed.getD i false) T hex
      have heT : e ∈ T := by rw [h1]; exact List.mem_append_right _ List.mem_cons_self
      have hlt := hTlt e heT
      have : e.i ∈ Region.ready .any ops listed := by
        refine mem_ready.mpr ⟨by rw [hgd listed hs e.i hlt]; exact h2, ops[e.i], Array.getElem?_eq_getElem hlt, fun g hg hb => ?_⟩
        obtain ⟨f, hf, hfi⟩ := hO.topo T1 e T2 h1 _ (Array.getElem?_eq_getElem hlt) g hg hb
        rw [← hfi]
        exact h3 f hf
      rw [hr] at this
      cases this
    · intro e he
      cases h : listed.getD e.i false with
      | true => rfl
      | false => exact absurd ⟨e, he, h⟩ hex
  intro fuel
  induction fuel with
  | zero =>
    intro listed a w hs hu hcl hI
    have hall := unl_zero T (Nat.le_zero.mp hu)
    refine ⟨?_, hend listed a w hs hI hall⟩
    cases hr : Region.ready .any ops listed with
    | nil => rfl
    | cons j l =>
      have hj : j ∈ Region.ready .any ops listed := by rw [hr]; exact List.mem_cons_self
      obtain ⟨h0, o, ho, _⟩ := mem_ready.mp hj
      have hlt : j < ops.size := (Array.getElem?_eq_some_iff.1 ho).1
      obtain ⟨e, he, rfl⟩ := hO.all j hlt
      rw [hgd listed hs e.i hlt] at h0
      have := hall e he
      rw [h0] at this
      cases this
  | succ fuel ih =>
    intro listed a w hs hu hcl hI
    refine ⟨fun hr => hend listed a w hs hI (hstuck listed hs hr), fun j hj => ?_⟩
    obtain ⟨h0, o, ho, hall⟩ := mem_ready.mp hj
    have hlt : j < ops.size := (Array.getElem?_eq_some_iff.1 ho).1
    obtain ⟨e, he, rfl⟩ := hO.all j hlt
    rw [hgd listed hs e.i hlt] at h0
    have hset : (fun i => (listed.setIfInBounds e.i true).getD i false) = addL (fun i => listed.getD i false) e.i := by
      funext i
      by_cases hi : e.i = i
      · subst hi
        simp only [addL, Array.getD_eq_getD_getElem?, beq_self_eq_true, Bool.or_true]
        rw [Array.getElem?_setIfInBounds_self_of_lt (by omega)]
        rfl
      · rw [addL_ne (fun h => hi h.symm)]
        simp only [Array.getD_eq_getD_getElem?]
        rw [Array.getElem?_setIfInBounds_ne hi]
    have hcl' : Clo ops (addL (fun i => listed.getD i false) e.i) := by
      intro i oi hoi hLi g hg hb
      by_cases hi : i = e.i
      · subst hi
        rw [ho] at hoi
        simp only [Option.some.injEq] at hoi
        subst hoi
        have := hall g hg hb
        simp only [addL, this, Bool.true_or]
      · rw [addL_ne hi] at hLi
        have := hcl i oi hoi hLi g hg hb
        simp only at this
        simp only [addL, this, Bool.true_or]
    obtain ⟨T1, T2, hT⟩ := List.append_of_mem he
    have hN : Nxt ops T T1 e T2 (fun i => listed.getD i false) := ⟨hT, hcl, hcl', h0⟩
    have hstep : wpOp Γ.P ops Q e.i (Inv Γ ops T O ρ0 w0 t0 m0 (addL (fun i => listed.getD i false) e.i)) a w := by
      by_cases hc : cE Γ ops e = 2
      · exact step_new ok hcf hin htr hN hO hc hI
      · exact step_plain ok hcf hin htr hpr hN hO hc hI
    refine wpOp_mono (fun a' w' h => ih _ a' w' (by simp [hs]) ?_ (by rw [hset]; exact hcl') (by rw [hset]; exact h)) hstep
    rw [hset]
    have := unl_less (L := fun i => listed.getD i false) (L' := addL (fun i => listed.getD i false) e.i) (fun i hi => by simp only [addL]; rw [hi]; rfl) h0 (addL_same e.i) T he
    omega

/-- The run of a region whose order is open. -/
theorem region_any (ok : Γ.TyOk) (hm : Γ.P.follows .mixedOrders = true) (hcf : CFok Γ.P cf) (hin : CFin Γ.P cf) {pi : List (Nat × Bool)} {s s' : St} (h : runD Γ fk cf ops pi [] s = some s')
    (hO : ∀ T : List Ent, T.map (fun e => (e.i, e.wk)) = pi → Order Γ ops T) {ρ : Nat → Nat × Nat} {w : World} {a : Act} {id : Nat} {Q : Exit → Act → World → Prop} (hr : Rel O ρ s w a)
    (hq : ∀ a' w' ρ', Rel O ρ' s' w' a' → Later ρ s.m w ρ' s'.m w' → Q .normal a' w') : (Code.region id ops true).wp Γ.P Q a w := by
  obtain ⟨T, h1, h2, h3, h4, h5⟩ := trace_of_run pi [] s s' h
  have hord := hO T h1
  refine wp_region_any hm ?_
  let w1 : World := { w with drawn := w.drawn + 1 }
  have hm1 : MemInv O ρ s.m w1 := hr.mem.of_heap rfl rfl rfl rfl
  have hl1 : Later ρ s.m w ρ s.m w1 := later_of_heap rfl rfl rfl rfl
  have hLf : ∀ i, (Array.replicate ops.size false).getD i false = false := by
    intro i
    simp only [Array.getD_eq_getD_getElem?, Array.getElem?_replicate]
    split <;> rfl
  have hLfun : (fun i => (Array.replicate ops.size false).getD i false) = fun _ => false := funext hLf
  have hf0 : foldT ops (fun _ => false) T s.t = s.t := by
    have : ∀ (T : List Ent) (t : List AV), foldT ops (fun _ => false) T t = t := by
      intro T
      induction T with
      | nil => intro t; rfl
      | cons e T ih => intro t; simp only [foldT, cond_false]; exact ih t
    exact this T s.t
  have hrX : RelX (fun _ => False) O ρ s.t s.m w1 a := by
    have h0 := relX_of hr
    exact ⟨hm1, h0.len, fun i hi => (h0.tmp i hi).later hr.mem hl1, h0.def0⟩
  have hunl : ∀ T : List Ent, unl (fun _ => false) T = T.length := by
    intro T
    induction T with
    | nil => rfl
    | cons e T ih => simp only [unl, cond_false, List.length_cons, ih]; omega
  have hTn : T.length ≤ ops.size := hord.len
  -- the memory before anything has run
  have hstart : Inv Γ ops T O ρ w s.t s.m (fun _ => false) a w1 := by
    have hmem : FzStep s.m (memAt (stopE Γ ops T (fun _ => false)) s.m T) := by
      refine memAt_fz (fk := fk) (cf := cf) hcf hin T _ _ h2 fun e he hc => ?_
      rcases hc with hc | hc
      · refine stop_2 hc ?_
        cases hA : allA Γ ops T (fun _ => false) with
        | false => rfl
        | true => exact absurd (allA_iff.mp hA e he hc) (by simp)
      · exact stop_34 hc rfl
    obtain ⟨k1, k2⟩ := hmem.inv hm1
    refine ⟨fun hA => ⟨ρ, ?_, hl1.trans k2⟩, fun hA => ⟨ρ, fun _ => 0, ?_, hl1.trans k2, fun (e : Ent) _ _ h => by simp at h, fun (e : Ent) _ (f : Ent) _ _ _ h => by simp at h⟩⟩
    · rw [hf0]
      exact ⟨k1, hrX.len, fun i hi => (hrX.tmp i hi).later hm1 k2, hrX.def0⟩
    · rw [hf0]
      have hX : XA Γ ops T (fun _ => false) = fun _ => False := by
        funext d
        simp [XA]
      have hOA : OA Γ ops T O (fun _ => 0) (fun _ => false) = O := by
        funext b
        simp [OA]
      rw [hX, hOA]
      exact ⟨k1, hrX.len, fun i hi => (hrX.tmp i hi).later hm1 k2, hrX.def0⟩
  refine any_order (O := O) (ρ0 := ρ) (w0 := w) ok hcf hin h2 h5 hord (fun a' w' ρ' hr' hl' => ?_) ops.size _ a w1 (by simp) (by rw [hLfun, hunl]; exact hTn) (by rw [hLfun]; intro i o _ h; cases h) (by rw [hLfun]; exact hstart)
  refine hq a' w' ρ' (rel_of ?_) ?_
  · rw [h3, h4]; exact hr'
  · rw [h4]; exact hl'

end

end Go.Am

namespace Go.Am

def lookN : List (Nat × Nat) → Nat → Option Nat
  | [], _ => none
  | (j, k) :: l, i => bif Nat.beq j i then some k else lookN l i

def maskOf (acc : List (Nat × Nat)) : List Edge → Nat → Option Nat
  | [], k => some k
  | e :: l, k => bif Region.binds .any e then (match lookN acc e.on with
    | some m => maskOf acc l (k ||| m ||| 2 ^ e.on)
    | none => none) else maskOf acc l k

/-- What stands before each operation, directly or not, as bits. -/
def masks (ops : Array Oper) : List (Nat × Bool) → List (Nat × Nat) → Option (List (Nat × Nat))
  | [], acc => some acc
  | (i, _) :: l, acc => match ops[i]? with
    | some o => match maskOf acc o.after.toList 0 with
      | some k => masks ops l ((i, k) :: acc)
      | none => none
    | none => none

def bitB (M : List (Nat × Nat)) (f e : Nat) : Bool := match lookN M f with
  | some k => k.testBit e
  | none => false

def cP (Γ : Ctx) (ops : Array Oper) (p : Nat × Bool) : Nat := match ops[p.1]? with
  | some o => cls Γ o p.2
  | none => 9

def pairB (Γ : Ctx) (ops : Array Oper) (M : List (Nat × Nat)) (e f : Nat × Bool) : Bool :=
  !(Nat.beq e.1 f.1) && (bitB M f.1 e.1 || (match ops[e.1]?, ops[f.1]? with
    | some oe, some of => free (cls Γ oe e.2) (cls Γ of f.2) && oe.apart ops of
    | _, _ => false))

def pairsB (Γ : Ctx) (ops : Array Oper) (M : List (Nat × Nat)) : List (Nat × Bool) → Bool
  | [] => true
  | e :: l => l.all (pairB Γ ops M e) && pairsB Γ ops M l

def is2 (Γ : Ctx) (ops : Array Oper) (p : Nat × Bool) : Bool := Nat.beq (cP Γ ops p) 2

def alB (Γ : Ctx) (ops : Array Oper) (M : List (Nat × Nat)) (pi : List (Nat × Bool)) (e : Nat × Bool) : Bool :=
  !is2 Γ ops e || (match ops[e.1]? with
    | some o => o.guard.isNone && (match o.dst with
      | some d => pi.all fun f => Nat.beq f.1 e.1 || (match ops[f.1]? with
        | some of => (of.dst != some d) && (!(of.looksAt ops).contains d || pi.all fun g => !is2 Γ ops g || bitB M f.1 g.1)
        | none => false)
      | none => false)
    | none => false)

def orderB (Γ : Ctx) (ops : Array Oper) (pi : List (Nat × Bool)) : Bool :=
  match masks ops pi [] with
  | none => false
  | some M => Nat.ble pi.length ops.size && ((List.range ops.size).all fun i => pi.any fun p => Nat.beq p.1 i) && pairsB Γ ops M pi &&
    (((pi.dropWhile fun p => !is2 Γ ops p).dropWhile (is2 Γ ops)).all fun p => !is2 Γ ops p) && pi.all (alB Γ ops M pi)

section
variable {Γ : Ctx} {ops : Array Oper}

def MaskOk (ops : Array Oper) (acc : List (Nat × Nat)) : Prop := ∀ i k, lookN acc i = some k → ∀ j, k.testBit j = true → Bef ops i j

theorem lookN_some {acc : List (Nat × Nat)} {i k : Nat} (h : lookN acc i = some k) : ∃ j, (i, j) ∈ acc := by
  induction acc with
  | nil => cases h
  | cons p acc ih =>
    obtain ⟨a, b⟩ := p
    simp only [lookN] at h
    cases hb : Nat.beq a i with
    | true =>
      have := Nat.eq_of_beq_eq_true hb
      subst this
      exact ⟨b, List.mem_cons_self⟩
    | false =>
      rw [hb] at h
      obtain ⟨j, hj⟩ := ih h
      exact ⟨j, List.mem_cons_of_mem _ hj⟩

theorem maskOf_spec {acc : List (Nat × Nat)} (hacc : MaskOk ops acc) {i : Nat} {o : Oper} (ho : ops[i]? = some o) : ∀ (l : List Edge) (k k' : Nat), (∀ g ∈ l, g ∈ o.after) → maskOf acc l k = some k' →
    (∀ j, k.testBit j = true → Bef ops i j) → (∀ j, k'.testBit j = true → Bef ops i j) ∧ ∀ g ∈ l, Region.binds .any g = true → ∃ m, lookN acc g.on = some m
  | [], k, k', _, h, hk => by
    simp only [maskOf, Option.some.injEq] at h
    subst h
    exact ⟨hk, fun g hg => by cases hg⟩
  | e :: l, k, k', hl, h, hk => by
    simp only [maskOf] at h
    have hdir : Region.binds .any e = true → Bef ops i e.on := fun hb L hL hi => hL i o ho hi e (hl e List.mem_cons_self) hb
    cases hb : Region.binds .any e with
    | false =>
      rw [hb] at h
      obtain ⟨h1, h2⟩ := maskOf_spec hacc ho l k k' (fun g hg => hl g (List.mem_cons_of_mem _ hg)) h hk
      refine ⟨h1, fun g hg hgb => ?_⟩
      rcases List.mem_cons.mp hg with rfl | hg
      · rw [hb] at hgb; cases hgb
      · exact h2 g hg hgb
    | true =>
      rw [hb] at h
      simp only [cond_true] at h
      split at h
      · rename_i m hm
        obtain ⟨h1, h2⟩ := maskOf_spec hacc ho l _ k' (fun g hg => hl g (List.mem_cons_of_mem _ hg)) h (fun j hj => by
          simp only [Nat.testBit_or, Bool.or_eq_true] at hj
          rcases hj with (hj | hj) | hj
          · exact hk j hj
          · exact fun L hL hi => hacc e.on m hm j hj L hL (hdir hb L hL hi)
          · rw [Nat.testBit_two_pow] at hj
            have : e.on = j := by simpa using hj
            subst this
            exact hdir hb)
        refine ⟨h1, fun g hg hgb => ?_⟩
        rcases List.mem_cons.mp hg with rfl | hg
        · exact ⟨m, hm⟩
        · exact h2 g hg hgb
      · cases h

theorem masks_spec : ∀ (pi : List (Nat × Bool)) (acc M : List (Nat × Nat)), MaskOk ops acc → masks ops pi acc = some M → MaskOk ops M ∧
    ∀ l1 p l2, pi = l1 ++ p :: l2 → ∀ o, ops[p.1]? = some o → ∀ g ∈ o.after, Region.binds .any g = true → (∃ m, lookN acc g.on = some m) ∨ ∃ q ∈ l1, q.1 = g.on
  | [], acc, M, hacc, h => by
    simp only [masks, Option.some.injEq] at h
    subst h
    exact ⟨hacc, fun l1 p l2 he => by simp at he⟩
  | (i, b) :: pi, acc, M, hacc, h => by
    unfold masks at h
    split at h
    · rename_i o ho
      split at h
      · rename_i k hk
        obtain ⟨h1, h2⟩ := maskOf_spec hacc ho o.after.toList 0 k (fun g hg => Array.mem_toList_iff.mp hg) hk (fun j hj => by simp at hj)
        have hacc' : MaskOk ops ((i, k) :: acc) := by
          intro i' k' hlk j hj
          simp only [lookN] at hlk
          cases hb : Nat.beq i i' with
          | true =>
            rw [hb] at hlk
            simp only [cond_true, Option.some.injEq] at hlk
            have := Nat.eq_of_beq_eq_true hb
            subst this; subst hlk
            exact h1 j hj
          | false =>
            rw [hb] at hlk
            exact hacc i' k' hlk j hj
        obtain ⟨h3, h4⟩ := masks_spec pi _ M hacc' h
        refine ⟨h3, fun l1 p l2 he o' ho' g hg hb => ?_⟩
        cases l1 with
        | nil =>
          simp only [List.nil_append, List.cons.injEq] at he
          obtain ⟨rfl, rfl⟩ := he
          rw [ho] at ho'
          simp only [Option.some.injEq] at ho'
          subst ho'
          exact .inl (h2 g (Array.mem_toList_iff.mpr hg) hb)
        | cons q l1 =>
          simp only [List.cons_append, List.cons.injEq] at he
          obtain ⟨rfl, he⟩ := he
          rcases h4 l1 p l2 he o' ho' g hg hb with ⟨m, hm⟩ | ⟨q', hq', hqe⟩
          · simp only [lookN] at hm
            cases hbq : Nat.beq i g.on with
            | true => exact .inr ⟨_, List.mem_cons_self, Nat.eq_of_beq_eq_true hbq⟩
            | false => rw [hbq] at hm; exact .inl ⟨m, hm⟩
          · exact .inr ⟨q', List.mem_cons_of_mem _ hq', hqe⟩
      · cases h
    · cases h

theorem bitB_spec {M : List (Nat × Nat)} (hM : MaskOk ops M) {f e : Nat} (h : bitB M f e = true) : Bef ops f e := by
  unfold bitB at h
  split at h
  · rename_i k hk; exact hM f k hk e h
  · cases h

theorem pairsB_spec {M : List (Nat × Nat)} : ∀ {pi : List (Nat × Bool)}, pairsB Γ ops M pi = true → pi.Pairwise fun e f => pairB Γ ops M e f = true
  | [], _ => .nil
  | e :: l, h => by
    simp only [pairsB, Bool.and_eq_true, List.all_eq_true] at h
    exact .cons h.1 (pairsB_spec h.2)

theorem order_of {pi : List (Nat × Bool)} (h : orderB Γ ops pi = true) (T : List Ent) (hT : T.map (fun e => (e.i, e.wk)) = pi) : Order Γ ops T := by
  unfold orderB at h
  split at h
  · cases h
  · rename_i M hM
    simp only [Bool.and_eq_true, List.all_eq_true, List.any_eq_true, List.mem_range] at h
    obtain ⟨⟨⟨⟨hlen, hall⟩, hpair⟩, hgrp⟩, hal⟩ := h
    obtain ⟨hMok, htopo⟩ := masks_spec pi [] M (fun i k hk => by cases hk) hM
    have hpw := pairsB_spec hpair
    rw [← hT, List.pairwise_map] at hpw
    have hcE : ∀ e : Ent, cE Γ ops e = cP Γ ops (e.i, e.wk) := fun _ => rfl
    have h2 : ∀ p : Nat × Bool, is2 Γ ops p = true ↔ cP Γ ops p = 2 := fun p => ⟨fun h => Nat.eq_of_beq_eq_true h, fun h => by simp [is2, h]⟩
    have h2e : ∀ e : Ent, cE Γ ops e = 2 → is2 Γ ops (e.i, e.wk) = true := fun e h => (h2 (e.i, e.wk)).mpr h
    have hmem : ∀ {p : Nat × Bool}, p ∈ pi → ∃ e ∈ T, (e.i, e.wk) = p := by
      intro p hp
      rw [← hT] at hp
      simpa using hp
    have hmem' : ∀ {e : Ent}, e ∈ T → (e.i, e.wk) ∈ pi := by
      intro e he
      rw [← hT]
      exact List.mem_map.mpr ⟨e, he, rfl⟩
    refine
      { dis := hpw.imp fun {e f} h => ?_
        len := by rw [← hT] at hlen; simpa using Nat.le_of_ble_eq_true hlen
        all := fun i hi => ?_
        topo := fun T1 e T2 hsplit o ho g hg hb => ?_
        pair := hpw.imp fun {e f} h => ?_
        grp := ?_
        al := fun e he hc => ?_ }
    · simp only [pairB, Bool.and_eq_true, Bool.not_eq_true'] at h
      exact fun heq => by rw [heq] at h; simp at h
    · obtain ⟨p, hp, hpi⟩ := hall i hi
      obtain ⟨e, he, rfl⟩ := hmem hp
      exact ⟨e, he, Nat.eq_of_beq_eq_true hpi⟩
    · rcases htopo (T1.map fun e => (e.i, e.wk)) (e.i, e.wk) (T2.map fun e => (e.i, e.wk)) (by rw [← hT, hsplit]; simp) o ho g hg hb with ⟨m, hm⟩ | ⟨q, hq, hqe⟩
      · cases hm
      · simp only [List.mem_map] at hq
        obtain ⟨f, hf, rfl⟩ := hq
        exact ⟨f, hf, hqe⟩
    · simp only [pairB, Bool.and_eq_true, Bool.or_eq_true] at h
      rcases h.2 with h | h
      · exact .inl (bitB_spec hMok h)
      · split at h
        · rename_i oe of hoe hof
          simp only [Bool.and_eq_true] at h
          refine .inr ⟨oe, of, hoe, hof, h.2, ?_⟩
          rw [hcE, hcE]
          simp only [cP, hoe, hof]
          exact h.1
        · cases h
    · refine ⟨T.takeWhile (fun e => !is2 Γ ops (e.i, e.wk)), (T.dropWhile (fun e => !is2 Γ ops (e.i, e.wk))).takeWhile (fun e => is2 Γ ops (e.i, e.wk)), (T.dropWhile (fun e => !is2 Γ ops (e.i, e.wk))).dropWhile (fun e => is2 Γ ops (e.i, e.wk)), ?_, fun e he hc => ?_, fun e he => ?_, fun e he hc => ?_⟩
      · rw [List.takeWhile_append_dropWhile, List.takeWhile_append_dropWhile]
      · have h1 := List.all_takeWhile (p := fun e : Ent => !is2 Γ ops (e.i, e.wk)) (l := T)
        have := List.all_eq_true.mp h1 e he
        rw [h2e e hc] at this
        cases this
      · have h1 := List.all_takeWhile (p := fun e : Ent => is2 Γ ops (e.i, e.wk)) (l := T.dropWhile fun e => !is2 Γ ops (e.i, e.wk))
        exact (h2 _).mp (List.all_eq_true.mp h1 e he)
      · have h3 : (e.i, e.wk) ∈ (pi.dropWhile fun p => !is2 Γ ops p).dropWhile (is2 Γ ops) := by
          rw [← hT, List.dropWhile_map, List.dropWhile_map]
          exact List.mem_map.mpr ⟨e, he, rfl⟩
        have := hgrp _ h3
        rw [h2e e hc] at this
        cases this
    · have h1 := hal _ (hmem' he)
      simp only [alB, h2e e hc, Bool.not_true, Bool.false_or] at h1
      split at h1
      · rename_i o ho
        simp only [Bool.and_eq_true, Option.isNone_iff_eq_none] at h1
        obtain ⟨hg, h1⟩ := h1
        split at h1
        · rename_i d hd
          refine ⟨o, d, ho, hg, hd, fun f hf hne => ?_⟩
          have h3 := List.all_eq_true.mp h1 _ (hmem' hf)
          simp only [Bool.or_eq_true] at h3
          rcases h3 with h3 | h3
          · exact absurd (Nat.eq_of_beq_eq_true h3) hne
          · split at h3
            · rename_i of hof
              simp only [Bool.and_eq_true, Bool.or_eq_true, Bool.not_eq_true', List.all_eq_true, bne_iff_ne] at h3
              refine ⟨by simpa [dstOf, hof] using h3.1, fun of' hof' hlook g hg' hgc => ?_⟩
              rw [hof] at hof'
              simp only [Option.some.injEq] at hof'
              subst hof'
              rcases h3.2 with h4 | h4
              · have : (of.looksAt ops).contains d = true := by simpa using hlook
                rw [h4] at this; cases this
              · have h5 := h4 _ (hmem' hg')
                simp only [h2e g hgc, Bool.true_eq_false, false_or] at h5
                exact bitB_spec hMok h5
            · cases h3
        · cases h1
      · cases h1

/-- A look at all the regions of a code. -/
def codeB (Γ : Ctx) (f : FuncId) : Code → Bool
  | .region id ops draw => bif draw then (match Γ.rk f id with
    | some pi => orderB Γ ops pi
    | none => true) else true
  | .seq a b => codeB Γ f a && codeB Γ f b
  | .cond _ a b => codeB Γ f a && codeB Γ f b
  | .block _ a | .loop a | .scope a => codeB Γ f a
  | _ => true

theorem code_ok (ok : Γ.TyOk) (hm : Γ.P.follows .mixedOrders = true) {f : FuncId} : ∀ c : Code, codeB Γ f c = true → CodeOk Γ f c
  | .region id ops draw, h => by
    intro hd
    subst hd
    simp only [codeB, cond_true] at h
    intro cf hcf hin s s' hs O ρ w a Q hr hq
    simp only [region, if_true] at hs
    cases hk : Γ.rk f id with
    | none => rw [hk] at hs; cases hs
    | some pi =>
      rw [hk] at h hs
      exact region_any ok hm hcf hin hs (fun T hT => order_of h T hT) hr hq
  | .seq a b, h => by
    simp only [codeB, Bool.and_eq_true] at h
    exact ⟨code_ok ok hm a h.1, code_ok ok hm b h.2⟩
  | .cond _ a b, h => by
    simp only [codeB, Bool.and_eq_true] at h
    exact ⟨code_ok ok hm a h.1, code_ok ok hm b h.2⟩
  | .block _ a, h => code_ok ok hm a h
  | .loop a, h => code_ok ok hm a h
  | .scope a, h => code_ok ok hm a h
  | .skip, _ => trivial
  | .rangeFunc .., _ => trivial
  | .exit _, _ => trivial
  | .label _, _ => trivial
  | .goto _, _ => trivial
  | .ret, _ => trivial
  | .refuse _, _ => trivial

end

end Go.Am

namespace Go.Am

def fnB (Γ : Ctx) (g : FuncId) (fn : Func) : Bool := !(fn.name == "runtime.NumGoroutine") && (match fn.body with
  | some c => codeB Γ g c
  | none => true)

def FnOk (Γ : Ctx) (g : FuncId) (fn : Func) : Prop := Γ.P.funcs[g]? = some fn ∧ (fn.name == "runtime.NumGoroutine") = false ∧ ∀ c, fn.body = some c → CodeOk Γ g c

theorem fn_ok {Γ : Ctx} (ok : Γ.TyOk) (hm : Γ.P.follows .mixedOrders = true) {g : FuncId} {fn : Func} (h1 : Γ.P.funcs[g]? = some fn) (h2 : fnB Γ g fn = true) : FnOk Γ g fn := by
  unfold fnB at h2
  simp only [Bool.and_eq_true, Bool.not_eq_true'] at h2
  refine ⟨h1, h2.1, fun c hc => code_ok ok hm c ?_⟩
  rw [hc] at h2
  exact h2.2

end Go.Am
