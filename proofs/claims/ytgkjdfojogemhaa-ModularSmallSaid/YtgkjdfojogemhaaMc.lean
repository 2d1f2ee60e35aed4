/-
  The machine's operations give what the model's give. Conditions: none.
-/
import Derived.Test.YtgkjdfojogemhaaMb
import Derived.Laws.BytesString
import Derived.Laws.MakeOwn
import Derived.Laws.AppendOwn
set_option linter.unusedSimpArgs false
set_option linter.unusedVariables false
namespace Go.Am

section
variable {O : Nat → Prop} {Γ : Ctx} {ρ : Nat → Nat × Nat} {m : Mem} {w : World} {t : List AV} {e : Operand → Value} {o : Oper}

theorem opt_some {A : Nat → Prop} {q : Option Operand} (h : ∀ x, q = some x → RV A ρ m w (evalA t x) (e x)) : ∀ x, q.map (evalA t) = some x → ∃ v, q.map e = some v ∧ RV A ρ m w x v := by
  intro x hx
  cases q with
  | none => cases hx
  | some y => simp only [Option.map_some, Option.some.injEq] at hx; subst hx; exact ⟨_, rfl, h y rfl⟩

theorem opt_none {q : Option Operand} : q.map (evalA t) = none → q.map e = none := by
  intro h; cases q <;> simp_all

theorem opt_isSome {q : Option Operand} : (q.map e).isSome = (q.map (evalA t)).isSome := by cases q <;> rfl

theorem op_slice (ok : Γ.TyOk) (hm : MemInv O ρ m w) {ty : TypeId} {x : Operand} {lo hi mx : Option Operand} (ho : o.op = .slice ty x lo hi mx) (hx : RV (Av O ρ m) ρ m w (evalA t x) (e x))
    (hlo : ∀ x, lo = some x → RV (Av O ρ m) ρ m w (evalA t x) (e x)) (hhi : ∀ x, hi = some x → RV (Av O ρ m) ρ m w (evalA t x) (e x)) (hmx : ∀ x, mx = some x → RV (Av O ρ m) ρ m w (evalA t x) (e x))
    {r : AV} (hr : sliceA Γ ty m (evalA t x) (lo.map (evalA t)) (hi.map (evalA t)) (mx.map (evalA t)) = some r) : Gives O Γ.P ρ m w (execOp e o) r m := by
  have bnd := fun (isSlice : Bool) (len most cap' : Nat) (cap : Option Nat) (h1 : len ≤ most) (h2 : most ≤ cap') (h3 : ∀ c, cap = some c → cap' = c) (l h : Nat) (c : Option Nat)
    (hb : bounds len most cap (lo.map (evalA t)) (hi.map (evalA t)) (mx.map (evalA t)) = some (l, h, c)) =>
    bounds_run (P := Γ.P) (w := w) (ρ := ρ) (m := m) isSlice len most cap' cap h1 h2 h3 (opt_some hlo) opt_none (opt_some hhi) opt_none (opt_some hmx) opt_none hb
  unfold sliceA at hr
  split at hr
  · -- an array's address
    rename_i n el _ _ _ _ _ hty
    have hI := ok.ty ty _ hty
    have hu := hI.array rfl
    split at hr
    · rename_i h g off i hxe hel
      have hJ := ok.ty el i hel
      split at hr
      · rename_i cs hrow
        split at hr
        · cases hr
        · rename_i hs0
          split at hr
          · rename_i hle
            split at hr
            · rename_i l rr c hb
              rw [hxe] at hx
              obtain ⟨hv, hg⟩ := rv_ptr hx (by rw [hrow]; rfl)
              obtain ⟨mm, h1, h2, h3, h4, h5, h6, _⟩ := bnd false n n n (some n) (Nat.le_refl _) (Nat.le_refl _) (fun c hc => by simpa using hc) l rr (some c) hb
              obtain ⟨hmc, hk⟩ := h6 c rfl
              subst hmc
              have hrun : (execOp e o).run Γ.P w = .ok (.value (.slice (some (if mm = l then ⟨(ρ h).1, (ρ h).2 + off, none⟩ else ⟨(ρ h).1, (ρ h).2 + off + l * i.size, none⟩)) (rr - l) (mm - l))) w := by
                simp only [execOp, ho, Instr.sliceAt, Sem.run_bind, run_underlying hu, Result.andThen_ok, hv, Instr.sureAddr, Sem.run_pure, h1, hJ.run_size, add_none]
              split at hr
              · rename_i hcl
                simp only [Option.some.injEq] at hr
                subst hr; subst hcl
                rw [if_pos rfl] at hrun
                have e1 : rr - mm = 0 := by omega
                rw [e1, Nat.sub_self] at hrun
                exact .same hm hrun (.d _ _ (.emp true _ 0 fun _ => rfl))
              · rename_i hcl
                simp only [Option.some.injEq] at hr
                subst hr
                rw [if_neg hcl] at hrun
                refine .same hm hrun (own_rv hg hrow ⟨mm - l, by rw [Nat.add_assoc], by omega, ?_, by omega, fun c hc => ?_, fun hc => by cases hc⟩)
                · have e1 : l * i.size + (rr - l) * i.size = rr * i.size := by rw [← Nat.add_mul]; congr 1; omega
                  have e2 : rr * i.size ≤ n * i.size := Nat.mul_le_mul_right _ (by omega)
                  omega
                · simp only [Option.some.injEq] at hc
                  subst hc
                  refine ⟨rfl, ?_⟩
                  have e1 : l * i.size + (mm - l) * i.size = mm * i.size := by rw [← Nat.add_mul]; congr 1; omega
                  have e2 : mm * i.size ≤ n * i.size := Nat.mul_le_mul_right _ (by omega)
                  omega
            · cases hr
          · cases hr
      · cases hr
    · cases hr
  · -- a slice
    rename_i el _ _ _ _ _ hty
    have hI := ok.ty ty _ hty
    have hu := hI.slice rfl
    split at hr
    · rename_i i hel
      have hJ := ok.ty el i hel
      have hrun : ∀ (a : Option Addr) (len cap l rr mm : Nat), e x = .slice a len cap → (Instr.sliceBounds true len cap (lo.map e) (hi.map e) (mx.map e)).run Γ.P w = .ok (l, rr, mm) w →
          (execOp e o).run Γ.P w = .ok (.value (.slice (if mm = l then a else a.map (·.add (l * i.size))) (rr - l) (mm - l))) w := by
        intro a len cap l rr mm he hb
        simp only [execOp, ho, Instr.sliceAt, Instr.slice, Sem.run_bind, run_underlying hu, Result.andThen_ok, he, hb, hJ.run_size, Sem.run_pure]
      split at hr
      · cases hr
      · rename_i hs0
        split at hr
        · -- nil
          rename_i hxe
          split at hr
          · rename_i q hq
            simp only [Option.some.injEq] at hr
            subst hr
            rw [hxe] at hx
            have hv := rv_v hx
            obtain ⟨l, rr, c⟩ := q
            obtain ⟨mm, h1, h2, h3, h4, h5, h6, h7⟩ := bnd true 0 0 0 (some 0) (Nat.le_refl _) (Nat.le_refl _) (fun c hc => by simpa using hc) l rr c hq
            have := hrun none 0 0 l rr mm hv h1
            have e1 : mm = l := by omega
            have e2 : rr - l = 0 := by omega
            rw [if_pos e1, e2, e1, Nat.sub_self] at this
            exact .same hm this (by rw [hxe]; exact .d _ _ (.v _))
          · cases hr
        · -- by value
          rename_i tt len cells hxe
          rw [hxe] at hx
          split at hr
          · rename_i hlen
            split at hr
            · rename_i l rr c hb
              generalize hv : e x = v at hx
              have hsl : ∃ a cap, v = .slice (some a) len cap ∧ len ≤ cap ∧ (tt = true → cap = len) ∧ (cells ≠ [] → ∃ us : Nat → Value, a.spot = none ∧ (∀ j, j < cells.length → w.cell? ⟨a.block, a.off + j, none⟩ = some (us j)) ∧ (∀ j (h : j < cells.length), RD (Av O ρ m) w (cells[j]'h) (us j)) ∧ ¬ Av O ρ m a.block ∧ a.block < w.heap.size) := by
                cases hx with
                | d _ _ hd =>
                  cases hd with
                  | emp _ a cap h0 => exact ⟨a, cap, rfl, Nat.zero_le _, h0, fun h => absurd rfl h⟩
                  | sl _ _ _ b o' cap us hc hrd hb hs hl ht => exact ⟨_, cap, rfl, hl, ht, fun _ => ⟨us, rfl, hc, hrd, hb, hs⟩⟩
              obtain ⟨a, cap, hv', hlc, htt, hcells⟩ := hsl
              subst hv'
              obtain ⟨mm, h1, h2, h3, h4, h5, h6, h7⟩ := bnd true len len cap (if tt then some len else none) (Nat.le_refl _) hlc (fun c hc => by
                cases ht : tt with
                | true => rw [ht] at hc; simp only [if_true, Option.some.injEq] at hc; rw [← hc]; exact htt ht
                | false => rw [ht] at hc; cases hc) l rr c hb
              have hrn := hrun (some a) len cap l rr mm hv h1
              have hcc : (c == some rr) = true → mm = rr := fun h => by
                have h := eq_of_beq h
                exact (h6 rr h).1
              split at hr
              · rename_i hlr
                simp only [Option.some.injEq] at hr
                subst hr
                subst hlr
                rw [Nat.sub_self] at hrn
                by_cases hml : mm = l
                · rw [if_pos hml] at hrn
                  refine .same hm hrn (.d _ _ (.emp _ a _ fun _ => by omega))
                · rw [if_neg hml] at hrn
                  refine .same hm hrn (.d _ _ (.emp _ _ _ fun h => absurd (hcc h) hml))
              · rename_i hlr
                simp only [Option.some.injEq] at hr
                subst hr
                have hml : mm ≠ l := by omega
                rw [if_neg hml] at hrn
                have hne : cells ≠ [] := fun h => by
                  rw [h] at hlen
                  have : 0 < len * i.size := Nat.mul_pos (by omega) (by omega)
                  simp at hlen; omega
                obtain ⟨us, hsp, hc, hrd, hna, hsz⟩ := hcells hne
                obtain ⟨ab, ao, asp⟩ := a
                simp only at hsp hc hna hsz
                subst hsp
                rw [Option.map_some, add_none] at hrn
                have e2 : rr * i.size ≤ len * i.size := Nat.mul_le_mul_right _ (by omega)
                have e3 : l * i.size + (rr - l) * i.size = rr * i.size := by rw [← Nat.add_mul]; congr 1; omega
                refine .same hm hrn (.d _ _ (.sl _ _ _ ab (ao + l * i.size) _ (fun j => us (l * i.size + j)) (fun j hj => ?_) (fun j hj => ?_) hna hsz (by omega) fun h => by have := hcc h; omega))
                · have hj' : l * i.size + j < cells.length := by simp at hj; omega
                  rw [Nat.add_assoc]
                  exact hc _ hj'
                · have hj' : l * i.size + j < cells.length := by simp at hj; omega
                  simp only [List.getElem_take, List.getElem_drop]
                  exact hrd _ hj'
            · cases hr
          · cases hr
        · -- a block's own
          rename_i h g off len el' cap hxe
          split at hr
          · rename_i cs hrow
            rw [hxe] at hx
            generalize hv : e x = v at hx
            obtain ⟨hg, cap', hv', hel0, hlen, hlc, hcs, hcn⟩ := rv_own hx hrow
            subst hv'
            split at hr
            · rename_i hcond
              obtain ⟨hei, _⟩ := hcond
              have hd : ∀ k, k ≤ (cs.length - off) / el' → off + k * el' ≤ cs.length := fun k hk => by
                have := Nat.mul_le_of_le_div _ _ _ hk
                have h0 : off ≤ cs.length := by omega
                omega
              have hmost : min ((cs.length - off) / el') (cap.getD cs.length) ≤ cap' := by
                cases hc : cap with
                | some c => have := (hcs c hc).1; simp only [Option.getD_some]; omega
                | none =>
                  have := (hcn hc).1
                  have h1 : (cs.length - off) / el' ≤ cap' := by
                    rw [Nat.div_le_iff_le_mul_add_pred hel0]
                    have : cs.length - off ≤ cap' * el' := by omega
                    rw [Nat.mul_comm] at this
                    omega
                  omega
              have hlm : len ≤ min ((cs.length - off) / el') (cap.getD cs.length) := by
                have h1 : len ≤ (cs.length - off) / el' := (Nat.le_div_iff_mul_le hel0).mpr (by omega)
                have h2 : len ≤ cap.getD cs.length := by
                  cases hc : cap with
                  | some c => have := (hcs c hc).1; simp only [Option.getD_some]; omega
                  | none =>
                    simp only [Option.getD_none]
                    have := Nat.le_mul_of_pos_right len hel0
                    omega
                omega
              have hbb := fun l rr c hb => bnd true len _ cap' cap hlm hmost (fun c hc => (hcs c hc).1) l rr c hb
              split at hr
              · rename_i l rr c hb
                obtain ⟨mm, h1, h2, h3, h4, h5, h6, _⟩ := hbb l rr (some c) hb
                obtain ⟨hmc, hk⟩ := h6 c rfl
                subst hmc
                have hrn := hrun _ len cap' l rr mm hv h1
                split at hr
                · rename_i hcl
                  simp only [Option.some.injEq] at hr
                  subst hr; subst hcl
                  rw [if_pos rfl] at hrn
                  have e1 : rr - mm = 0 := by omega
                  rw [e1, Nat.sub_self] at hrn
                  exact .same hm hrn (.d _ _ (.emp true _ 0 fun _ => rfl))
                · rename_i hcl
                  simp only [Option.some.injEq] at hr
                  subst hr
                  rw [if_neg hcl, Option.map_some, add_none] at hrn
                  have hmle : off + mm * el' ≤ cs.length := by
                    rcases hk with hk | hk
                    · exact hd mm (by omega)
                    · exact (hcs mm hk).2
                  have e3 : l * el' + (rr - l) * el' = rr * el' := by rw [← Nat.add_mul]; congr 1; omega
                  have e4 : l * el' + (mm - l) * el' = mm * el' := by rw [← Nat.add_mul]; congr 1; omega
                  have e5 : rr * el' ≤ mm * el' := Nat.mul_le_mul_right _ h3
                  rw [← hei] at hrn
                  refine .same hm hrn (own_rv hg hrow ⟨mm - l, by rw [Nat.add_assoc], hel0, by omega, by omega, fun c hc => ?_, fun hc => by cases hc⟩)
                  simp only [Option.some.injEq] at hc
                  subst hc
                  exact ⟨rfl, by omega⟩
              · rename_i l rr hb
                obtain ⟨mm, h1, h2, h3, h4, h5, _, h7⟩ := hbb l rr none hb
                obtain ⟨hmc, hcap⟩ := h7 rfl
                subst hmc
                have hrn := hrun _ len mm l rr mm hv h1
                split at hr
                · rename_i hlr
                  simp only [Option.some.injEq] at hr
                  subst hr; subst hlr
                  rw [Nat.sub_self] at hrn
                  by_cases hml : mm = l
                  · rw [if_pos hml] at hrn
                    exact .same hm hrn (.d _ _ (.emp false _ _ fun h => by cases h))
                  · rw [if_neg hml] at hrn
                    exact .same hm hrn (.d _ _ (.emp false _ _ fun h => by cases h))
                · rename_i hlr
                  simp only [Option.some.injEq] at hr
                  subst hr
                  rw [if_neg (by omega), Option.map_some, add_none] at hrn
                  have e3 : l * el' + (rr - l) * el' = rr * el' := by rw [← Nat.add_mul]; congr 1; omega
                  have e4 : l * el' + (mm - l) * el' = mm * el' := by rw [← Nat.add_mul]; congr 1; omega
                  have e5 := hd rr (by omega)
                  rw [← hei] at hrn
                  refine .same hm hrn (own_rv hg hrow ⟨mm - l, by rw [Nat.add_assoc], hel0, by omega, by omega, (fun c hc => by cases hc), fun _ => ⟨by have := (hcn hcap).1; omega, fun c E f hc => ?_⟩⟩)
                  have := (hcn hcap).2 c E f hc
                  omega
              · cases hr
            · cases hr
          · cases hr
        · cases hr
    · cases hr
  · -- a string
    rename_i _ _ _ _ _ hty
    have hI := ok.ty ty _ hty
    have hu := hI.str rfl
    split at hr
    · rename_i s hxe
      rw [hxe] at hx
      have hv := rv_v hx
      split at hr
      · cases hr
      · rename_i hmx0
        split at hr
        · rename_i l rr c hb
          simp only [Option.some.injEq] at hr
          subst hr
          have hmn : mx.map e = none := by cases mx <;> simp_all
          obtain ⟨mm, h1, _⟩ := bounds_run (P := Γ.P) (w := w) (ρ := ρ) (m := m) (A := Av O ρ m) false s.size s.size s.size none (Nat.le_refl _) (Nat.le_refl _) (fun c hc => by cases hc) (opt_some hlo) opt_none (opt_some hhi) opt_none
            (mx := none) (vm := none) (fun x hx => by cases hx) (fun _ => rfl) hb
          refine .same hm (v := .string (s.extract l rr)) ?_ (.d _ _ (.v _))
          simp only [execOp, ho, Instr.sliceAt, Instr.slice, Sem.run_bind, run_underlying hu, Result.andThen_ok, hv, hmn]
          simp [h1]
        · cases hr
    · cases hr
  · cases hr

end
end Go.Am

namespace Go.Am

section
variable {O : Nat → Prop} {Γ : Ctx} {ρ : Nat → Nat × Nat} {m : Mem} {w : World} {t : List AV} {e : Operand → Value} {o : Oper}

theorem run_builtin {P : Program} {c : Call} (ho : o.op = .call c) {b : Builtin} (hb : c.callee = .builtin b) :
    (execOp e o).run P w = (builtin b c.argTypes o.type (c.args.map fun | .const _ => true | _ => false) (c.args.map e)).run P w := by
  simp only [execOp, ho, resolve, hb, invoke, Sem.run_bind, Sem.run_pure, Result.andThen_ok]
  rfl

theorem args_one {c : Call} {x : Operand} (h : c.args.toList = [x]) : c.args = #[x] := by
  have : c.args = c.args.toList.toArray := by simp
  rw [this, h]

theorem args_two {c : Call} {x y : Operand} (h : c.args.toList = [x, y]) : c.args = #[x, y] := by
  have : c.args = c.args.toList.toArray := by simp
  rw [this, h]

theorem op_len (ok : Γ.TyOk) (hm : MemInv O ρ m w) {c : Call} (ho : o.op = .call c) (hb : c.callee = .builtin .len) {x : Operand} (ha : c.args.toList = [x]) (hx : RV (Av O ρ m) ρ m w (evalA t x) (e x))
    {ty : TypeId} (hty : c.argTypes[0]? = some ty) {n : Nat} (hn : lenA Γ ty m (evalA t x) = some n) : Gives O Γ.P ρ m w (execOp e o) (intA .i64 n) m := by
  refine .same hm (v := .int .i64 n) ?_ (rv_intA _ _ _)
  rw [run_builtin ho hb]
  have harg := args_one ha
  unfold lenA at hn
  split at hn
  · rename_i k el _ _ _ _ _ htt
    have hu := (ok.ty ty _ htt).array rfl
    simp only [Option.some.injEq] at hn
    subst hn
    simp [builtin, Builtin.len_, harg, hty, run_underlying hu, goInt]
  · rename_i _ _ _ _ _ htt
    have hu := (ok.ty ty _ htt).str rfl
    split at hn
    · rename_i s hxe
      simp only [Option.some.injEq] at hn
      subst hn
      rw [hxe] at hx
      simp [builtin, Builtin.len_, harg, hty, run_underlying hu, goInt, rv_v hx]
    · cases hn
  · rename_i el _ _ _ _ _ htt
    have hu := (ok.ty ty _ htt).slice rfl
    split at hn
    · rename_i tt len cells hxe
      simp only [Option.some.injEq] at hn
      subst hn
      rw [hxe] at hx
      generalize hv : e x = v at hx
      cases hx with
      | d _ _ hd => cases hd <;> simp [builtin, Builtin.len_, harg, hty, run_underlying hu, goInt, hv]
    · rename_i len cap hxe
      simp only [Option.some.injEq] at hn
      subst hn
      rw [hxe] at hx
      simp [builtin, Builtin.len_, harg, hty, run_underlying hu, goInt, rv_v hx]
    · rename_i h g off len el' cap hxe
      split at hn
      · rename_i hrow
        simp only [Option.some.injEq] at hn
        subst hn
        rw [hxe] at hx
        obtain ⟨cs, s, kid, hb'⟩ := row_some hrow
        obtain ⟨_, cap', hv, _⟩ := rv_own hx (by simp [row?, hb'] : row? m h g = some cs)
        simp [builtin, Builtin.len_, harg, hty, run_underlying hu, goInt, hv]
      · cases hn
    · cases hn
  · rename_i k el _ _ _ _ _ htt
    have hu := (ok.ty ty _ htt).map rfl
    split at hn
    · rename_i hxe
      simp only [Option.some.injEq] at hn
      subst hn
      rw [hxe] at hx
      simp [builtin, Builtin.len_, harg, hty, run_underlying hu, goInt, rv_v hx]
    · rename_i h g hxe
      split at hn
      · rename_i es g' hb'
        split at hn
        · rename_i hg
          subst hg
          simp only [Option.some.injEq] at hn
          subst hn
          rw [hxe] at hx
          generalize hv : e x = v at hx
          cases hx with
          | mp _ _ r hg hr =>
            have hr' := hr es hb'
            subst hr'
            obtain ⟨_, _, ces, kk, hc, hsz, _⟩ := hm.map h es g' hb'
            simp [builtin, Builtin.len_, harg, hty, run_underlying hu, goInt, hv, getObj, Sem.run, hc, hsz]
        · cases hn
      · cases hn
    · cases hn
  · cases hn

theorem intBin_run {A : Nat → Prop} {P : Program} {op : BinOp} {k : IntKind} {a b : Int} {ty : TypeId} {r : AV} (hne : op ≠ .shl ∧ op ≠ .shr) (h : intBin op k a b = some r) :
    ∃ v, (binOp op ty (.int k a) (.int k b)).run P w = .ok v w ∧ RV A ρ m w r v := by
  cases op <;> simp only [intBin] at h
  case add => simp only [Option.some.injEq] at h; subst h; exact ⟨_, by simp [binOp, Op.intArith], rv_intA _ _ _⟩
  case sub => simp only [Option.some.injEq] at h; subst h; exact ⟨_, by simp [binOp, Op.intArith], rv_intA _ _ _⟩
  case mul => simp only [Option.some.injEq] at h; subst h; exact ⟨_, by simp [binOp, Op.intArith], rv_intA _ _ _⟩
  case quo =>
    split at h
    · cases h
    · rename_i h0
      simp only [Option.some.injEq] at h; subst h; exact ⟨_, by simp [binOp, Op.intDiv, h0], rv_intA _ _ _⟩
  case rem =>
    split at h
    · cases h
    · rename_i h0
      simp only [Option.some.injEq] at h; subst h; exact ⟨_, by simp [binOp, Op.intDiv, h0], rv_intA _ _ _⟩
  case and => simp only [Option.some.injEq] at h; subst h; exact ⟨_, by simp only [binOp, ne_eq, not_true_eq_false, if_false, Op.intBits]; rfl, rv_intA _ _ _⟩
  case or => simp only [Option.some.injEq] at h; subst h; exact ⟨_, by simp only [binOp, ne_eq, not_true_eq_false, if_false, Op.intBits]; rfl, rv_intA _ _ _⟩
  case xor => simp only [Option.some.injEq] at h; subst h; exact ⟨_, by simp only [binOp, ne_eq, not_true_eq_false, if_false, Op.intBits]; rfl, rv_intA _ _ _⟩
  case andNot => simp only [Option.some.injEq] at h; subst h; exact ⟨_, by simp only [binOp, ne_eq, not_true_eq_false, if_false, Op.intBits]; rfl, rv_intA _ _ _⟩
  case eql => simp only [Option.some.injEq] at h; subst h; exact ⟨_, by simp [binOp, Op.intCmp], rv_boolA _ _⟩
  case neq => simp only [Option.some.injEq] at h; subst h; exact ⟨_, by simp [binOp, Op.intCmp], rv_boolA _ _⟩
  case lss => simp only [Option.some.injEq] at h; subst h; exact ⟨_, by simp only [binOp, ne_eq, not_true_eq_false, if_false, Op.intCmp]; rfl, rv_boolA _ _⟩
  case leq => simp only [Option.some.injEq] at h; subst h; exact ⟨_, by simp only [binOp, ne_eq, not_true_eq_false, if_false, Op.intCmp]; rfl, rv_boolA _ _⟩
  case gtr => simp only [Option.some.injEq] at h; subst h; exact ⟨_, by simp only [binOp, ne_eq, not_true_eq_false, if_false, Op.intCmp]; rfl, rv_boolA _ _⟩
  case geq => simp only [Option.some.injEq] at h; subst h; exact ⟨_, by simp only [binOp, ne_eq, not_true_eq_false, if_false, Op.intCmp]; rfl, rv_boolA _ _⟩
  case shl => exact absurd rfl hne.1
  case shr => exact absurd rfl hne.2

theorem shiftA_run {A : Nat → Prop} {P : Program} {op : BinOp} {k k' : IntKind} {a b : Int} {ty : TypeId} {r : AV} (hop : op = .shl ∨ op = .shr) (h : shiftA op k a b = some r) :
    ∃ v, (binOp op ty (.int k a) (.int k' b)).run P w = .ok v w ∧ RV A ρ m w r v := by
  unfold shiftA at h
  split at h
  · cases h
  · rename_i h0
    rcases hop with rfl | rfl
    · simp only [Option.some.injEq] at h; subst h
      exact ⟨_, by simp only [binOp, Op.shift]; rw [if_neg h0]; rfl, rv_intA _ _ _⟩
    · simp only [Option.some.injEq] at h; subst h
      exact ⟨_, by simp only [binOp, Op.shift]; rw [if_neg h0]; rfl, rv_intA _ _ _⟩

/-- No guard on '==' where the operands are no interface values and no aggregates. -/
theorem eqGuard_plain {P : Program} {op : BinOp} {ty : TypeId} {x y : Operand} {a b : Value} (ha : (∀ cs, a ≠ .agg cs) ∧ a ≠ .nilIface) : (eqGuard op ty x y a b).run P w = .ok () w := by
  unfold eqGuard
  cases a <;> first
    | exact absurd rfl ha.2
    | exact absurd rfl (ha.1 _)
    | (simp only []; split <;> rfl)

theorem run_binOp {P : Program} {op : BinOp} {ty ty2 : TypeId} {x y : Operand} (ho : o.op = .binOp op ty x y ty2) {v : Value} (hg : (eqGuard op ty x y (e x) (e y)).run P w = .ok () w)
    (h : (binOp op ty (e x) (e y)).run P w = .ok v w) : (execOp e o).run P w = .ok (.value v) w := by
  simp [execOp, ho, hg, h]

end
end Go.Am

namespace Go.Am

theorem pureRun_run {P : Program} {α : Type} : ∀ (s : Sem α) (a : α), pureRun P s = some a → ∀ w, s.run P w = .ok a w
  | .pure a, b, h, w => by simp only [pureRun, Option.some.injEq] at h; subst h; rfl
  | .program k, b, h, w => by simp only [pureRun] at h; exact pureRun_run (k P) b h w
  | .mark _ k, b, h, w => by simp only [pureRun] at h; exact pureRun_run k b h w
  | .load .., _, h, _ => by cases h
  | .store .., _, h, _ => by cases h
  | .new .., _, h, _ => by cases h
  | .shape .., _, h, _ => by cases h
  | .freeze .., _, h, _ => by cases h
  | .frozen .., _, h, _ => by cases h
  | .getObj .., _, h, _ => by cases h
  | .setObj .., _, h, _ => by cases h
  | .choose .., _, h, _ => by cases h
  | .sys .., _, h, _ => by cases h
  | .halt .., _, h, _ => by cases h

section
variable {O : Nat → Prop} {Γ : Ctx} {ρ : Nat → Nat × Nat} {m : Mem} {w : World} {t : List AV} {e : Operand → Value} {o : Oper}

theorem eqCells_len : ∀ {xs ys : List AV} {b : Bool}, eqCells xs ys = some b → xs.length = ys.length
  | [], [], _, _ => rfl
  | [], _ :: _, _, h => by cases h
  | x :: l, [], _, h => by cases x <;> first | (cases h; done) | (rename_i d; cases d <;> cases h)
  | x :: l, y :: r, b, h => by
    cases x with
    | d x => cases x with
      | v x => cases y with
        | d y => cases y with
          | v y =>
            simp only [eqCells] at h
            split at h
            · rename_i _ _ _ h2; simp only [List.length_cons, eqCells_len h2]
            · cases h
          | sl => cases h
        | _ => cases h
      | sl => cases h
    | _ => cases h

theorem eqCells_cons {x y : AV} {l r : List AV} {b : Bool} (h : eqCells (x :: l) (y :: r) = some b) : ∃ u v p q, x = .d (.v u) ∧ y = .d (.v v) ∧ eqCell u v = some p ∧ eqCells l r = some q ∧ b = (p && q) := by
  cases x with
  | d x => cases x with
    | v x => cases y with
      | d y => cases y with
        | v y =>
          simp only [eqCells] at h
          split at h
          · rename_i p q h1 h2
            simp only [Option.some.injEq] at h
            exact ⟨x, y, p, q, rfl, rfl, h1, h2, h.symm⟩
          · cases h
        | sl => cases h
      | _ => cases h
    | sl => cases h
  | _ => cases h

/-- The loop over two arrays of integers. -/
theorem eq_loop {P : Program} (d : Nat) (el : TypeId) {k0 : IntKind} (hu : P.underlying el = some (.int k0)) (hd : ∀ k a c, (Op.equalIn d el (.int k a) (.int k c)).run P w = .ok (a == c) w) (xs ys : Array Value) : ∀ (n i : Nat) (as bs : List AV) (b : Bool), as.length = n → eqCells as bs = some b →
    (∀ j (x : Value), as[j]? = some (.d (.v x)) → xs[i + j]? = some x) → (∀ j (y : Value), bs[j]? = some (.d (.v y)) → ys[i + j]? = some y) →
    (forIn (m := Sem) (List.range' i n) ((none, ()) : Option Bool × Unit) fun i _ => do
      let a ← part el xs (i * 1)
      let c ← part el ys (i * 1)
      if (!(← Op.equalIn d el a c)) = true then pure (ForInStep.done (some false, ())) else pure (ForInStep.yield (none, ()))).run P w =
      .ok (if b then (none, ()) else (some false, ())) w
  | 0, i, as, bs, b, hl, he, _, _ => by
    have ha : as = [] := List.length_eq_zero_iff.mp hl
    subst ha
    have hb : bs = [] := List.length_eq_zero_iff.mp (eqCells_len he).symm
    subst hb
    simp only [eqCells, Option.some.injEq] at he
    subst he
    simp
  | n + 1, i, as, bs, b, hl, he, hx, hy => by
    match as, bs, hl with
    | x :: l, [], _ => exact absurd (eqCells_len he) (by simp)
    | x :: l, y :: r, hl =>
      obtain ⟨u, v, p, q, rfl, rfl, h1, h2, rfl⟩ := eqCells_cons he
      have hx0 := hx 0 u (by simp)
      have hy0 := hy 0 v (by simp)
      have hv : ∃ k a c, u = .int k a ∧ v = .int k c ∧ p = (a == c) := by
        cases u <;> cases v <;> simp only [eqCell, reduceCtorEq] at h1
        rename_i k a k' c
        split at h1
        · rename_i hkk
          subst hkk
          simp only [Option.some.injEq] at h1
          exact ⟨k, a, c, rfl, rfl, h1.symm⟩
        · cases h1
      obtain ⟨k, a, c, rfl, rfl, rfl⟩ := hv
      have ih := eq_loop d el hu hd xs ys n (i + 1) l r q (by simpa using hl) h2 (fun j x hj => by
        rw [← hx (j + 1) x (by simpa using hj)]; congr 1; omega) (fun j x hj => by
        rw [← hy (j + 1) x (by simpa using hj)]; congr 1; omega)
      simp only [Nat.add_zero] at hx0 hy0
      have hagg : (isAgg el).run P w = .ok false w := by simp [isAgg, run_underlying hu]
      have hpa : (part el xs (i * 1)).run P w = .ok (.int k a) w := by simp [part, hagg, hx0]
      have hpc : (part el ys (i * 1)).run P w = .ok (.int k c) w := by simp [part, hagg, hy0]
      rw [List.range'_succ, List.forIn_cons]
      simp only [Sem.run_bind, hpa, hpc, Result.andThen_ok, hd]
      cases hac : (a == c) with
      | true =>
        simp only [Bool.not_true, Bool.false_eq_true, if_false, Sem.run_pure, Result.andThen_ok, Bool.true_and]
        exact ih
      | false => simp

theorem equalIn_array {P : Program} (d : Nat) {ty el : TypeId} {n : Nat} (ht : P.underlying ty = some (.array n el)) {k0 : IntKind} (hu : P.underlying el = some (.int k0)) (hs : (sizeOf el).run P w = .ok 1 w)
    (hd : ∀ k a c, (Op.equalIn d el (.int k a) (.int k c)).run P w = .ok (a == c) w) (xs ys : Array Value) (as bs : List AV) (b : Bool) (hl : as.length = n) (he : eqCells as bs = some b)
    (hx : ∀ (j : Nat) (x : Value), as[j]? = some (.d (.v x)) → xs[j]? = some x) (hy : ∀ (j : Nat) (y : Value), bs[j]? = some (.d (.v y)) → ys[j]? = some y) :
    (Op.equalIn (d + 1) ty (.agg xs) (.agg ys)).run P w = .ok b w := by
  have hloop := eq_loop (w := w) d el hu hd xs ys n 0 as bs b hl he (fun j x hj => by rw [Nat.zero_add]; exact hx j x hj) (fun j x hj => by rw [Nat.zero_add]; exact hy j x hj)
  simp only [Op.equalIn, Sem.run_bind, run_underlying ht, Result.andThen_ok, hs]
  rw [Std.Legacy.Range.forIn_eq_forIn_range']
  simp only [Std.Legacy.Range.size, Nat.sub_zero, Nat.add_sub_cancel, Nat.div_one]
  rw [hloop]
  cases b <;> simp

theorem equalIn_slice_nil {P : Program} (d : Nat) {ty el : TypeId} (ht : P.underlying ty = some (.slice el)) (a : Option Addr) (n c n' c' : Nat) :
    (Op.equalIn (d + 1) ty (.slice a n c) (.slice none n' c')).run P w = .ok a.isNone w := by
  cases a <;> simp [Op.equalIn, run_underlying ht]

theorem run_eql_nil {P : Program} {ty el : TypeId} (ht : P.underlying ty = some (.slice el)) (a : Option Addr) (n c n' c' : Nat) :
    (binOp .eql ty (.slice a n c) (.slice none n' c')).run P w = .ok (.bool a.isNone) w := by
  simp only [binOp]
  simp only [Op.equal, Op.maxDepth, Sem.run_bind, equalIn_slice_nil 9999 ht, Result.andThen_ok, Sem.run_pure]

theorem run_neq_nil {P : Program} {ty el : TypeId} (ht : P.underlying ty = some (.slice el)) (a : Option Addr) (n c n' c' : Nat) :
    (binOp .neq ty (.slice a n c) (.slice none n' c')).run P w = .ok (.bool !a.isNone) w := by
  simp only [binOp]
  simp only [Op.equal, Op.maxDepth, Sem.run_bind, equalIn_slice_nil 9999 ht, Result.andThen_ok, Sem.run_pure]

theorem binA_sound (ok : Γ.TyOk) {x y : Operand} {op : BinOp} {ty ty2 : TypeId} (hx : RV (Av O ρ m) ρ m w (evalA t x) (e x)) (hy : RV (Av O ρ m) ρ m w (evalA t y) (e y))
    (ho : o.op = .binOp op ty x y ty2) {r : AV} (hr : binA Γ m op ty (evalA t x) (evalA t y) = some r) : ∃ v, (execOp e o).run Γ.P w = .ok (.value v) w ∧ RV (Av O ρ m) ρ m w r v := by
  unfold binA at hr
  split at hr
  · -- integers
    rename_i k a k' b hxe hye
    rw [hxe] at hx; rw [hye] at hy
    have hv := rv_v hx
    have hv' := rv_v hy
    have hg : (eqGuard op ty x y (e x) (e y)).run Γ.P w = .ok () w := eqGuard_plain (by rw [hv]; simp)
    split at hr
    · obtain ⟨v, h1, h2⟩ := shiftA_run (A := Av O ρ m) (ρ := ρ) (m := m) (w := w) (P := Γ.P) (ty := ty) (k' := k') (.inl rfl) hr
      exact ⟨v, run_binOp ho hg (by rw [hv, hv']; exact h1), h2⟩
    · obtain ⟨v, h1, h2⟩ := shiftA_run (A := Av O ρ m) (ρ := ρ) (m := m) (w := w) (P := Γ.P) (ty := ty) (k' := k') (.inr rfl) hr
      exact ⟨v, run_binOp ho hg (by rw [hv, hv']; exact h1), h2⟩
    · rename_i hs1 hs2
      split at hr
      · rename_i hkk
        subst hkk
        obtain ⟨v, h1, h2⟩ := intBin_run (A := Av O ρ m) (ρ := ρ) (m := m) (w := w) (P := Γ.P) (ty := ty) ⟨fun h => hs1 h, fun h => hs2 h⟩ hr
        exact ⟨v, run_binOp ho hg (by rw [hv, hv']; exact h1), h2⟩
      · cases hr
  · -- bools
    rename_i a b hxe hye
    rw [hxe] at hx; rw [hye] at hy
    have hv := rv_v hx
    have hv' := rv_v hy
    have hg : (eqGuard op ty x y (e x) (e y)).run Γ.P w = .ok () w := eqGuard_plain (by rw [hv]; simp)
    split at hr
    · rename_i _ _ _ _ _ hty
      have hu := (ok.ty ty _ hty).bool rfl
      split at hr
      · simp only [Option.some.injEq] at hr; subst hr
        exact ⟨_, run_binOp ho hg (by rw [hv, hv']; simp [binOp, Op.equal, Op.maxDepth, run_equalIn_bool w 9999 ty a b hu]), rv_boolA _ _⟩
      · simp only [Option.some.injEq] at hr; subst hr
        exact ⟨_, run_binOp ho hg (by rw [hv, hv']; simp [binOp, Op.equal, Op.maxDepth, run_equalIn_bool w 9999 ty a b hu]), rv_boolA _ _⟩
      · cases hr
    · cases hr
  · -- strings
    rename_i a b hxe hye
    rw [hxe] at hx; rw [hye] at hy
    have hv := rv_v hx
    have hv' := rv_v hy
    have hg : (eqGuard op ty x y (e x) (e y)).run Γ.P w = .ok () w := eqGuard_plain (by rw [hv]; simp)
    cases hp : pureRun Γ.P (Op.stringOp op a b) with
    | none => rw [hp] at hr; cases hr
    | some v =>
      rw [hp] at hr
      simp only [Option.map_some, Option.some.injEq] at hr
      subst hr
      have h1 := pureRun_run _ _ hp w
      refine ⟨v, run_binOp ho hg ?_, .d _ _ (.v _)⟩
      rw [hv, hv']
      cases op <;> simpa [binOp] using h1
  · -- arrays
    rename_i xs ys hxe hye
    rw [hxe] at hx; rw [hye] at hy
    split at hr
    · rename_i kd agg size bytes zero hty
      have hI := ok.ty ty _ hty
      obtain ⟨n, el, k, j, hkd, hj, hjk, hsz, hj1⟩ := hI.flat rfl
      have hu := hI.array hkd
      have hJ := ok.ty el j hj
      have huj := hJ.int hjk
      split at hr
      · rename_i hlen
        simp only at hsz
        generalize hvx : e x = vx at hx
        generalize hvy : e y = vy at hy
        cases hx with
        | ag _ vs hl hrr =>
          cases hy with
          | ag _ us hl' hrr' =>
            have hgt : Γ.P.eqGuardType Γ.P.depth ty = false := by
              have hdep : Γ.P.depth = (2 * (Γ.P.types.size + Made.depth)) + 1 + 1 := rfl
              rw [hdep]
              simp only [Program.eqGuardType, hu, huj]
            have hg : (eqGuard op ty x y (e x) (e y)).run Γ.P w = .ok () w := by
              rw [hvx, hvy]; exact run_eqGuard_agg w op ty x y _ _ hgt
            have hcell : ∀ (zs : List AV) (ws : List Value), ws.length = zs.length → (∀ i (h : i < zs.length), RV (Av O ρ m) ρ m w (zs[i]'h) (ws.getD i undef)) → ∀ (i : Nat) (u : Value), zs[i]? = some (AV.d (.v u)) → ws[i]? = some u := by
              intro zs ws hlz hz i u hi
              obtain ⟨hi1, hi2⟩ := List.getElem?_eq_some_iff.mp hi
              have := hz i hi1
              rw [hi2] at this
              have := rv_v this
              rw [List.getD_eq_getElem?_getD, List.getElem?_eq_getElem (by omega), Option.getD_some] at this
              rw [List.getElem?_eq_getElem (by omega), this]
            have key : ∀ b, eqCells xs ys = some b → (Op.equalIn 10000 ty (.agg vs.toArray) (.agg us.toArray)).run Γ.P w = .ok b w := by
              intro b hb
              exact equalIn_array 9999 hu huj (by rw [hJ.run_size, hj1]) (fun k a c => run_equalIn_int w 9998 el k _ a c huj) vs.toArray us.toArray xs ys b (by omega) hb
                (fun i u hu => by simpa using hcell xs vs hl hrr i u hu) (fun i u hu => by simpa using hcell ys us hl' hrr' i u hu)
            split at hr
            · cases hq : eqCells xs ys with
              | none => rw [hq] at hr; cases hr
              | some b =>
                rw [hq] at hr
                simp only [Option.map_some, Option.some.injEq] at hr
                subst hr
                exact ⟨_, run_binOp ho hg (by rw [hvx, hvy, run_eql_struct, key b hq]; rfl), rv_boolA _ _⟩
            · cases hq : eqCells xs ys with
              | none => rw [hq] at hr; cases hr
              | some b =>
                rw [hq] at hr
                simp only [Option.map_some, Option.some.injEq] at hr
                subst hr
                exact ⟨_, run_binOp ho hg (by rw [hvx, hvy, run_neq_struct, key b hq]; rfl), rv_boolA _ _⟩
            · cases hr
      · cases hr
    · cases hr
  · -- against nil
    rename_i hye
    rw [hye] at hy
    have hv' := rv_v hy
    split at hr
    · rename_i el _ _ _ _ _ hty
      have hu := (ok.ty ty _ hty).slice rfl
      have key : ∀ (a : Addr) (n c : Nat), e x = .slice (some a) n c → (eqGuard op ty x y (e x) (e y)).run Γ.P w = .ok () w ∧ (binOp .eql ty (e x) (e y)).run Γ.P w = .ok (.bool false) w ∧ (binOp .neq ty (e x) (e y)).run Γ.P w = .ok (.bool true) w := by
        intro a n c hx
        refine ⟨eqGuard_plain (by rw [hx]; simp), by rw [hx, hv']; exact run_eql_nil hu _ _ _ _ _, by rw [hx, hv']; exact run_neq_nil hu _ _ _ _ _⟩
      split at hr
      · rename_i hxe
        simp only [Option.some.injEq] at hr; subst hr
        rw [hxe] at hx
        generalize hv : e x = v at hx
        cases hx with
        | d _ _ hd => cases hd <;> (obtain ⟨h1, h2, _⟩ := key _ _ _ hv; exact ⟨_, run_binOp ho h1 h2, rv_boolA _ _⟩)
      · rename_i hxe
        simp only [Option.some.injEq] at hr; subst hr
        rw [hxe] at hx
        generalize hv : e x = v at hx
        cases hx with
        | d _ _ hd => cases hd <;> (obtain ⟨h1, _, h2⟩ := key _ _ _ hv; exact ⟨_, run_binOp ho h1 h2, rv_boolA _ _⟩)
      · rename_i hxe
        simp only [Option.some.injEq] at hr; subst hr
        rw [hxe] at hx
        have hv := rv_v hx
        exact ⟨_, run_binOp ho (eqGuard_plain (by rw [hv]; simp)) (by rw [hv, hv']; exact run_eql_nil hu _ _ _ _ _), rv_boolA _ _⟩
      · rename_i hxe
        simp only [Option.some.injEq] at hr; subst hr
        rw [hxe] at hx
        have hv := rv_v hx
        exact ⟨_, run_binOp ho (eqGuard_plain (by rw [hv]; simp)) (by rw [hv, hv']; exact run_neq_nil hu _ _ _ _ _), rv_boolA _ _⟩
      · rename_i h g off len el' cap hxe
        split at hr
        · rename_i hrow
          simp only [Option.some.injEq] at hr; subst hr
          rw [hxe] at hx
          obtain ⟨cs, s, kid, hb'⟩ := row_some hrow
          obtain ⟨_, cap', hv, _⟩ := rv_own hx (by simp [row?, hb'] : row? m h g = some cs)
          obtain ⟨h1, h2, _⟩ := key _ _ _ hv; exact ⟨_, run_binOp ho h1 h2, rv_boolA _ _⟩
        · cases hr
      · rename_i h g off len el' cap hxe
        split at hr
        · rename_i hrow
          simp only [Option.some.injEq] at hr; subst hr
          rw [hxe] at hx
          obtain ⟨cs, s, kid, hb'⟩ := row_some hrow
          obtain ⟨_, cap', hv, _⟩ := rv_own hx (by simp [row?, hb'] : row? m h g = some cs)
          obtain ⟨h1, _, h2⟩ := key _ _ _ hv; exact ⟨_, run_binOp ho h1 h2, rv_boolA _ _⟩
        · cases hr
      · cases hr
    · cases hr
  · cases hr
end
end Go.Am

namespace Go.Am

section
variable {O : Nat → Prop} {Γ : Ctx} {ρ : Nat → Nat × Nat} {m : Mem} {w : World} {t : List AV} {e : Operand → Value} {o : Oper}

theorem op_unOp (hm : MemInv O ρ m w) {op : UnOp} {ty : TypeId} {x : Operand} (ho : o.op = .unOp op ty x) (hx : RV (Av O ρ m) ρ m w (evalA t x) (e x)) {r : AV} (hr : unA op (evalA t x) = some r) :
    Gives O Γ.P ρ m w (execOp e o) r m := by
  unfold unA at hr
  split at hr
  · rename_i k n hxe
    simp only [Option.some.injEq] at hr; subst hr
    rw [hxe] at hx
    exact .same hm (v := .int k (k.wrap (0 - n))) (by simp [execOp, ho, Op.unary, rv_v hx, Op.intArith]) (rv_intA _ _ _)
  · rename_i k n hxe
    simp only [Option.some.injEq] at hr; subst hr
    rw [hxe] at hx
    exact .same hm (v := .int k (k.wrap (BitVec.ofInt k.bits (if k.signed then -1 else k.max) ^^^ BitVec.ofInt k.bits n).toNat)) (by simp [execOp, ho, Op.unary, rv_v hx, Op.intBits]) (rv_intA _ _ _)
  · rename_i b hxe
    simp only [Option.some.injEq] at hr; subst hr
    rw [hxe] at hx
    exact .same hm (v := .bool !b) (by simp [execOp, ho, Op.unary, rv_v hx]) (rv_boolA _ _)
  · cases hr

theorem go_fold {P : Program} {A : Nat → Prop} (f : Int → Int → Int) (g : Value → Value → Sem Value) (hg : ∀ k x k' y, g (.int k x) (.int k' y) = .pure (.int k (f x y))) (k : IntKind) :
    ∀ (l : List AV) (vs : List Value) (n z : Int), foldInt.go f k n l = some z → vs.length = l.length → (∀ j (hj : j < l.length), RV A ρ m w (l[j]'hj) (vs.getD j undef)) →
      (vs.foldlM g (.int k n)).run P w = .ok (.int k z) w
  | [], vs, n, z, h, hl, _ => by
    obtain rfl : vs = [] := List.length_eq_zero_iff.mp hl
    simp only [foldInt.go, Option.some.injEq] at h
    subst h; rfl
  | x :: l, vs, n, z, h, hl, hv => by
    match vs, hl with
    | v :: vs, hl =>
      have h0 := hv 0 (by simp)
      simp only [List.getElem_cons_zero, List.getD_cons_zero] at h0
      unfold foldInt.go at h
      split at h
      · rename_i heq; cases heq
      · rename_i k' y l' heq
        simp only [List.cons.injEq] at heq
        obtain ⟨rfl, rfl⟩ := heq
        have := rv_v h0
        subst this
        simp only [List.foldlM_cons, hg]
        exact go_fold f g hg k l vs _ z h (by simpa using hl) fun j hj => by
          have := hv (j + 1) (by simp; omega)
          simpa using this
      · cases h

theorem fold_sound {P : Program} {A : Nat → Prop} (f : Int → Int → Int) (g : Value → Value → Sem Value) (hg : ∀ k x k' y, g (.int k x) (.int k' y) = .pure (.int k (f x y)))
    {l : List AV} {vs : List Value} {r : AV} (h : foldInt f l = some r) (hl : vs.length = l.length) (hv : ∀ j (hj : j < l.length), RV A ρ m w (l[j]'hj) (vs.getD j undef)) :
    ∃ x rest v, vs = x :: rest ∧ (rest.foldlM g x).run P w = .ok v w ∧ RV A ρ m w r v := by
  unfold foldInt at h
  split at h
  · rename_i k n l' 
    match vs, hl with
    | v :: vs, hl =>
      have h0 := hv 0 (by simp)
      simp only [List.getElem_cons_zero, List.getD_cons_zero] at h0
      have := rv_v h0
      subst this
      cases hz : foldInt.go f k n l' with
      | none => rw [hz] at h; cases h
      | some z =>
        rw [hz] at h
        simp only [Option.map_some, Option.some.injEq] at h
        subst h
        refine ⟨_, vs, .int k z, rfl, ?_, rv_intA _ _ _⟩
        exact go_fold f g hg k l' vs n z hz (by simpa using hl) fun j hj => by
          have := hv (j + 1) (by simp; omega)
          simpa using this
  · cases h

theorem args_rv {A : Nat → Prop} {c : Call} (hx : ∀ x ∈ c.args.toList, RV A ρ m w (evalA t x) (e x)) :
    (c.args.map e).toList.length = (c.args.toList.map (evalA t)).length ∧ ∀ j (hj : j < (c.args.toList.map (evalA t)).length), RV A ρ m w ((c.args.toList.map (evalA t))[j]'hj) ((c.args.map e).toList.getD j undef) := by
  refine ⟨by simp, fun j hj => ?_⟩
  simp only [List.length_map] at hj
  simp only [List.getElem_map]
  have : (c.args.map e).toList.getD j undef = e (c.args.toList[j]'hj) := by
    rw [List.getD_eq_getElem?_getD]
    simp only [Array.toList_map, List.getElem?_map, List.getElem?_eq_getElem hj, Option.map_some, Option.getD_some]
  rw [this]
  exact hx _ (List.getElem_mem hj)

theorem op_max (hm : MemInv O ρ m w) {c : Call} (ho : o.op = .call c) (hb : c.callee = .builtin .max) (hx : ∀ x ∈ c.args.toList, RV (Av O ρ m) ρ m w (evalA t x) (e x))
    {r : AV} (hr : foldInt (fun x y => if y > x then y else x) (c.args.toList.map (evalA t)) = some r) : Gives O Γ.P ρ m w (execOp e o) r m := by
  obtain ⟨h1, h2⟩ := args_rv hx
  obtain ⟨x, rest, v, h3, h4, h5⟩ := fold_sound (P := Γ.P) (w := w) (fun x y => if y > x then y else x) Builtin.max2 (fun _ _ _ _ => rfl) hr h1 h2
  refine .same hm (v := v) ?_ h5
  rw [run_builtin ho hb]
  simp only [builtin, Builtin.max_, h3, Sem.run_bind, h4, Result.andThen_ok, Sem.run_pure]

theorem op_min (hm : MemInv O ρ m w) {c : Call} (ho : o.op = .call c) (hb : c.callee = .builtin .min) (hx : ∀ x ∈ c.args.toList, RV (Av O ρ m) ρ m w (evalA t x) (e x))
    {r : AV} (hr : foldInt (fun x y => if y < x then y else x) (c.args.toList.map (evalA t)) = some r) : Gives O Γ.P ρ m w (execOp e o) r m := by
  obtain ⟨h1, h2⟩ := args_rv hx
  obtain ⟨x, rest, v, h3, h4, h5⟩ := fold_sound (P := Γ.P) (w := w) (fun x y => if y < x then y else x) Builtin.min2 (fun _ _ _ _ => rfl) hr h1 h2
  refine .same hm (v := v) ?_ h5
  rw [run_builtin ho hb]
  simp only [builtin, Builtin.min_, h3, Sem.run_bind, h4, Result.andThen_ok, Sem.run_pure]

theorem op_makeSlice (ok : Γ.TyOk) (hm : MemInv O ρ m w) {ty : TypeId} {x y : Operand} (ho : o.op = .makeSlice ty x y) (hx : RV (Av O ρ m) ρ m w (evalA t x) (e x)) (hy : RV (Av O ρ m) ρ m w (evalA t y) (e y))
    {el : TypeId} {i : TI} (hi : elemOf Γ ty = some (el, i)) {l c : Nat} (hl : natOf (evalA t x) = some l) (hc : natOf (evalA t y) = some c) (hs : i.size ≠ 0) (hle : l ≤ c ∧ c * i.bytes ≤ room ∧ c ≤ room) :
    Gives O Γ.P ρ m w (execOp e o) (.own m.b.length m.n 0 l i.size (some c)) (m.push (zerosA i c)) := by
  obtain ⟨hu, hI⟩ := elem_ok ok hi
  obtain ⟨k1, hv1⟩ := natOf_rv hx hl
  obtain ⟨k2, hv2⟩ := natOf_rv hy hc
  obtain ⟨inf, hinf, hsz, hby, hz⟩ := hI.typeInfo
  obtain ⟨h1, h2, h3⟩ := hle
  have hcr := zeros_cr (A := Av O ρ m) (ρ := ρ) (m := m) (w := w) hI hs c
  refine push_own hm _ _ el hcr l i.size c (by omega) h1 (by rw [zerosA_len, hI.zlen]; exact Nat.le_refl _) ?_
  simp only [Int.ofNat_eq_natCast] at hv1 hv2
  have hb : (inf.bytes : Int) * (c : Int) ≤ 281474976710656 := by
    have : (inf.bytes : Int) * (c : Int) = ((c * i.bytes : Nat) : Int) := by rw [hby]; push_cast; rw [Int.mul_comm]
    rw [this]
    unfold room at h2
    omega
  have := run_make (P := Γ.P) w ty el inf (zeroV i) hu hinf hz k1 k2 (l : Int) (c : Int) (by omega) (by omega) hb (by unfold room at h3; omega)
  simp only [Int.toNat_natCast, hsz, madeCells] at this
  simp only [execOp, ho, Sem.run_bind, hv1, hv2, this, Result.andThen_ok, Sem.run_pure]

theorem op_makeMap (ok : Γ.TyOk) (hm : MemInv O ρ m w) {ty : TypeId} {q : Option Operand} (ho : o.op = .makeMap ty q) (hq : ∀ x, q = some x → RV (Av O ρ m) ρ m w (evalA t x) (e x) ∧ ∃ k n, evalA t x = .d (.v (.int k n)) ∧ ∃ i kt et, Γ.ty ty = some i ∧ i.kd = .map kt et) :
    Gives O Γ.P ρ m w (execOp e o) (.mp m.b.length m.n) m.pushMap := by
  obtain ⟨h1, h2⟩ := pushMap hm
  refine ⟨.map (some w.heap.size), _, _, .inl ?_, ?_, h1, h2⟩
  · cases q with
    | none => simp [execOp, ho, Instr.makeMap, newObj, Sem.run]
    | some x =>
      obtain ⟨hx, k, n, hxe, i, kt, et, hi, hk⟩ := hq x rfl
      rw [hxe] at hx
      have hu := (ok.ty _ _ hi).map hk
      simp [execOp, ho, Instr.makeMap, newObj, Sem.run, run_underlying hu, rv_v hx, asInt, asIntOf]
  · refine .mp _ _ _ (by simp [Mem.pushMap]) fun es _ => ?_
    simp [upd_same]
end

end Go.Am

namespace Go.Am

section
variable {O : Nat → Prop} {Γ : Ctx} {ρ : Nat → Nat × Nat} {m : Mem} {w : World} {t : List AV} {e : Operand → Value} {o : Oper}

theorem bytesA_len : ∀ l : List UInt8, (bytesA l).length = l.length
  | [] => rfl
  | _ :: l => by simp [bytesA, bytesA_len l]

theorem bytesA_get : ∀ (l : List UInt8) (j : Nat) (hj : j < (bytesA l).length), (bytesA l)[j]'hj = .d (.v (.int .u8 ((l.getD j 0).toNat)))
  | [], j, hj => by simp [bytesA] at hj
  | _ :: _, 0, _ => rfl
  | _ :: l, j + 1, hj => by
    simp only [bytesA, List.getElem_cons_succ, List.getD_cons_succ]
    exact bytesA_get l j (by simpa [bytesA] using hj)

/-- What a slice or a string holds, read. -/
theorem content_run (hm : MemInv O ρ m w) {el : Nat} {x : AV} {v : Value} (hx : RV (Av O ρ m) ρ m w x v) {xs : List AV} {n : Nat} (hc : content m el x = some (xs, n)) :
    xs.length = n * el ∧ ∃ us : List Value, us.length = xs.length ∧ (∀ j (hj : j < xs.length), RV (Av O ρ m) ρ m w (xs[j]'hj) (us.getD j undef)) ∧
      (∀ P w', (Builtin.lenOf v).run P w' = .ok n w') ∧ ∀ P w' k, w'.heap = w.heap → k ≤ n → (Builtin.firstCells el k v).run P w' = .ok (us.take (k * el)).toArray w' := by
  have key : ∀ (b o cap len : Nat) (f : Nat → Value), (∀ i, i < len * el → w.cell? ⟨b, o + i, none⟩ = some (f i)) →
      ∀ P w' k, w'.heap = w.heap → k ≤ len → (Builtin.firstCells el k (.slice (some ⟨b, o, none⟩) len cap)).run P w' = .ok (((List.range (len * el)).map f).take (k * el)).toArray w' := by
    intro b o cap len f hf P w' k hw hk
    have hkl : k * el ≤ len * el := Nat.mul_le_mul_right _ hk
    have hl := run_loadCells_list (P := P) w' ⟨b, o, none⟩ (((List.range (len * el)).map f).take (k * el)) (fun j v hj => by
      have hlt : j < k * el := by
        by_cases hh : j < k * el
        · exact hh
        · rw [List.getElem?_eq_none (by rw [List.length_take]; omega)] at hj; cases hj
      rw [List.getElem?_take_of_lt hlt, List.getElem?_map, List.getElem?_range (by omega)] at hj
      simp only [Option.map_some, Option.some.injEq] at hj
      rw [← hj, add_none]
      have := hf j (by omega)
      simp only [World.cell?] at this ⊢
      rw [hw]; exact this)
    simp only [List.length_take, List.length_map, List.length_range, Nat.min_eq_left hkl] at hl
    simpa [Builtin.firstCells] using hl
  unfold content at hc
  split at hc
  · rename_i tt len cells
    split at hc
    · rename_i hlen
      simp only [Option.some.injEq, Prod.mk.injEq] at hc
      obtain ⟨rfl, rfl⟩ := hc
      refine ⟨by simpa using hlen, ?_⟩
      cases hx with
      | d _ _ hd =>
        cases hd with
        | emp _ a cap h0 =>
          refine ⟨[], rfl, fun j hj => absurd hj (by simp), fun P w' => rfl, fun P w' k _ hk => ?_⟩
          obtain rfl : k = 0 := by omega
          have := run_loadCells_list (P := P) w' a [] (fun j v hj => by cases hj)
          simpa [Builtin.firstCells] using this
        | sl _ _ _ b o cap us a1 a2 a3 a4 a5 a6 =>
          refine ⟨(List.range (len * el)).map us, by simp [hlen], fun j hj => ?_, fun P w' => rfl, key b o cap len us fun i hi => a1 i (by omega)⟩
          simp only [List.length_map] at hj
          simp only [List.getElem_map]
          rw [List.getD_eq_getElem?_getD, List.getElem?_map, List.getElem?_range (by omega)]
          exact .d _ _ (a2 j hj)
    · cases hc
  · simp only [Option.some.injEq, Prod.mk.injEq] at hc
    obtain ⟨rfl, rfl⟩ := hc
    have := rv_v hx; subst this
    exact ⟨by simp, [], rfl, fun j hj => absurd hj (by simp), fun P w' => rfl, fun P w' k _ hk => by simp [Builtin.firstCells]⟩
  · rename_i s
    split at hc
    · rename_i h1
      subst h1
      simp only [Option.some.injEq, Prod.mk.injEq] at hc
      obtain ⟨rfl, rfl⟩ := hc
      have := rv_v hx; subst this
      refine ⟨by rw [bytesA_len]; simp, (s.data.map fun b => Value.int .u8 b.toNat).toList, by rw [bytesA_len]; simp, fun j hj => ?_, fun P w' => rfl, fun P w' k _ hk => ?_⟩
      · rw [bytesA_get]
        have hj' : j < s.data.size := by rw [bytesA_len] at hj; simpa using hj
        have e1 : ((s.data.map fun b => Value.int .u8 b.toNat).toList).getD j undef = .int .u8 ((s.data.toList.getD j 0).toNat) := by
          rw [List.getD_eq_getElem?_getD, List.getD_eq_getElem?_getD]
          simp [Array.getElem?_eq_getElem hj']
        rw [e1]
        exact .d _ _ (.v _)
      · simp only [Builtin.firstCells, Sem.run_pure]
        congr 1
        apply Array.ext'
        simp [List.map_take]
    · cases hc
  · rename_i h g off len e' cap
    split at hc
    · rename_i he
      subst he
      split at hc
      · rename_i cs hr
        split at hc
        · rename_i hoff
          simp only [Option.some.injEq, Prod.mk.injEq] at hc
          obtain ⟨rfl, rfl⟩ := hc
          obtain ⟨hg, cap', hv, h1, h2, h3, h4, h5⟩ := rv_own hx hr
          obtain ⟨_, us, hus⟩ := row_read hm hr
          have hcl := cut_len (cs := cs) (off := off) (k := len * e') hoff
          refine ⟨hcl, (List.range (len * e')).map fun i => us (off + i), by simp [hcl], fun j hj => ?_, fun P w' => by rw [hv]; rfl, ?_⟩
          · obtain ⟨h6, h7⟩ := cut_get hoff hj
            rw [h7, List.getD_eq_getElem?_getD, List.getElem?_map, List.getElem?_range (by omega)]
            exact (hus (off + j) h6).2
          · rw [hv]
            exact key (ρ h).1 ((ρ h).2 + off) cap' len (fun i => us (off + i)) fun i hi => by rw [Nat.add_assoc]; exact (hus (off + i) (by omega)).1
        · cases hc
      · cases hc
    · cases hc
  · cases hc

/-- append within the capacity. -/
theorem run_app_fit {P : Program} {ats : Array TypeId} {t0 t1 el ty : TypeId} (h0 : ats[0]? = some t0) (h1 : ats[1]? = some t1) (ht : P.underlying t0 = some (.slice el)) {d : TypeDesc} (hu : P.underlying t1 = some d)
    (hd : ∀ k, d ≠ .int k) {size : Nat} (hs : ∀ w, (sizeOf el).run P w = .ok size w) {x : Value} {n : Nat} (hn : ∀ w', (Builtin.lenOf x).run P w' = .ok n w') {new : Array Value} (hf : (Builtin.firstCells size n x).run P w = .ok new w)
    (base : Option Addr) {sLen sCap : Nat} (hle : sLen + n ≤ sCap) :
    (Builtin.append_ ats ty #[.slice base sLen sCap, x]).run P w = match base with
      | some a => ((storeCells (a.add (sLen * size)) new.toList).run P w).andThen fun _ w' => .ok (.slice base (sLen + n) sCap) w'
      | none => .ok (.slice base (sLen + n) sCap) w := by
  have hz : (match d with | .int _ => true | _ => false) = false := by
    cases d <;> first | rfl | exact absurd rfl (hd _)
  cases base with
  | none => simp [Builtin.append_, h0, h1, run_underlying ht, run_underlying hu, hs, hz, hn, hf, hle]
  | some a => simp [Builtin.append_, h0, h1, run_underlying ht, run_underlying hu, hs, hz, hn, hf, hle]

/-- append past the capacity. -/
theorem run_app_grow {P : Program} {ats : Array TypeId} {t0 t1 el ty : TypeId} (h0 : ats[0]? = some t0) (h1 : ats[1]? = some t1) (ht : P.underlying t0 = some (.slice el)) {d : TypeDesc} (hu : P.underlying t1 = some d)
    (hd : ∀ k, d ≠ .int k) {i : TI} {ty' : TypeId → Option TI} (hI : TIOk P ty' el i) {x : Value} {n : Nat} (hn : ∀ w', (Builtin.lenOf x).run P w' = .ok n w') {new old : Array Value} (hf : (Builtin.firstCells i.size n x).run P w.drew = .ok new w.drew)
    (base : Option Addr) {sLen sCap : Nat} (hfo : (Builtin.firstCells i.size sLen (.slice base sLen sCap)).run P w.drew = .ok old w.drew) (hg : sCap < sLen + n) (hb : (sLen + n) * i.bytes ≤ room) (hr : sLen + n ≤ room) :
    (Builtin.append_ ats ty #[.slice base sLen sCap, x]).run P w =
      .ok (.slice (some ⟨w.heap.size, 0, none⟩) (sLen + n) (grownCap w (sLen + n) sCap el))
        (w.drew.alloc (.cells (old ++ new ++ Builtin.zeroCells (zeroV i).cells (grownCap w (sLen + n) sCap el - (sLen + n))) el)) := by
  have hz : (match d with | .int _ => true | _ => false) = false := by
    cases d <;> first | rfl | exact absurd rfl (hd _)
  obtain ⟨inf, hinf, hsz, hby, hzz⟩ := hI.typeInfo
  have hn' : ¬ (sLen + n ≤ sCap) := by omega
  have h63' : ¬ (9223372036854775807 < ((sLen : Int) + (n : Int))) := by unfold room at hr; omega
  have h48' : ¬ (281474976710656 < Builtin.nextslicecap (sLen + n) sCap * inf.bytes) := by
    rw [hby]
    have := growslice_fits (bytes := i.bytes) hg (by unfold room at hb; omega)
    omega
  rw [← hsz] at hf hfo
  simp [Builtin.append_, h0, h1, run_underlying ht, run_underlying hu, sizeOf, Go.typeInfo, zeroValue, hinf, hzz, hz, hn, hn', h63', h48', Question.forced, hf, hfo, newRow, grownCap]

end

end Go.Am

namespace Go.Am

/-- What an operation's computation gives: as Gives, before it is made an answer. -/
def GivesV (O : Nat → Prop) (P : Program) (ρ : Nat → Nat × Nat) (m : Mem) (w : World) (s : Sem Value) (r : AV) (m' : Mem) : Prop :=
  ∃ v w' ρ', s.run P w = .ok v w' ∧ RV (Av O ρ' m') ρ' m' w' r v ∧ MemInv O ρ' m' w' ∧ Later ρ m w ρ' m' w'

/-- What the appended thing is. -/
structure Cont (O : Nat → Prop) (P : Program) (ρ : Nat → Nat × Nat) (m : Mem) (w : World) (el : Nat) (x : Value) (xs : List AV) (n : Nat) (us : List Value) : Prop where
  len : xs.length = n * el
  ulen : us.length = xs.length
  rv : ∀ j (hj : j < xs.length), RV (Av O ρ m) ρ m w (xs[j]'hj) (us.getD j undef)
  lenOf : ∀ w', (Builtin.lenOf x).run P w' = .ok n w'
  first : ∀ w', w'.heap = w.heap → (Builtin.firstCells el n x).run P w' = .ok us.toArray w'

structure AppTy (Γ : Ctx) (ats : Array TypeId) (el : TypeId) (i : TI) : Prop where
  t0 : ∃ t0, ats[0]? = some t0 ∧ Γ.P.underlying t0 = some (.slice el)
  t1 : ∃ t1 d, ats[1]? = some t1 ∧ Γ.P.underlying t1 = some d ∧ ∀ k, d ≠ .int k
  ok : TIOk Γ.P Γ.ty el i
  pos : 0 < i.size

theorem drew_heap (w : World) : w.drew.heap = w.heap := rfl

theorem zeroCells_size (i : TI) {P : Program} {ty : TypeId → Option TI} {t : TypeId} (h : TIOk P ty t i) (n : Nat) : (Builtin.zeroCells (zeroV i).cells n).size = n * i.size := by
  simp [Builtin.zeroCells, h.zero_cells, h.zlen]

section
variable {O : Nat → Prop} {Γ : Ctx} {ρ : Nat → Nat × Nat} {m : Mem} {w : World} {ats : Array TypeId} {el ty : TypeId} {i : TI} {x : Value} {xs : List AV} {n : Nat} {us : List Value}

theorem Cont.okV (hC : Cont O Γ.P ρ m w i.size x xs n us) (hok : xs.all cellOk = true) : ∀ v ∈ us, okV v = true := fun v hv => by
  obtain ⟨j, hj, hjv⟩ := List.getElem_of_mem hv
  have hjx : j < xs.length := by rw [← hC.ulen]; exact hj
  have := hC.rv j hjx
  rw [List.getD_eq_getElem?_getD, List.getElem?_eq_getElem hj, Option.getD_some, hjv] at this
  exact cellOk_rv this (List.all_eq_true.mp hok _ (List.getElem_mem hjx))

/-- The row that an append past the capacity makes. -/
theorem grown_cells (hT : AppTy Γ ats el i) (hC : Cont O Γ.P ρ m w i.size x xs n us) (ys : List AV) (vs : List Value) (len k : Nat) (hyl : ys.length = len * i.size) (hvl : vs.length = ys.length)
    (hv : ∀ j (hj : j < ys.length), RV (Av O ρ m) ρ m w (ys[j]'hj) (vs.getD j undef)) :
    ∀ j (hj : j < (ys ++ xs).length), ∃ u, (vs.toArray ++ us.toArray ++ Builtin.zeroCells (zeroV i).cells k)[j]? = some u ∧ RV (Av O ρ m) ρ m w ((ys ++ xs)[j]'hj) u := by
  intro j hj
  have hxl := hC.len
  have hul := hC.ulen
  simp only [List.length_append] at hj
  have hpre : (vs.toArray ++ us.toArray ++ Builtin.zeroCells (zeroV i).cells k)[j]? = (vs ++ us)[j]? := by
    rw [Array.getElem?_append_left (by simp; omega)]
    simp
  rw [hpre]
  by_cases h1 : j < ys.length
  · refine ⟨vs.getD j undef, ?_, ?_⟩
    · rw [List.getElem?_append_left (by omega), List.getD_eq_getElem?_getD, List.getElem?_eq_getElem (by omega)]; rfl
    · rw [List.getElem_append_left h1]; exact hv j h1
  · refine ⟨us.getD (j - ys.length) undef, ?_, ?_⟩
    · rw [List.getElem?_append_right (by omega), List.getD_eq_getElem?_getD, hvl, List.getElem?_eq_getElem (by omega)]; rfl
    · rw [List.getElem_append_right (by omega)]; exact hC.rv _ (by omega)

/-- An append past the capacity: a new row. -/
theorem app_new (hT : AppTy Γ ats el i) (hm : MemInv O ρ m w) (hC : Cont O Γ.P ρ m w i.size x xs n us) (base : Option Addr) (len cap : Nat) (ys : List AV) (vs : List Value) (hyl : ys.length = len * i.size) (hvl : vs.length = ys.length)
    (hv : ∀ j (hj : j < ys.length), RV (Av O ρ m) ρ m w (ys[j]'hj) (vs.getD j undef)) (hfo : (Builtin.firstCells i.size len (.slice base len cap)).run Γ.P w.drew = .ok vs.toArray w.drew)
    (hg : cap < len + n) (hb : (len + n) * i.bytes ≤ room) (hr : len + n ≤ room) :
    GivesV O Γ.P ρ m w (Builtin.append_ ats ty #[.slice base len cap, x]) (.own m.b.length m.n 0 (len + n) i.size none) (m.push (ys ++ xs)) := by
  obtain ⟨t0, h0, ht⟩ := hT.t0
  obtain ⟨t1, d, h1, hu, hd⟩ := hT.t1
  have hrun := run_app_grow (ty := ty) h0 h1 ht hu hd hT.ok hC.lenOf (hC.first w.drew rfl) base hfo hg hb hr
  have hmd : MemInv O ρ m w.drew := hm.of_heap rfl rfl rfl rfl
  have hld : Later ρ m w ρ m w.drew := later_of_heap rfl rfl rfl rfl
  have hcells := grown_cells hT hC ys vs len (grownCap w (len + n) cap el - (len + n)) hyl hvl hv
  obtain ⟨h2, h3⟩ := push hmd (ys ++ xs) _ el (fun j hj => by
    obtain ⟨u, hu, hr⟩ := hcells j hj
    exact ⟨u, hu, hr.later hm hld⟩)
  refine ⟨_, _, _, hrun, ?_, h2, hld.trans h3⟩
  refine .own _ _ _ _ _ _ _ _ _ (by simp [Mem.push]) fun cs' s' kid' hrow => ?_
  have hcs : cs' = ys ++ xs := by
    simp only [Mem.push, List.getElem?_append_right (Nat.le_refl _), Nat.sub_self, List.getElem?_cons_zero, Option.some.injEq, Blk.row.injEq] at hrow
    exact hrow.1.symm
  subst hcs
  rw [upd_same]
  have hlen : (ys ++ xs).length = (len + n) * i.size := by rw [List.length_append, hyl, hC.len, Nat.add_mul]
  have hge := grownCap_ge w (len + n) cap el
  have hmul : (len + n) * i.size ≤ grownCap w (len + n) cap el * i.size := Nat.mul_le_mul_right _ hge
  refine ⟨_, rfl, hT.pos, by omega, hge, (fun c hc => by cases hc), fun _ => ⟨by omega, fun c E f hc => ?_⟩⟩
  have hnew := heap_alloc_new w.drew (.cells (vs.toArray ++ us.toArray ++ Builtin.zeroCells (zeroV i).cells (grownCap w (len + n) cap el - (len + n))) el)
  rw [drew_heap] at hnew hc
  rw [hnew] at hc
  simp only [Option.some.injEq, Obj.cells.injEq] at hc
  rw [← hc.1]
  simp only [Array.size_append, List.size_toArray, zeroCells_size i hT.ok, hvl, hyl, hC.ulen, hC.len]
  have : (grownCap w (len + n) cap el - (len + n)) * i.size = grownCap w (len + n) cap el * i.size - (len + n) * i.size := Nat.sub_mul _ _ _
  have h4 : (len + n) * i.size = len * i.size + n * i.size := Nat.add_mul _ _ _
  omega

/-- Nothing is appended. -/
theorem app_none (hT : AppTy Γ ats el i) (hm : MemInv O ρ m w) (hC : Cont O Γ.P ρ m w i.size x xs n us) (base : Option Addr) (len cap : Nat) (hn : n = 0) (hlc : len ≤ cap) {s : AV} (hs : RV (Av O ρ m) ρ m w s (.slice base len cap)) :
    GivesV O Γ.P ρ m w (Builtin.append_ ats ty #[.slice base len cap, x]) s m := by
  obtain ⟨t0, h0, ht⟩ := hT.t0
  obtain ⟨t1, d, h1, hu, hd⟩ := hT.t1
  subst hn
  have hus : us = [] := List.length_eq_zero_iff.mp (by rw [hC.ulen, hC.len]; simp)
  have hrun := run_app_fit (ty := ty) (w := w) h0 h1 ht hu hd (size := i.size) (fun w => hT.ok.run_size w) hC.lenOf (hC.first w rfl) base (sLen := len) (sCap := cap) (by omega)
  refine ⟨.slice base len cap, w, ρ, ?_, hs, hm, .refl _ _ _⟩
  rw [hrun, hus]
  cases base with
  | none => rfl
  | some a => rfl

/-- An append in place, inside the row's known cells. -/
theorem app_in (hT : AppTy Γ ats el i) (hm : MemInv O ρ m w) (hC : Cont O Γ.P ρ m w i.size x xs n us) {h g off len cap' : Nat} {cap : Option Nat} {cs : List AV} {kid : Option (Nat × Nat)} (hrow : m.b[h]? = some (.row cs g .ow kid))
    (hok : xs.all cellOk = true) (hoff : off + (len + n) * i.size ≤ cs.length) (hle : len + n ≤ cap') (hcap : ∀ c, cap = some c → cap' = c ∧ off + c * i.size ≤ cs.length)
    (hnone : cap = none → cs.length ≤ off + cap' * i.size ∧ ∀ c E f, w.heap[(ρ h).1]? = some (.cells c E f) → (ρ h).2 + off + cap' * i.size ≤ c.size) (hg : g < m.n) :
    GivesV O Γ.P ρ m w (Builtin.append_ ats ty #[.slice (some ⟨(ρ h).1, (ρ h).2 + off, none⟩) len cap', x]) (.own h g off (len + n) i.size cap) (m.write h g kid (over cs (off + len * i.size) xs)) := by
  obtain ⟨t0, h0, ht⟩ := hT.t0
  obtain ⟨t1, d, h1, hu, hd⟩ := hT.t1
  have hrun := run_app_fit (ty := ty) (w := w) h0 h1 ht hu hd (size := i.size) (fun w => hT.ok.run_size w) hC.lenOf (hC.first w rfl) (some ⟨(ρ h).1, (ρ h).2 + off, none⟩) (sLen := len) (sCap := cap') hle
  have h4 : (len + n) * i.size = len * i.size + n * i.size := Nat.add_mul _ _ _
  obtain ⟨w', h5, h6, h7⟩ := write_row (P := Γ.P) hm hrow (off + len * i.size) xs us (by rw [hC.len]; omega) hC.ulen (hC.okV hok) hC.rv
  have hres : RV (Av O ρ m) ρ m w (.own h g off (len + n) i.size cap) (.slice (some ⟨(ρ h).1, (ρ h).2 + off, none⟩) (len + n) cap') := by
    refine own_rv hg (by simp [row?, hrow] : row? m h g = some cs) ⟨cap', rfl, hT.pos, hoff, hle, hcap, hnone⟩
  refine ⟨_, w', ρ, ?_, hres.later hm h7, h6, h7⟩
  rw [hrun]
  have e1 : (⟨(ρ h).1, (ρ h).2 + off, none⟩ : Addr).add (len * i.size) = ⟨(ρ h).1, (ρ h).2 + (off + len * i.size), none⟩ := by rw [add_none, Nat.add_assoc]
  simp only [e1, h5, Result.andThen_ok]

/-- An append in place, past the row's known cells. -/
theorem app_past (hT : AppTy Γ ats el i) (hm : MemInv O ρ m w) (hC : Cont O Γ.P ρ m w i.size x xs n us) {h g off len cap' : Nat} {cs : List AV} {kid : Option (Nat × Nat)} (hrow : m.b[h]? = some (.row cs g .ow kid))
    (hok : ∀ v ∈ us, okV v = true) (hoff : off + len * i.size ≤ cs.length) (hle : len + n ≤ cap')
    (hnone : cs.length ≤ off + cap' * i.size ∧ ∀ c E f, w.heap[(ρ h).1]? = some (.cells c E f) → (ρ h).2 + off + cap' * i.size ≤ c.size) :
    ∃ w' c c' E, w.heap[(ρ h).1]? = some (.cells c E (0, 0)) ∧ w'.heap[(ρ h).1]? = some (.cells c' E (0, 0)) ∧ c'.size = c.size ∧ w'.heap.size = w.heap.size ∧ w'.os = w.os ∧ w'.tape = w.tape ∧ w'.output = w.output ∧
      (∀ b, b ≠ (ρ h).1 → w'.heap[b]? = w.heap[b]?) ∧
      (∀ j, j < (ρ h).2 + off + len * i.size → c'[j]? = c[j]?) ∧ (∀ j, j < n * i.size → c'[(ρ h).2 + off + len * i.size + j]? = us[j]?) ∧
      (Builtin.append_ ats ty #[.slice (some ⟨(ρ h).1, (ρ h).2 + off, none⟩) len cap', x]).run Γ.P w = .ok (.slice (some ⟨(ρ h).1, (ρ h).2 + off, none⟩) (len + n) cap') w' := by
  obtain ⟨t0, h0, ht⟩ := hT.t0
  obtain ⟨t1, d, h1, hu, hd⟩ := hT.t1
  have hrun := run_app_fit (ty := ty) (w := w) h0 h1 ht hu hd (size := i.size) (fun w => hT.ok.run_size w) hC.lenOf (hC.first w rfl) (some ⟨(ρ h).1, (ρ h).2 + off, none⟩) (sLen := len) (sCap := cap') hle
  have h4 : (len + n) * i.size = len * i.size + n * i.size := Nat.add_mul _ _ _
  have h5 : (len + n) * i.size ≤ cap' * i.size := Nat.mul_le_mul_right _ hle
  obtain ⟨_, _, c, E, hc, _⟩ := hm.row h cs g .ow kid hrow
  have hcs := hnone.2 c E _ hc
  have hul : us.length = n * i.size := by rw [hC.ulen, hC.len]
  have hst := run_storeCells_at Γ.P (ρ h).1 ((ρ h).2 + off + len * i.size) E us 0 c w hc (by omega) (fun v hv => okV_one (hok v hv))
  simp only [Nat.add_zero] at hst
  refine ⟨w.setRow (ρ h).1 (c.toList.take ((ρ h).2 + off + len * i.size) ++ us ++ c.toList.drop ((ρ h).2 + off + len * i.size + us.length)).toArray, c, _, E, hc, setRow_heap w _ c _ E _ hc, ?_, by simp, rfl, rfl, rfl, fun b hb => setRow_other w _ b _ hb, fun j hj => ?_, fun j hj => ?_, ?_⟩
  · simp; omega
  · have hsg := seg_get (c := c.toList) (a := (ρ h).2 + off + len * i.size) (vs := us) (by simpa using (by omega : (ρ h).2 + off + len * i.size + us.length ≤ c.size)) j
    simp only [List.getElem?_toArray]
    rw [hsg, if_pos hj]
    simp
  · have hsg := seg_get (c := c.toList) (a := (ρ h).2 + off + len * i.size) (vs := us) (by simpa using (by omega : (ρ h).2 + off + len * i.size + us.length ≤ c.size)) ((ρ h).2 + off + len * i.size + j)
    simp only [List.getElem?_toArray]
    rw [hsg, if_neg (by omega), if_pos (by omega)]
    congr 1; omega
  · rw [hrun]
    simp only [add_none, List.toList_toArray, hst, Result.andThen_ok]

/-- Cells of a row from a place on, kept by an append in place past the known cells. -/
theorem past_cells (hm : MemInv O ρ m w) (hC : Cont O Γ.P ρ m w i.size x xs n us) {h g off len : Nat} {cs : List AV} {kid : Option (Nat × Nat)} (hrow : m.b[h]? = some (.row cs g .ow kid)) (hoff : off + len * i.size ≤ cs.length)
    {c c' : Array Value} {E : TypeId} (hc : w.heap[(ρ h).1]? = some (.cells c E (0, 0))) (h1 : ∀ j, j < (ρ h).2 + off + len * i.size → c'[j]? = c[j]?) (h2 : ∀ j, j < n * i.size → c'[(ρ h).2 + off + len * i.size + j]? = us[j]?) :
    ∀ j (hj : j < (cut cs off (len * i.size) ++ xs).length), ∃ u, c'[(ρ h).2 + off + j]? = some u ∧ RV (Av O ρ m) ρ m w ((cut cs off (len * i.size) ++ xs)[j]'hj) u := by
  intro j hj
  obtain ⟨_, _, c0, E0, hc0, hcell⟩ := hm.row h cs g .ow kid hrow
  rw [hc] at hc0
  simp only [Option.some.injEq, Obj.cells.injEq] at hc0
  obtain ⟨rfl, _⟩ := hc0
  have hcl := cut_len (cs := cs) (off := off) (k := len * i.size) hoff
  have hxl := hC.len
  simp only [List.length_append] at hj
  by_cases hlt : j < (cut cs off (len * i.size)).length
  · obtain ⟨h6, h7⟩ := cut_get hoff hlt
    obtain ⟨u, hu, hv⟩ := hcell (off + j) h6
    refine ⟨u, by rw [h1 _ (by omega), Nat.add_assoc]; exact hu, ?_⟩
    rw [List.getElem_append_left hlt, h7]; exact hv
  · refine ⟨us.getD (j - len * i.size) undef, ?_, ?_⟩
    · have e1 : (ρ h).2 + off + j = (ρ h).2 + off + len * i.size + (j - len * i.size) := by omega
      rw [e1, h2 _ (by omega), List.getD_eq_getElem?_getD, List.getElem?_eq_getElem (by rw [hC.ulen]; omega)]; rfl
    · rw [List.getElem_append_right (by omega)]
      have := hC.rv (j - len * i.size) (by omega)
      simpa [hcl] using this

end

end Go.Am

namespace Go.Am

section
variable {O : Nat → Prop} {Γ : Ctx} {ρ : Nat → Nat × Nat} {m : Mem} {w : World} {ats : Array TypeId} {el ty : TypeId} {i : TI} {x : Value} {xs : List AV} {n : Nat} {us : List Value}

/-- What an append gave, beside a row of its own: from the row that follows it. -/
theorem last_own {ρ' : Nat → Nat × Nat} {A : Nat → Prop} {m' : Mem} {w' : World} {h : Nat} {cs' : List AV} {len e cap' : Nat} {o : Nat} {b : Nat} (hg : m.n < m'.n) (hb : m'.b[h]? = some (.row cs' m.n .ow none) ∨ ∃ p, m'.b[h]? = some (.row cs' m.n (.kd p) none))
    (hρ : ρ' h = (b, o)) (he : 0 < e) (hl : cs'.length = len * e) (hlc : len ≤ cap') {c' : Array Value} {E : TypeId} {f : Nat × Nat} (hc : w'.heap[b]? = some (.cells c' E f)) (hcs : o + cap' * e ≤ c'.size) :
    RV A ρ' m' w' (.own h m.n 0 len e none) (.slice (some ⟨b, o, none⟩) len cap') := by
  refine .own _ _ _ _ _ _ _ _ _ hg fun cs1 s1 kid1 hrow => ?_
  have hcs1 : cs1 = cs' := by
    rcases hb with hb | ⟨p, hb⟩ <;> (rw [hb] at hrow; simp only [Option.some.injEq, Blk.row.injEq] at hrow; exact hrow.1.symm)
  subst hcs1
  rw [hρ]
  have hm : len * e ≤ cap' * e := Nat.mul_le_mul_right _ hlc
  refine ⟨cap', rfl, he, by omega, hlc, (fun c hc => by cases hc), fun _ => ⟨by omega, fun c E1 f1 h1 => ?_⟩⟩
  simp only at h1
  rw [hc] at h1
  simp only [Option.some.injEq, Obj.cells.injEq] at h1
  rw [← h1.1]
  simpa using hcs

theorem set_last {b : List Blk} {h : Nat} (k : Option (Nat × Nat)) (x : Blk) {y : Blk} (hb : b[h]? = some y) : ((kill b k).set h x)[h]? = some x := by
  have hlt : h < b.length := by
    by_cases hh : h < b.length
    · exact hh
    · rw [List.getElem?_eq_none (by omega)] at hb; cases hb
  rw [List.getElem?_set_self (by rw [kill_length]; exact hlt)]

/-- The new row of an append past the capacity, and the world that has it. -/
theorem app_fresh (hT : AppTy Γ ats el i) (hC : Cont O Γ.P ρ m w i.size x xs n us) (base : Option Addr) (len cap : Nat) (vs : List Value) (hvl : vs.length = len * i.size)
    (hfo : (Builtin.firstCells i.size len (.slice base len cap)).run Γ.P w.drew = .ok vs.toArray w.drew)
    (hg : cap < len + n) (hb : (len + n) * i.bytes ≤ room) (hr : len + n ≤ room) :
    ∃ c' cap2, cap2 * i.size = c'.size ∧ len + n ≤ cap2 ∧ c' = vs.toArray ++ us.toArray ++ Builtin.zeroCells (zeroV i).cells (cap2 - (len + n)) ∧
      (Builtin.append_ ats ty #[.slice base len cap, x]).run Γ.P w = .ok (.slice (some ⟨w.heap.size, 0, none⟩) (len + n) cap2) (w.drew.alloc (.cells c' el)) := by
  obtain ⟨t0, h0, ht⟩ := hT.t0
  obtain ⟨t1, d, h1, hu, hd⟩ := hT.t1
  have hrun := run_app_grow (ty := ty) h0 h1 ht hu hd hT.ok hC.lenOf (hC.first w.drew rfl) base hfo hg hb hr
  refine ⟨_, _, ?_, grownCap_ge w (len + n) cap el, rfl, hrun⟩
  have hge := grownCap_ge w (len + n) cap el
  have hmul : (len + n) * i.size ≤ grownCap w (len + n) cap el * i.size := Nat.mul_le_mul_right _ hge
  simp only [Array.size_append, List.size_toArray, zeroCells_size i hT.ok, hvl, hC.ulen, hC.len]
  have h3 : (grownCap w (len + n) cap el - (len + n)) * i.size = grownCap w (len + n) cap el * i.size - (len + n) * i.size := Nat.sub_mul _ _ _
  have h4 : (len + n) * i.size = len * i.size + n * i.size := Nat.add_mul _ _ _
  omega

theorem appendOwn_sound (hT : AppTy Γ ats el i) (hm : MemInv O ρ m w) (hC : Cont O Γ.P ρ m w i.size x xs n us) {fk : Bool} {h g off len : Nat} {cap : Option Nat} {v : Value} (hs : RV (Av O ρ m) ρ m w (.own h g off len i.size cap) v)
    {r : AV} {m' : Mem} (hr : appendOwn fk i.bytes m xs n h g off len i.size cap = some (r, m')) : GivesV O Γ.P ρ m w (Builtin.append_ ats ty #[v, x]) r m' := by
  unfold appendOwn at hr
  split at hr
  · cases hr
  · rename_i cs hrow
    obtain ⟨hg, cap', hv, h1, h2, h3, h4, h5⟩ := rv_own hs hrow
    subst hv
    have hfst : ∀ w', w'.heap = w.heap → ∃ vs : List Value, vs.length = (cut cs off (len * i.size)).length ∧ (∀ j (hj : j < (cut cs off (len * i.size)).length), RV (Av O ρ m) ρ m w ((cut cs off (len * i.size))[j]'hj) (vs.getD j undef)) ∧
        (Builtin.firstCells i.size len (.slice (some ⟨(ρ h).1, (ρ h).2 + off, none⟩) len cap')).run Γ.P w' = .ok vs.toArray w' := by
      intro w' hw'
      have hcon : content m i.size (.own h g off len i.size cap) = some (cut cs off (len * i.size), len) := by
        simp [content, hrow, h2]
      obtain ⟨_, vs, a1, a2, _, a4⟩ := content_run hm hs hcon
      refine ⟨vs, a1, a2, ?_⟩
      rw [a4 Γ.P w' len hw' (Nat.le_refl _)]
      have : vs.length = len * i.size := by rw [a1]; exact cut_len h2
      rw [List.take_of_length_le (by omega)]
    have hcl := cut_len (cs := cs) (off := off) (k := len * i.size) h2
    have h6 : (len + n) * i.size = len * i.size + n * i.size := Nat.add_mul _ _ _
    split at hr
    · rename_i hcond
      obtain ⟨_, hb, hroom⟩ := hcond
      split at hr
      · rename_i c
        obtain ⟨rfl, hcc⟩ := h4 c rfl
        split at hr
        · rename_i hle
          split at hr
          · rename_i hn0
            simp only [Option.some.injEq, Prod.mk.injEq] at hr
            obtain ⟨rfl, rfl⟩ := hr
            exact app_none hT hm hC _ _ _ hn0 h3 hs
          · split at hr
            · rename_i cs' kid hown
              split at hr
              · rename_i hin
                obtain ⟨hin, hok⟩ := hin
                simp only [Option.some.injEq, Prod.mk.injEq] at hr
                obtain ⟨rfl, rfl⟩ := hr
                have hrow' := own_row hown
                have e1 : cs' = cs := by simpa [row?, hrow'] using hrow
                subst e1
                exact app_in hT hm hC hrow' hok hin hle h4 h5 hg
              · cases hr
            · cases hr
        · rename_i hgt
          simp only [Option.some.injEq, Prod.mk.injEq] at hr
          obtain ⟨rfl, rfl⟩ := hr
          obtain ⟨vs, a1, a2, a3⟩ := hfst w.drew rfl
          exact app_new hT hm hC _ len cap' _ vs hcl a1 a2 a3 (by omega) hb hroom
      · split at hr
        · rename_i hn0
          simp only [Option.some.injEq, Prod.mk.injEq] at hr
          obtain ⟨rfl, rfl⟩ := hr
          exact app_none hT hm hC _ _ _ hn0 h3 hs
        · rename_i hn0
          split at hr
          · cases hr
          · rename_i cs' kid hown
            have hrow' := own_row hown
            have e1 : cs' = cs := by simpa [row?, hrow'] using hrow
            subst e1
            obtain ⟨h7, h8⟩ := h5 rfl
            split at hr
            · cases hr
            · rename_i hok
              have hok : xs.all cellOk = true := by simpa using hok
              split at hr
              · rename_i hin
                simp only [Option.some.injEq, Prod.mk.injEq] at hr
                obtain ⟨rfl, rfl⟩ := hr
                have hle : len + n ≤ cap' := by
                  have : (len + n) * i.size ≤ cap' * i.size := by omega
                  exact Nat.le_of_mul_le_mul_right this h1
                exact app_in hT hm hC hrow' hok hin hle h4 h5 hg
              · rename_i hout
                have hgn : g < m.n := hg
                have hrowlt := hm.lt_row hrow'
                by_cases hfit : len + n ≤ cap'
                · obtain ⟨w', c, c', E, hc, hc', b1, b2, b3, b4, b5, b6, b7, b8, b9⟩ := app_past (ty := ty) hT hm hC hrow' (hC.okV hok) h2 hfit ⟨h7, h8⟩
                  have hcells := past_cells hm hC hrow' h2 hc b7 b8
                  have hc8 := h8 c E _ hc
                  split at hr
                  · split at hr
                    · rename_i _ hend
                      simp only [Option.some.injEq, Prod.mk.injEq] at hr
                      obtain ⟨rfl, rfl⟩ := hr
                      have hkeepc : ∀ j (hj : j < cs'.length), ∃ u, c'[(ρ h).2 + j]? = some u ∧ RV (Av O ρ m) ρ m w (cs'[j]'hj) u := fun j hj => by
                        obtain ⟨_, _, c0, E0, hc0, hcell⟩ := hm.row h cs' g .ow kid hrow'
                        rw [hc] at hc0
                        simp only [Option.some.injEq, Obj.cells.injEq] at hc0
                        obtain ⟨rfl, _⟩ := hc0
                        obtain ⟨u, hu, hv⟩ := hcell j hj
                        exact ⟨u, by rw [b7 _ (by omega)]; exact hu, hv⟩
                      obtain ⟨d1, d2⟩ := replace hm hrow' (ρ h) cs' g m.n (Nat.le_refl _) hgn c' E (w' := w')
                        (.inl ⟨rfl, rfl, rfl, fun c1 E1 f1 hh => by rw [hc] at hh; simp only [Option.some.injEq, Obj.cells.injEq] at hh; rw [← hh.1]; exact b1⟩)
                        (by omega) b3 b4 b5 (fun b _ hb => b6 b hb) (.inl rfl) hc' hkeepc
                      rw [upd_self] at d1 d2
                      have hrow1 := set_last kid (.row cs' g .ow none) hrow'
                      obtain ⟨d3, d4⟩ := fork2 d1 (h := h) (g := g) (cs := cs') hrow1 ((ρ h).1, (ρ h).2 + off) (cut cs' off (len * i.size) ++ xs) c' E
                        (hm.row h cs' g .ow kid hrow').2.1 (fun j hj he => d1.dis j h hj (.inl ⟨_, _, _, hrow1⟩) he) hc'
                        (fun j hj => by obtain ⟨u, hu, hv⟩ := hcells j hj; exact ⟨u, hu, hv.later hm d2⟩)
                      simp only [List.length_set, kill_length, List.set_set] at d3 d4
                      refine ⟨_, w', _, b9, ?_, d3, d2.trans d4⟩
                      refine last_own (m := m) (c' := c') (E := E) (f := (0, 0)) (cs' := cut cs' off (len * i.size) ++ xs) (by simp) (.inr ⟨h, ?_⟩) (upd_same _ _ _) h1 (by rw [List.length_append, hcl, hC.len, h6]) hfit hc' (by omega)
                      rw [List.getElem?_append_right (by simp [kill_length])]
                      simp [kill_length]
                    · cases hr
                  · simp only [Option.some.injEq, Prod.mk.injEq] at hr
                    obtain ⟨rfl, rfl⟩ := hr
                    obtain ⟨d1, d2⟩ := replace hm hrow' ((ρ h).1, (ρ h).2 + off) (cut cs' off (len * i.size) ++ xs) m.n (m.n + 1) (by omega) (by omega) c' E (w' := w')
                      (.inr (Nat.le_refl _)) (by omega) b3 b4 b5 (fun b _ hb => b6 b hb) (.inl rfl) hc' hcells
                    refine ⟨_, w', _, b9, ?_, d1, d2⟩
                    exact last_own (m := m) (c' := c') (E := E) (f := (0, 0)) (cs' := cut cs' off (len * i.size) ++ xs) (by simp) (.inl (set_last kid _ hrow')) (upd_same _ _ _) h1 (by rw [List.length_append, hcl, hC.len, h6]) hfit hc' (by omega)
                · obtain ⟨vs, a1, a2, a3⟩ := hfst w.drew rfl
                  obtain ⟨c', cap2, b1, b2, b3, b9⟩ := app_fresh (ty := ty) hT hC (some ⟨(ρ h).1, (ρ h).2 + off, none⟩) len cap' vs (by rw [a1]; exact hcl) a3 (by omega) hb hroom
                  have hcells := grown_cells hT hC (cut cs' off (len * i.size)) vs len (cap2 - (len + n)) hcl a1 a2
                  rw [← b3] at hcells
                  obtain ⟨_, _, c, E, hc, hcell⟩ := hm.row h cs' g .ow kid hrow'
                  have hnew : (w.drew.alloc (.cells c' el)).heap[w.heap.size]? = some (.cells c' el (0, 0)) := heap_alloc_new w.drew _
                  have hkeep : ∀ b, b < w.heap.size → (w.drew.alloc (.cells c' el)).heap[b]? = w.heap[b]? := fun b hb => RowKit.Below.heap_alloc w.drew _ b hb
                  have hsz : w.heap.size ≤ (w.drew.alloc (.cells c' el)).heap.size := by simp [drew_heap]
                  split at hr
                  · split at hr
                    · rename_i _ hend
                      simp only [Option.some.injEq, Prod.mk.injEq] at hr
                      obtain ⟨rfl, rfl⟩ := hr
                      obtain ⟨d1, d2⟩ := replace hm hrow' (ρ h) cs' g m.n (Nat.le_refl _) hgn c E (w' := w.drew.alloc (.cells c' el))
                        (.inl ⟨rfl, rfl, rfl, fun c1 E1 f1 hh => by rw [hc] at hh; simp only [Option.some.injEq, Obj.cells.injEq] at hh; rw [← hh.1]⟩)
                        hsz rfl rfl rfl (fun b hb _ => hkeep b hb) (.inl rfl) (by rw [hkeep _ hrowlt]; exact hc) hcell
                      rw [upd_self] at d1 d2
                      have hrow1 := set_last kid (.row cs' g .ow none) hrow'
                      obtain ⟨d3, d4⟩ := fork2 d1 (h := h) (g := g) (cs := cs') hrow1 (w.heap.size, 0) (cut cs' off (len * i.size) ++ xs) c' el
                        (fun ho => absurd (hm.ex _ ho) (by simp)) (fun j hj he => by
                          have hne : Mut m j ∨ j = h := by
                            rcases hj with ⟨cs1, g1, kid1, hj⟩ | ⟨es, g1, hj⟩
                            · by_cases hjh : j = h
                              · exact .inr hjh
                              · simp only [List.getElem?_set_ne (fun e => hjh e.symm)] at hj
                                exact .inl (.inl ⟨cs1, g1, kid1, (kill_get hj).resolve_right (by intro hh; cases hh)⟩)
                            · by_cases hjh : j = h
                              · exact .inr hjh
                              · simp only [List.getElem?_set_ne (fun e => hjh e.symm)] at hj
                                exact .inl (.inr ⟨es, g1, (kill_get hj).resolve_right (by intro hh; cases hh)⟩)
                          rcases hne with hne | rfl
                          · have := hm.lt_mut hne; simp only at he; omega
                          · rfl) hnew
                        (fun j hj => by obtain ⟨u, hu, hv⟩ := hcells j hj; exact ⟨u, by simpa using hu, hv.later hm d2⟩)
                      simp only [List.length_set, kill_length, List.set_set] at d3 d4
                      refine ⟨_, _, _, b9, ?_, d3, d2.trans d4⟩
                      refine last_own (m := m) (c' := c') (E := el) (f := (0, 0)) (cs' := cut cs' off (len * i.size) ++ xs) (by simp) (.inr ⟨h, ?_⟩) (upd_same _ _ _) h1 (by rw [List.length_append, hcl, hC.len, h6]) b2 hnew (by omega)
                      rw [List.getElem?_append_right (by simp [kill_length])]
                      simp [kill_length]
                    · cases hr
                  · simp only [Option.some.injEq, Prod.mk.injEq] at hr
                    obtain ⟨rfl, rfl⟩ := hr
                    obtain ⟨d1, d2⟩ := replace hm hrow' (w.heap.size, 0) (cut cs' off (len * i.size) ++ xs) m.n (m.n + 1) (by omega) (by omega) c' el (w' := w.drew.alloc (.cells c' el))
                      (.inr (Nat.le_refl _)) hsz rfl rfl rfl (fun b hb _ => hkeep b hb) (.inr (Nat.le_refl _)) hnew (fun j hj => by simpa using hcells j hj)
                    refine ⟨_, _, _, b9, ?_, d1, d2⟩
                    exact last_own (m := m) (c' := c') (E := el) (f := (0, 0)) (cs' := cut cs' off (len * i.size) ++ xs) (by simp) (.inl (set_last kid _ hrow')) (upd_same _ _ _) h1 (by rw [List.length_append, hcl, hC.len, h6]) b2 hnew (by omega)
    · cases hr

end

end Go.Am

namespace Go.Am

section
variable {O : Nat → Prop} {Γ : Ctx} {ρ : Nat → Nat × Nat} {m : Mem} {w : World} {t : List AV} {e : Operand → Value} {o : Oper}

theorem content_cont (hm : MemInv O ρ m w) {el : Nat} {x : AV} {v : Value} (hx : RV (Av O ρ m) ρ m w x v) {xs : List AV} {n : Nat} (hc : content m el x = some (xs, n)) (P : Program) :
    ∃ us, Cont O P ρ m w el v xs n us := by
  obtain ⟨h1, us, h2, h3, h4, h5⟩ := content_run hm hx hc
  refine ⟨us, h1, h2, h3, h4 P, fun w' hw => ?_⟩
  rw [h5 P w' n hw (Nat.le_refl _), List.take_of_length_le (by omega)]

theorem appendTo_sound {ats : Array TypeId} {el ty : TypeId} {i : TI} {x : Value} {xs : List AV} {n : Nat} {us : List Value} (hT : AppTy Γ ats el i) (hm : MemInv O ρ m w) (hC : Cont O Γ.P ρ m w i.size x xs n us) {fk : Bool}
    {s : AV} {v : Value} (hs : RV (Av O ρ m) ρ m w s v) {r : AV} {m' : Mem} (hr : appendTo fk i m s xs n = some (r, m')) : GivesV O Γ.P ρ m w (Builtin.append_ ats ty #[v, x]) r m' := by
  unfold appendTo at hr
  split at hr
  · have := rv_v hs
    subst this
    split at hr
    · rename_i hn0
      simp only [Option.some.injEq, Prod.mk.injEq] at hr
      obtain ⟨rfl, rfl⟩ := hr
      exact app_none hT hm hC _ _ _ hn0 (Nat.le_refl _) hs
    · split at hr
      · rename_i hn0 hb
        simp only [Option.some.injEq, Prod.mk.injEq] at hr
        obtain ⟨rfl, rfl⟩ := hr
        have := app_new (ty := ty) hT hm hC none 0 0 [] [] (by simp) rfl (fun j hj => absurd hj (by simp)) (by simp [Builtin.firstCells]) (by omega) (by simpa using hb.1) (by simpa using hb.2)
        simpa using this
      · cases hr
  · rename_i tight len cells
    have hv : ∃ a cap, v = .slice (some a) len cap ∧ len ≤ cap ∧ (tight = true → cap = len) := by
      cases hs with
      | d _ _ hd => cases hd with
        | emp _ a cap h0 => exact ⟨a, cap, rfl, Nat.zero_le _, h0⟩
        | sl _ _ _ b o cap us a1 a2 a3 a4 a5 a6 => exact ⟨_, cap, rfl, a5, a6⟩
    obtain ⟨a, cap, rfl, hlc, htight⟩ := hv
    split at hr
    · rename_i hn0
      simp only [Option.some.injEq, Prod.mk.injEq] at hr
      obtain ⟨rfl, rfl⟩ := hr
      exact app_none hT hm hC _ _ _ hn0 hlc hs
    · split at hr
      · rename_i hn0 hcond
        simp only [Bool.and_eq_true, decide_eq_true_eq] at hcond
        obtain ⟨⟨ht, hcl⟩, hb, hroom⟩ := hcond
        obtain rfl := htight ht
        simp only [Option.some.injEq, Prod.mk.injEq] at hr
        obtain ⟨rfl, rfl⟩ := hr
        have hcon : content m i.size (.d (.sl tight cap cells)) = some (cells.map .d, cap) := by simp [content, hcl]
        obtain ⟨h1, vs, h2, h3, _, h5⟩ := content_run hm hs hcon
        have hfo := h5 Γ.P w.drew cap rfl (Nat.le_refl _)
        rw [List.take_of_length_le (by omega)] at hfo
        exact app_new hT hm hC _ _ _ _ vs h1 h2 h3 hfo (by omega) hb hroom
      · cases hr
  · rename_i h g off len e' cap
    split at hr
    · rename_i he
      subst he
      exact appendOwn_sound hT hm hC hs hr
    · cases hr
  · cases hr

theorem op_append (ok : Γ.TyOk) (hm : MemInv O ρ m w) {c : Call} (ho : o.op = .call c) (hb : c.callee = .builtin .append) {x y : Operand} (ha : c.args.toList = [x, y]) (hx : RV (Av O ρ m) ρ m w (evalA t x) (e x)) (hy : RV (Av O ρ m) ρ m w (evalA t y) (e y))
    {fk : Bool} {r : AV} {m' : Mem} (hr : appendA Γ fk c.argTypes m (evalA t x) (evalA t y) = some (r, m')) : Gives O Γ.P ρ m w (execOp e o) r m' := by
  have hrun : GivesV O Γ.P ρ m w (Builtin.append_ c.argTypes o.type #[e x, e y]) r m' := by
    unfold appendA at hr
    split at hr
    · rename_i t0 t1 h0 h1
      split at hr
      · rename_i el i j he hj
        obtain ⟨hu, hI⟩ := elem_ok ok he
        split at hr
        · cases hr
        · rename_i hs0
          have hT : ∀ d, Γ.P.underlying t1 = some d → (∀ k, d ≠ .int k) → AppTy Γ c.argTypes el i := fun d hd hk => ⟨⟨t0, h0, hu⟩, ⟨t1, d, h1, hd, hk⟩, hI, by omega⟩
          split at hr
          · rename_i el' hk
            split at hr
            · cases hr
            · rename_i xs n hcon
              obtain ⟨us, hC⟩ := content_cont hm hy hcon Γ.P
              exact appendTo_sound (hT _ ((ok.ty _ _ hj).slice hk) (by simp)) hm hC hx hr
          · rename_i hk
            split at hr
            · cases hr
            · rename_i xs n hcon
              obtain ⟨us, hC⟩ := content_cont hm hy hcon Γ.P
              exact appendTo_sound (hT _ ((ok.ty _ _ hj).str hk) (by simp)) hm hC hx hr
          · cases hr
      · cases hr
    · cases hr
  obtain ⟨v, w', ρ', h1, h2, h3, h4⟩ := hrun
  refine ⟨v, w', ρ', .inl ?_, h2, h3, h4⟩
  rw [run_builtin ho hb, args_two ha]
  simp only [builtin, List.map_toArray, List.map_cons, List.map_nil, Sem.run_bind, h1, Result.andThen_ok, Sem.run_pure]

theorem op_copy (ok : Γ.TyOk) (hm : MemInv O ρ m w) {c : Call} (ho : o.op = .call c) (hb : c.callee = .builtin .copy) {x y : Operand} (ha : c.args.toList = [x, y]) (hx : RV (Av O ρ m) ρ m w (evalA t x) (e x)) (hy : RV (Av O ρ m) ρ m w (evalA t y) (e y))
    {r : AV} {m' : Mem} (hr : copyA Γ c.argTypes m (evalA t x) (evalA t y) = some (r, m')) : Gives O Γ.P ρ m w (execOp e o) r m' := by
  have hrun : GivesV O Γ.P ρ m w (Builtin.copy_ c.argTypes o.type #[e x, e y]) r m' := by
    unfold copyA at hr
    split at hr
    · rename_i el i hel
      split at hel
      · rename_i t0 h0
        obtain ⟨hu, hI⟩ := elem_ok ok hel
        split at hr
        · cases hr
        · split at hr
          · rename_i xs n hcon
            obtain ⟨h1, us, h2, h3, h4, h5⟩ := content_run hm hy hcon
            have hsz : ∀ w, (sizeOf el).run Γ.P w = .ok i.size w := fun w => hI.run_size w
            split at hr
            · rename_i h g off len e' cap hxe
              rw [hxe] at hx
              split at hr
              · rename_i cs kid hown
                split at hr
                · rename_i hcond
                  obtain ⟨rfl, hoff, hok⟩ := hcond
                  simp only [Option.some.injEq, Prod.mk.injEq] at hr
                  obtain ⟨rfl, rfl⟩ := hr
                  have hrow := own_row hown
                  obtain ⟨hg, cap', hv, a1, a2, a3, a4, a5⟩ := rv_own hx (by simp [row?, hrow] : row? m h g = some cs)
                  have hmin : min n len * i.size ≤ n * i.size := Nat.mul_le_mul_right _ (Nat.min_le_left _ _)
                  have hmin2 : min n len * i.size ≤ len * i.size := Nat.mul_le_mul_right _ (Nat.min_le_right _ _)
                  have hxl : (xs.take (min n len * i.size)).length = min n len * i.size := by rw [List.length_take]; omega
                  have hul : (us.take (min n len * i.size)).length = min n len * i.size := by rw [List.length_take]; omega
                  obtain ⟨w', b1, b2, b3⟩ := write_row (P := Γ.P) hm hrow off (xs.take (min n len * i.size)) (us.take (min n len * i.size)) (by omega) (by rw [hxl, hul]) (fun v hv => by
                    have hv' := List.mem_of_mem_take hv
                    obtain ⟨j, hj, hjv⟩ := List.getElem_of_mem hv'
                    have hjx : j < xs.length := by omega
                    have := h3 j hjx
                    rw [List.getD_eq_getElem?_getD, List.getElem?_eq_getElem hj, Option.getD_some, hjv] at this
                    exact cellOk_rv this (List.all_eq_true.mp hok _ (List.getElem_mem hjx))) (fun j hj => by
                    have hjm : j < min n len * i.size := by omega
                    have := h3 j (by omega)
                    rw [List.getElem_take, List.getD_eq_getElem?_getD, List.getElem?_take_of_lt hjm, ← List.getD_eq_getElem?_getD]
                    exact this)
                  refine ⟨.int .i64 (min n len : Nat), w', ρ, ?_, ?_, b2, b3⟩
                  · have h6 := h5 Γ.P w (min n len) rfl (Nat.min_le_left _ _)
                    have e1 : n.min len = min n len := rfl
                    simp [Builtin.copy_, h0, run_underlying hu, hv, h4, hsz, e1, h6, b1, goInt]
                  · have e1 : intA .i64 (min (n : Int) (len : Int)) = intA .i64 ((min n len : Nat) : Int) := by congr 1; omega
                    rw [e1]
                    exact rv_intA _ _ _
                · cases hr
              · cases hr
            · rename_i hxe
              rw [hxe] at hx
              simp only [Option.some.injEq, Prod.mk.injEq] at hr
              obtain ⟨rfl, rfl⟩ := hr
              have hv := rv_v hx
              have h6 := h5 Γ.P w 0 rfl (Nat.zero_le _)
              refine ⟨.int .i64 0, w, ρ, ?_, rv_intA _ _ _, hm, .refl _ _ _⟩
              have e1 : n.min 0 = 0 := Nat.min_zero n
              simp [Builtin.copy_, h0, run_underlying hu, hv, h4, hsz, e1, h6, goInt]
            · rename_i tt cells hxe
              rw [hxe] at hx
              simp only [Option.some.injEq, Prod.mk.injEq] at hr
              obtain ⟨rfl, rfl⟩ := hr
              have hv : ∃ a cap, e x = .slice (some a) 0 cap := by
                generalize hvv : e x = v at hx
                cases hx with
                | d _ _ hd => cases hd with
                  | emp _ a cap h0 => exact ⟨a, cap, rfl⟩
                  | sl _ _ _ b o cap us a1 a2 a3 a4 a5 a6 => exact ⟨_, cap, rfl⟩
              obtain ⟨a, cap, hv⟩ := hv
              have h6 := h5 Γ.P w 0 rfl (Nat.zero_le _)
              simp only [Nat.zero_mul, List.take_zero] at h6
              refine ⟨.int .i64 0, w, ρ, ?_, rv_intA _ _ _, hm, .refl _ _ _⟩
              have e1 : n.min 0 = 0 := Nat.min_zero n
              have e2 : (storeCells a []).run Γ.P w = .ok () w := rfl
              simp [Builtin.copy_, h0, run_underlying hu, hv, h4, hsz, e1, h6, e2, goInt]
            · cases hr
          · cases hr
      · cases hel
    · cases hr
  obtain ⟨v, w', ρ', h1, h2, h3, h4⟩ := hrun
  refine ⟨v, w', ρ', .inl ?_, h2, h3, h4⟩
  rw [run_builtin ho hb, args_two ha]
  simp only [builtin, List.map_toArray, List.map_cons, List.map_nil, Sem.run_bind, h1, Result.andThen_ok, Sem.run_pure]

theorem op_clear (ok : Γ.TyOk) (hm : MemInv O ρ m w) {c : Call} (ho : o.op = .call c) (hb : c.callee = .builtin .clear) {x : Operand} (ha : c.args.toList = [x]) (hx : RV (Av O ρ m) ρ m w (evalA t x) (e x))
    {m' : Mem} (hr : clearA Γ c.argTypes m (evalA t x) = some m') : Gives O Γ.P ρ m w (execOp e o) undefA m' := by
  have hrun : GivesV O Γ.P ρ m w (Builtin.clear_ c.argTypes o.type #[e x]) undefA m' := by
    unfold clearA at hr
    split at hr
    · rename_i el i hel
      split at hel
      · rename_i t0 h0
        obtain ⟨hu, hI⟩ := elem_ok ok hel
        have none_ok : ∀ v, e x = v → (∃ n c, v = .slice none n c) ∨ (∃ a c, v = .slice a 0 c) → (Builtin.clear_ c.argTypes o.type #[e x]).run Γ.P w = .ok undef w := by
          rintro v hv (⟨n, c', rfl⟩ | ⟨a, c', rfl⟩)
          · simp [Builtin.clear_, h0, run_underlying hu, hv, undef]
          · cases a <;> simp [Builtin.clear_, h0, run_underlying hu, hv, undef]
        split at hr
        · rename_i hxe
          rw [hxe] at hx
          simp only [Option.some.injEq] at hr
          subst hr
          exact ⟨undef, w, ρ, none_ok _ (rv_v hx) (.inl ⟨_, _, rfl⟩), RV.undef _ _ _ _, hm, .refl _ _ _⟩
        · rename_i hxe
          rw [hxe] at hx
          simp only [Option.some.injEq] at hr
          subst hr
          have hv : ∃ a cap, e x = .slice a 0 cap := by
            generalize hvv : e x = v at hx
            cases hx with
            | d _ _ hd => cases hd with
              | emp _ a cap h0 => exact ⟨_, cap, rfl⟩
              | sl _ _ _ b o cap us a1 a2 a3 a4 a5 a6 => exact ⟨_, cap, rfl⟩
          obtain ⟨a, cap, hv⟩ := hv
          exact ⟨undef, w, ρ, none_ok _ hv (.inr ⟨_, _, rfl⟩), RV.undef _ _ _ _, hm, .refl _ _ _⟩
        · rename_i h g off len e' cap hxe
          rw [hxe] at hx
          split at hr
          · rename_i hl0
            subst hl0
            split at hr
            · rename_i hrow
              simp only [Option.some.injEq] at hr
              subst hr
              obtain ⟨cs, s, kid, hb'⟩ := row_some hrow
              obtain ⟨_, cap', hv, _⟩ := rv_own hx (by simp [row?, hb'] : row? m h g = some cs)
              exact ⟨undef, w, ρ, none_ok _ hv (.inr ⟨_, _, rfl⟩), RV.undef _ _ _ _, hm, .refl _ _ _⟩
            · cases hr
          · rename_i hl0
            split at hr
            · rename_i cs kid hown
              split at hr
              · rename_i hcond
                obtain ⟨rfl, hoff⟩ := hcond
                simp only [Option.some.injEq] at hr
                subst hr
                have hrow := own_row hown
                obtain ⟨hg, cap', hv, a1, a2, a3, a4, a5⟩ := rv_own hx (by simp [row?, hrow] : row? m h g = some cs)
                have hz := zeros_cr (A := Av O ρ m) (ρ := ρ) (m := m) (w := w) hI (by omega) len
                obtain ⟨hz1, hz2⟩ := hz
                have hzl : (zerosA i len).length = len * i.size := by rw [zerosA_len, hI.zlen]
                have hzc : Builtin.zeroCells (zeroV i).cells len = (Array.range (len * i.size)).map fun x => (zeroV i).cells[x % (zeroV i).cells.size]! := by
                  simp [Builtin.zeroCells, hI.zero_cells, hI.zlen]
                obtain ⟨w', b1, b2, b3⟩ := write_row (P := Γ.P) hm hrow off (zerosA i len) (Builtin.zeroCells (zeroV i).cells len).toList (by omega) (by rw [hzl]; simp [Builtin.zeroCells, hI.zero_cells, hI.zlen]) (fun v hv => by
                  rw [hzc] at hv
                  obtain ⟨j, hj, hjv⟩ := List.getElem_of_mem hv
                  have hjx : j < (zerosA i len).length := by rw [hzl]; simpa using hj
                  obtain ⟨u, hu', hr⟩ := hz2 j hjx
                  have : u = v := by
                    have : ((Array.range (len * i.size)).map fun x => (zeroV i).cells[x % (zeroV i).cells.size]!).toList[j]? = some u := by rw [Array.getElem?_toList]; exact hu'
                    rw [List.getElem?_eq_getElem hj, hjv] at this
                    simpa using this.symm
                  subst this
                  refine cellOk_rv hr ?_
                  have hg2 := zerosA_get i len j (by rw [hI.zlen]; omega)
                  rw [List.getElem?_eq_getElem hjx] at hg2
                  simp only [Option.some.injEq] at hg2
                  rw [hg2]
                  have hmem : i.zero.getD (j % i.zero.length) undef ∈ i.zero := by
                    have hlt : j % i.zero.length < i.zero.length := Nat.mod_lt _ (by rw [hI.zlen]; omega)
                    rw [List.getD_eq_getElem?_getD, List.getElem?_eq_getElem hlt]
                    exact List.getElem_mem hlt
                  have := hI.zero_ok hmem
                  generalize i.zero.getD (j % i.zero.length) undef = z at this
                  cases z <;> simp_all [okV, cellOk]) (fun j hj => by
                  obtain ⟨u, hu', hr⟩ := hz2 j hj
                  rw [hzc, List.getD_eq_getElem?_getD, Array.getElem?_toList, hu']
                  exact hr)
                refine ⟨undef, w', ρ, ?_, RV.undef _ _ _ _, b2, b3⟩
                have hl1 : ∃ k, len = k + 1 := ⟨len - 1, by omega⟩
                obtain ⟨k, rfl⟩ := hl1
                simp [Builtin.clear_, h0, run_underlying hu, hv, hI.run_zero, b1, undef]
              · cases hr
            · cases hr
        · cases hr
      · cases hel
    · cases hr
  obtain ⟨v, w', ρ', h1, h2, h3, h4⟩ := hrun
  refine ⟨v, w', ρ', .inl ?_, h2, h3, h4⟩
  rw [run_builtin ho hb, args_one ha]
  simp only [builtin, List.map_toArray, List.map_cons, List.map_nil, Sem.run_bind, h1, Result.andThen_ok, Sem.run_pure]

end

end Go.Am

namespace Go.Am

section
variable {O : Nat → Prop} {Γ : Ctx} {ρ : Nat → Nat × Nat} {m : Mem} {w : World} {t : List AV} {e : Operand → Value} {o : Oper}

theorem strBytes_sound {A : Nat → Prop} : ∀ (cs : List AV) (l : List UInt8) (us : List Value), strBytes cs = some l → us.length = cs.length → (∀ j (hj : j < cs.length), RV A ρ m w (cs[j]'hj) (us.getD j undef)) →
    ∃ ns : List Int, us = ns.map (Value.int .u8) ∧ l = ns.map fun n => UInt8.ofNat n.toNat
  | [], l, us, h, hl, _ => by
    simp only [strBytes, Option.some.injEq] at h
    subst h
    obtain rfl : us = [] := List.length_eq_zero_iff.mp hl
    exact ⟨[], rfl, rfl⟩
  | c :: cs, l, us, h, hl, hv => by
    match us, hl with
    | u :: us, hl =>
      unfold strBytes at h
      split at h
      · rename_i heq; cases heq
      · rename_i n cs' heq
        simp only [List.cons.injEq] at heq
        obtain ⟨rfl, rfl⟩ := heq
        cases hq : strBytes cs with
        | none => rw [hq] at h; cases h
        | some l' =>
          rw [hq] at h
          simp only [Option.map_some, Option.some.injEq] at h
          obtain ⟨ns, h1, h2⟩ := strBytes_sound cs l' us hq (by simpa using hl) fun j hj => by
            have := hv (j + 1) (by simp; omega)
            simpa using this
          have h0 := hv 0 (by simp)
          simp only [List.getElem_cons_zero, List.getD_cons_zero] at h0
          have := rv_v h0
          exact ⟨n :: ns, by rw [this, h1]; rfl, by rw [← h, h2]; rfl⟩
      · cases h

theorem push_fold : ∀ (ns : List Int) (s : ByteArray), ns.foldl (fun r n => r.push (UInt8.ofNat n.toNat)) s = ⟨s.data ++ (ns.map fun n => UInt8.ofNat n.toNat).toArray⟩
  | [], s => by simp
  | n :: ns, s => by
    rw [List.foldl_cons, push_fold ns]
    congr 1
    apply Array.ext'
    simp [ByteArray.push]

theorem op_convert (ok : Γ.TyOk) (hm : MemInv O ρ m w) {src dst : TypeId} {x : Operand} (ho : o.op = .convert src dst x) (hx : RV (Av O ρ m) ρ m w (evalA t x) (e x)) {r : AV} (hr : convertA Γ src dst m (evalA t x) = some r) :
    Gives O Γ.P ρ m w (execOp e o) r m := by
  have hrun : ∃ v, (convert src dst (e x)).run Γ.P w = .ok v w ∧ RV (Av O ρ m) ρ m w r v := by
    unfold convertA at hr
    split at hr
    · rename_i i j hi hj
      have hI := ok.ty _ _ hi
      have hJ := ok.ty _ _ hj
      obtain ⟨d, hd, _⟩ := hI.desc
      split at hr
      · rename_i k k' n hk hxe
        simp only [Option.some.injEq] at hr
        subst hr
        rw [hxe] at hx
        have hu := hJ.int hk
        have hv := rv_v hx
        refine ⟨.int k (k.wrap n), ?_, rv_intA _ _ _⟩
        simp [convert, run_underlying hd, run_underlying hu, hv, Conv.intToInt]
      · rename_i s hk hxe
        simp only [Option.some.injEq] at hr
        subst hr
        rw [hxe] at hx
        have hu := hJ.str hk
        have hv := rv_v hx
        refine ⟨.string s, ?_, .d _ _ (.v _)⟩
        simp [convert, run_underlying hd, run_underlying hu, hv]
      · rename_i y hk hxe
        have hu := hJ.str hk
        split at hr
        · rename_i el hk2
          have hu2 := hI.slice hk2
          split at hr
          · rename_i _ _ _ _ _ hel
            have hE := (ok.ty _ _ hel).int rfl
            split at hr
            · rename_i cs n hcon
              obtain ⟨h1, us, h2, h3, h4, h5⟩ := content_run hm hx hcon
              split at hr
              · cases hr
              · rename_i hns
                cases hq : strBytes cs with
                | none => rw [hq] at hr; cases hr
                | some l =>
                  rw [hq] at hr
                  simp only [Option.map_some, Option.some.injEq] at hr
                  subst hr
                  obtain ⟨ns, h6, h7⟩ := strBytes_sound cs l us hq h2 h3
                  refine ⟨.string ⟨l.toArray⟩, ?_, .d _ _ (.v _)⟩
                  have hf := h5 Γ.P w n rfl (Nat.le_refl _)
                  rw [List.take_of_length_le (by omega), h6] at hf
                  have hsl : ∃ a c, e x = .slice a n c := by
                    have := h4 Γ.P w
                    generalize hv : e x = v at this hx
                    generalize hxx : evalA t x = a at hx hcon hns
                    unfold content at hcon
                    split at hcon
                    · cases hx with
                      | d _ _ hd => cases hd <;> (simp only [Builtin.lenOf, Sem.run_pure, Result.ok.injEq] at this; rw [this.1]; exact ⟨_, _, rfl⟩)
                    · have := rv_v hx; subst this
                      simp only [Option.some.injEq, Prod.mk.injEq] at hcon
                      rw [← hcon.2]; exact ⟨_, _, rfl⟩
                    · exact absurd rfl (hns _)
                    · cases hx with
                      | own => simp only [Builtin.lenOf, Sem.run_pure, Result.ok.injEq] at this; rw [this.1]; exact ⟨_, _, rfl⟩
                    · cases hcon
                  obtain ⟨a, c, hv⟩ := hsl
                  rw [hv] at hf ⊢
                  rw [run_convert_bytes_string w src dst el a n c hu2 hE hu]
                  cases a with
                  | none =>
                    simp only [Builtin.firstCells, Sem.run_pure, Result.ok.injEq, and_true] at hf
                    have : ns = [] := by
                      have := congrArg Array.size hf
                      simp only [List.size_toArray, List.length_map, Array.size_empty] at this
                      exact List.length_eq_zero_iff.mp this.symm
                    subst this
                    simp only [List.map_nil] at h7
                    subst h7
                    rfl
                  | some a =>
                    simp only [Builtin.firstCells, Nat.mul_one] at hf
                    rw [run_bytesToString w a n c ns hf, push_fold, h7]
                    simp [ByteArray.empty, ByteArray.emptyWithCapacity]
                    rfl
            · cases hr
          · cases hr
        · cases hr
      · cases hr
    · cases hr
  obtain ⟨v, h1, h2⟩ := hrun
  refine .same hm (v := v) ?_ h2
  simp only [execOp, ho, Sem.run_bind, h1, Result.andThen_ok, Sem.run_pure]

theorem keyEq_true {k x : Value} (h : keyEq k x = some true) : k = x := by
  unfold keyEq at h
  split at h
  · split at h
    · rename_i hk; subst hk; simp only [Option.some.injEq, beq_iff_eq] at h; rw [h]
    · cases h
  · rename_i a b
    simp only [Option.some.injEq] at h
    obtain ⟨⟨a⟩⟩ := a
    obtain ⟨⟨b⟩⟩ := b
    have h' : ((⟨a⟩ : Array UInt8) == ⟨b⟩) = true := h
    rw [beq_iff_eq] at h'
    rw [h']
  · cases h

theorem keyEq_bits {k x : Value} (h : keyEq k x = some true) (n : Nat) : Instr.sameBits n x k = true := by
  unfold keyEq at h
  split at h
  · split at h
    · rename_i hk; subst hk; simp only [Option.some.injEq, beq_iff_eq] at h; subst h; cases n <;> simp [Instr.sameBits]
    · cases h
  · rename_i a b
    have he := keyEq_true (k := .string a) (x := .string b) (by simpa [keyEq] using h)
    simp only [Value.string.injEq] at he
    subst he
    simp only [Option.some.injEq] at h
    cases n <;> simpa [Instr.sameBits] using h
  · cases h

/-- The key type's description lets the keys be compared at once. -/
def KeyDesc (d : TypeDesc) (k : Value) : Prop := ∀ x b, keyEq k x = some b → Instr.sameNow d k x = some b

theorem keyFits_desc (ok : Γ.TyOk) {kt : TypeId} {k : Value} (h : keyFits Γ kt k = true) : ∃ d, Γ.P.underlying kt = some d ∧ KeyDesc d k ∧ (∀ b n w, (Instr.checkKey b (n + 1) kt k).run Γ.P w = .ok () w) := by
  unfold keyFits at h
  split at h
  · rename_i kk a
    split at h
    · rename_i _ _ _ _ _ _ hty
      have hu := (ok.ty _ _ hty).int rfl
      refine ⟨_, hu, fun x b hx => ?_, fun b n w => by simp [Instr.checkKey, run_underlying hu]⟩
      unfold keyEq at hx
      cases x <;> simp_all [Instr.sameNow]
    · cases h
  · rename_i s
    split at h
    · rename_i _ _ _ _ _ hty
      have hu := (ok.ty _ _ hty).str rfl
      refine ⟨_, hu, fun x b hx => ?_, fun b n w => by simp [Instr.checkKey, run_underlying hu]⟩
      unfold keyEq at hx
      cases x <;> simp_all [Instr.sameNow]
    · cases h
  · cases h

theorem find_sound {d : TypeDesc} {k : Value} (hd : KeyDesc d k) {A : Nat → Prop} : ∀ (es : List (Value × AV)) (ces : List MapEntry) (i : Nat) (q : Option AV), findA k es = some q → ces.length = es.length →
    (∀ j (hj : j < es.length), ∃ e, ces[j]? = some e ∧ e.key = (es[j]'hj).1 ∧ RV A ρ m w (es[j]'hj).2 e.val) →
    (q = none ∧ Instr.findNow d k ces i = some none) ∨ ∃ v u j, q = some v ∧ Instr.findNow d k ces i = some (some (j, u)) ∧ RV A ρ m w v u
  | [], ces, i, q, h, hl, _ => by
    obtain rfl : ces = [] := List.length_eq_zero_iff.mp hl
    simp only [findA, Option.some.injEq] at h
    exact .inl ⟨h.symm, rfl⟩
  | (x, v) :: es, ces, i, q, h, hl, hv => by
    match ces, hl with
    | c :: ces, hl =>
      obtain ⟨e0, h0, hk, hr⟩ := hv 0 (by simp)
      simp only [List.getElem?_cons_zero, Option.some.injEq] at h0
      subst h0
      simp only [List.getElem_cons_zero] at hk hr
      unfold findA at h
      split at h
      · rename_i hq
        simp only [Option.some.injEq] at h
        subst h
        rw [← hk] at hq
        exact .inr ⟨v, c.val, i, rfl, by simp [Instr.findNow, hd _ _ hq], hr⟩
      · rename_i hq
        rw [← hk] at hq
        have := find_sound hd es ces (i + 1) q h (by simpa using hl) fun j hj => by
          have := hv (j + 1) (by simp; omega)
          simpa using this
        simpa [Instr.findNow, hd _ _ hq] using this
      · cases h

theorem op_lookup (ok : Γ.TyOk) (hm : MemInv O ρ m w) {ty : TypeId} {x y : Operand} {cok : Bool} (ho : o.op = .lookup ty x y cok) (hx : RV (Av O ρ m) ρ m w (evalA t x) (e x)) (hy : RV (Av O ρ m) ρ m w (evalA t y) (e y)) {r : AV}
    (hr : lookupA Γ ty m (evalA t x) (evalA t y) cok = some r) : Gives O Γ.P ρ m w (execOp e o) r m := by
  have hrun : ∃ v, (Instr.lookup ty (e x) (e y) cok).run Γ.P w = .ok v w ∧ RV (Av O ρ m) ρ m w r v := by
    unfold lookupA at hr
    split at hr
    · rename_i kt et _ _ _ _ _ k hty hye
      rw [hye] at hy
      have hv := rv_v hy
      have hu := (ok.ty _ _ hty).map rfl
      split at hr
      · rename_i hfit
        obtain ⟨d, hd, hkd, hck⟩ := keyFits_desc ok hfit
        split at hr
        · rename_i i hi
          have hI := ok.ty _ _ hi
          have hes : ∀ es, entriesA m (evalA t x) = some es → ∃ ces : Array MapEntry, ces.size = es.length ∧ (∀ j (hj : j < es.length), ∃ e, ces[j]? = some e ∧ e.key = (es[j]'hj).1 ∧ RV (Av O ρ m) ρ m w (es[j]'hj).2 e.val) ∧
                ∀ q, (Instr.findKey kt k ces.toList).run Γ.P w = .ok q w → (Instr.lookup ty (e x) k cok).run Γ.P w =
                  .ok (match q with | some (_, v) => if cok then .tuple #[v, .bool true] else v | none => if cok then .tuple #[zeroV i, .bool false] else zeroV i) w := by
            intro es hes
            have hck' : ∀ b w, (Instr.checkKey b 10000 kt k).run Γ.P w = .ok () w := fun b w => hck b 9999 w
            generalize hxx : evalA t x = a at hes hx
            unfold entriesA at hes
            split at hes
            · simp only [Option.some.injEq] at hes
              subst hes
              have hvx := rv_v hx
              refine ⟨#[], rfl, fun j hj => absurd hj (by simp), fun q hq => ?_⟩
              simp only [Instr.lookup, Sem.run_bind, run_underlying hu, Result.andThen_ok, hvx, Sem.run_pure, hck', hq]
              cases q <;> simp only [Sem.run_bind, Sem.run_pure, Result.andThen_ok, hI.run_zero] <;> rfl
            · rename_i h g
              split at hes
              · rename_i es' g' hb
                split at hes
                · rename_i hg
                  subst hg
                  simp only [Option.some.injEq] at hes
                  subst hes
                  generalize hvx : e x = vx at hx
                  cases hx with
                  | mp _ _ r hg hr =>
                    have hr' := hr es' hb
                    subst hr'
                    obtain ⟨_, _, ces, kk, hc, hsz, hcell⟩ := hm.map h es' g' hb
                    have hget : (getObj (ρ h).1).run Γ.P w = .ok (.map ces kk) w := by simp [getObj, Sem.run, hc]
                    refine ⟨ces, hsz, hcell, fun q hq => ?_⟩
                    simp only [Instr.lookup, Sem.run_bind, run_underlying hu, Result.andThen_ok, hget, Sem.run_pure, hck', hq]
                    cases q <;> simp only [Sem.run_bind, Sem.run_pure, Result.andThen_ok, hI.run_zero] <;> rfl
                · cases hes
              · cases hes
            · cases hes
          split at hr
          · rename_i es hes'
            obtain ⟨ces, hsz, hcell, hlk⟩ := hes es hes'
            rw [hv]
            have hfk : ∀ r, Instr.findNow d k ces.toList 0 = some r → (Instr.findKey kt k ces.toList).run Γ.P w = .ok r w := by
              intro r hr
              simp [Instr.findKey, run_underlying hd, hr]
            split at hr
            · rename_i v hf
              simp only [Option.some.injEq] at hr
              rcases find_sound hkd es ces.toList 0 _ hf (by simpa using hsz) (fun j hj => by simpa using hcell j hj) with ⟨hq, _⟩ | ⟨v', u, j, hq, hfn, hru⟩
              · cases hq
              · simp only [Option.some.injEq] at hq
                subst hq
                refine ⟨if cok then .tuple #[u, .bool true] else u, ?_, ?_⟩
                · exact hlk _ (hfk _ hfn)
                · subst hr
                  cases cok with
                  | false => exact hru
                  | true =>
                    refine .tu [v, boolA true] [u, .bool true] rfl fun j hj => ?_
                    match j, hj with
                    | 0, _ => exact hru
                    | 1, _ => exact rv_boolA _ _
            · rename_i hf
              rcases find_sound hkd es ces.toList 0 _ hf (by simpa using hsz) (fun j hj => by simpa using hcell j hj) with ⟨_, hfn⟩ | ⟨v', u, j, hq, _⟩
              · split at hr
                · rename_i z hz
                  simp only [Option.some.injEq] at hr
                  have hzr : RV (Av O ρ m) ρ m w z (zeroV i) := by
                    split at hz
                    · rename_i hagg
                      simp only [Option.some.injEq] at hz
                      subst hz
                      have := zeroA_cr (ρ := ρ) (m := m) (w := w) (A := Av O ρ m) hI
                      have h2 := cr_ag this
                      rw [TIOk.zero_agg hagg] at h2 ⊢
                      exact h2
                    · rename_i hagg
                      split at hz
                      · rename_i z0 hz0
                        simp only [Option.some.injEq] at hz
                        subst hz
                        simp only [zeroV, hagg, Bool.false_eq_true, if_false, hz0, List.headD_cons]
                        exact .d _ _ (.v _)
                      · cases hz
                  refine ⟨if cok then .tuple #[zeroV i, .bool false] else zeroV i, ?_, ?_⟩
                  · exact hlk _ (hfk _ hfn)
                  · subst hr
                    cases cok with
                    | false => exact hzr
                    | true =>
                      refine .tu [z, boolA false] [zeroV i, .bool false] rfl fun j hj => ?_
                      match j, hj with
                      | 0, _ => exact hzr
                      | 1, _ => exact rv_boolA _ _
                · cases hr
              · cases hq
            · cases hr
          · cases hr
        · cases hr
      · cases hr
    · cases hr
  obtain ⟨v, h1, h2⟩ := hrun
  refine .same hm (v := v) ?_ h2
  simp only [execOp, ho, Sem.run_bind, h1, Result.andThen_ok, Sem.run_pure]

end

end Go.Am

namespace Go.Am

section
variable {O : Nat → Prop} {Γ : Ctx} {ρ : Nat → Nat × Nat} {m : Mem} {w : World} {t : List AV} {e : Operand → Value} {o : Oper}

theorem put_sound {d : TypeDesc} {k : Value} (hd : KeyDesc d k) (v : AV) : ∀ (es : List (Value × AV)) (ces : List MapEntry) (i : Nat) (es' : List (Value × AV)), putA k v es = some es' → ces.length = es.length →
    (∀ j (hj : j < es.length), ∃ e, ces[j]? = some e ∧ e.key = (es[j]'hj).1) →
    (es' = es ++ [(k, v)] ∧ Instr.findNow d k ces i = some none) ∨
      ∃ u j, j < es.length ∧ Instr.findNow d k ces i = some (some (i + j, u)) ∧ es' = es.set j (k, v) ∧ ∃ e, ces[j]? = some e ∧ keyEq k e.key = some true
  | [], ces, i, es', h, hl, _ => by
    obtain rfl : ces = [] := List.length_eq_zero_iff.mp hl
    simp only [putA, Option.some.injEq] at h
    exact .inl ⟨h.symm, rfl⟩
  | (x, u) :: es, ces, i, es', h, hl, hv => by
    match ces, hl with
    | c :: ces, hl =>
      obtain ⟨e0, h0, hk⟩ := hv 0 (by simp)
      simp only [List.getElem?_cons_zero, Option.some.injEq] at h0
      subst h0
      simp only [List.getElem_cons_zero] at hk
      unfold putA at h
      split at h
      · rename_i hq
        simp only [Option.some.injEq] at h
        subst h
        rw [← hk] at hq
        exact .inr ⟨c.val, 0, by simp, by simp [Instr.findNow, hd _ _ hq], by simp, c, by simp, hq⟩
      · rename_i hq
        rw [← hk] at hq
        cases hp : putA k v es with
        | none => rw [hp] at h; cases h
        | some es2 =>
          rw [hp] at h
          simp only [Option.map_some, Option.some.injEq] at h
          subst h
          have := put_sound hd v es ces (i + 1) es2 hp (by simpa using hl) fun j hj => by
            have := hv (j + 1) (by simp; omega)
            simpa using this
          rcases this with ⟨rfl, hf⟩ | ⟨u', j, hj, hf, rfl, e, he, hke⟩
          · exact .inl ⟨by simp, by simp [Instr.findNow, hd _ _ hq, hf]⟩
          · refine .inr ⟨u', j + 1, by simp; omega, ?_, by simp, e, by simpa using he, hke⟩
            simp only [Instr.findNow, hd _ _ hq, hf]
            congr 3; omega
      · cases h

theorem op_mapUpdate (ok : Γ.TyOk) (hm : MemInv O ρ m w) {ty : TypeId} {x y z : Operand} (ho : o.op = .mapUpdate ty x y z) (hx : RV (Av O ρ m) ρ m w (evalA t x) (e x)) (hy : RV (Av O ρ m) ρ m w (evalA t y) (e y))
    (hz : RV (Av O ρ m) ρ m w (evalA t z) (e z)) {m' : Mem} (hr : mapSetA Γ ty m (evalA t x) (evalA t y) (evalA t z) = some m') : Gives O Γ.P ρ m w (execOp e o) undefA m' := by
  unfold mapSetA at hr
  split at hr
  · rename_i kt et _ _ _ _ _ k h g hty hye hxe
    rw [hye] at hy
    rw [hxe] at hx
    have hv := rv_v hy
    have hu := (ok.ty _ _ hty).map rfl
    split at hr
    · rename_i hfit
      obtain ⟨d, hd, hkd, hck⟩ := keyFits_desc ok hfit
      split at hr
      · rename_i es g' hb
        split at hr
        · rename_i hg
          subst hg
          cases hp : putA k (evalA t z) es with
          | none => rw [hp] at hr; cases hr
          | some es' =>
            rw [hp] at hr
            simp only [Option.map_some, Option.some.injEq] at hr
            subst hr
            generalize hvx : e x = vx at hx
            cases hx with
            | mp _ _ r hg hr =>
              have hr' := hr es hb
              subst hr'
              obtain ⟨_, _, ces, kk, hc, hsz, hcell⟩ := hm.map h es g' hb
              have hget : (getObj (ρ h).1).run Γ.P w = .ok (.map ces kk) w := by simp [getObj, Sem.run, hc]
              have hlt : (ρ h).1 < w.heap.size := hm.lt_mut (.inr ⟨es, g', hb⟩)
              have hck' : (Instr.checkKey false 10000 kt k).run Γ.P w = .ok () w := hck false 9999 w
              have hfk : ∀ r, Instr.findNow d k ces.toList 0 = some r → (Instr.findKey kt k ces.toList).run Γ.P w = .ok r w := by
                intro r hr
                simp [Instr.findKey, run_underlying hd, hr]
              have fin : ∀ (ces' : Array MapEntry) (kk' : Nat), (Instr.mapUpdate ty (.map (some (ρ h).1)) k (e z)).run Γ.P w = .ok () { w with heap := w.heap.setIfInBounds (ρ h).1 (.map ces' kk') } →
                  ces'.size = es'.length → (∀ j (hj : j < es'.length), ∃ e, ces'[j]? = some e ∧ e.key = (es'[j]'hj).1 ∧ RV (Av O ρ m) ρ m w (es'[j]'hj).2 e.val) →
                  Gives O Γ.P ρ m w (execOp e o) undefA ⟨m.b.set h (.map es' g'), m.n⟩ := by
                intro ces' kk' h1 h2 h3
                obtain ⟨h4, h5⟩ := mapWrite hm hb es' ces' kk' (w' := { w with heap := w.heap.setIfInBounds (ρ h).1 (.map ces' kk') }) (by simp) rfl rfl rfl
                  (fun b _ hne => by simp [Array.getElem?_setIfInBounds_ne (fun e => hne e.symm)]) (by simp [hlt]) h2 h3
                refine ⟨undef, _, ρ, .inr ⟨?_, rfl⟩, RV.undef _ _ _ _, h4, h5⟩
                simp only [execOp, ho, hvx, hv, Sem.run_bind, h1, Result.andThen_ok, Sem.run_pure]
              rcases put_sound hkd (evalA t z) es ces.toList 0 es' hp (by simpa using hsz) (fun j hj => by obtain ⟨e, h1, h2, _⟩ := hcell j hj; exact ⟨e, by simpa using h1, h2⟩) with ⟨rfl, hf⟩ | ⟨u, j, hj, hf, rfl, e0, he0, hke⟩
              · refine fin (ces.push { key := k, val := e z, born := kk }) (kk + 1) ?_ (by simp [hsz]) fun j hj => ?_
                · simp only [Instr.mapUpdate, Sem.run_bind, run_underlying hu, Result.andThen_ok, hget, hck', hfk _ hf]
                  simp [setObj, Sem.run, hc]
                · simp only [List.length_append, List.length_singleton] at hj
                  by_cases hjl : j < es.length
                  · obtain ⟨e1, h1, h2, h3⟩ := hcell j hjl
                    rw [Array.getElem?_push_lt (by omega)]
                    refine ⟨e1, by simpa [Array.getElem?_eq_getElem (by omega : j < ces.size)] using h1, ?_, ?_⟩ <;> rw [List.getElem_append_left hjl] <;> assumption
                  · have : j = es.length := by omega
                    subst this
                    refine ⟨{ key := k, val := e z, born := kk }, by rw [← hsz]; simp, ?_, ?_⟩ <;> simp
                    exact hz
              · simp only [Nat.zero_add] at hf
                have he0' : ces[j]? = some e0 := by simpa using he0
                refine fin (ces.modify j fun e' => { e' with key := k, val := e z }) kk ?_ (by simp [hsz]) fun j' hj' => ?_
                · have hkt : (Instr.keyThatStays (((ces[j]?).map (·.key)).getD k) k).run Γ.P w = .ok k w := by
                    rw [he0']
                    simp only [Option.map_some, Option.getD_some, Instr.keyThatStays, keyEq_bits hke 10000, if_true, Sem.run_pure]
                  simp only [Instr.mapUpdate, Sem.run_bind, run_underlying hu, Result.andThen_ok, hget, hck', hfk _ hf, hkt]
                  simp [setObj, Sem.run, hc]
                · simp only [List.length_set] at hj'
                  rw [Array.getElem?_modify]
                  by_cases hjj : j = j'
                  · subst hjj
                    rw [if_pos rfl, he0']
                    exact ⟨_, rfl, by simp, by simpa using hz⟩
                  · rw [if_neg hjj]
                    obtain ⟨e1, h1, h2, h3⟩ := hcell j' hj'
                    refine ⟨e1, h1, ?_, ?_⟩ <;> rw [List.getElem_set_ne hjj] <;> assumption
        · cases hr
      · cases hr
    · cases hr
  · cases hr

end

end Go.Am

namespace Go.Am

section
variable {O : Nat → Prop} {Γ : Ctx} {ρ : Nat → Nat × Nat} {m : Mem} {w : World} {t : List AV} {e : Operand → Value} {o : Oper}

theorem some_of {q : Option AV} {m : Mem} {r : AV} {m' : Mem} (h : (match q with | some a => some (a, m) | none => none) = some (r, m')) : q = some r ∧ m' = m := by
  cases q with
  | none => cases h
  | some a => simp only [Option.some.injEq, Prod.mk.injEq] at h; exact ⟨by rw [h.1], h.2.symm⟩

theorem unit_of {q : Option Mem} {r : AV} {m' : Mem} (h : (match q with | some m => some (undefA, m) | none => none) = some (r, m')) : q = some m' ∧ r = undefA := by
  cases q with
  | none => cases h
  | some a => simp only [Option.some.injEq, Prod.mk.injEq] at h; exact ⟨by rw [h.2], h.1.symm⟩

theorem opA_sound (ok : Γ.TyOk) (hm : MemInv O ρ m w) {fk : Nat → Bool} (hx : ∀ x ∈ o.op.operands.toList, RV (Av O ρ m) ρ m w (evalA t x) (e x)) {r : AV} {m' : Mem} (hr : opA Γ fk t m o = some (r, m')) :
    Gives O Γ.P ρ m w (execOp e o) r m' := by
  unfold opA at hr
  simp only at hr
  split at hr
  · rename_i x ho
    simp only [Option.some.injEq, Prod.mk.injEq] at hr
    obtain ⟨rfl, rfl⟩ := hr
    exact op_move hm (.inl ho) (hx x (by simp [ho, Op.operands]))
  · rename_i x ho
    simp only [Option.some.injEq, Prod.mk.injEq] at hr
    obtain ⟨rfl, rfl⟩ := hr
    exact op_move hm (.inr ho) (hx x (by simp [ho, Op.operands]))
  · rename_i c a b ho
    split at hr
    · rename_i cb hc
      have hcx := hx c (by simp [ho, Op.operands])
      rw [hc] at hcx
      have := op_pick (Γ := Γ) hm ho hcx (hx a (by simp [ho, Op.operands])) (hx b (by simp [ho, Op.operands]))
      simp only [Option.some.injEq, Prod.mk.injEq] at hr
      obtain ⟨rfl, rfl⟩ := hr
      exact this
    · cases hr
  · rename_i el ho
    split at hr
    · rename_i i hi
      simp only [Option.some.injEq, Prod.mk.injEq] at hr
      obtain ⟨rfl, rfl⟩ := hr
      exact op_alloc ok hm ho hi
    · cases hr
  · rename_i ty x ho
    split at hr
    · rename_i cs hc
      simp only [Option.some.injEq, Prod.mk.injEq] at hr
      obtain ⟨rfl, rfl⟩ := hr
      exact op_box hm ho (hx x (by simp [ho, Op.operands])) hc
    · cases hr
  · rename_i ty parts ho
    split at hr
    · rename_i i hi
      split at hr
      · rename_i place hpl
        obtain ⟨h1, rfl⟩ := some_of hr
        cases hf : fillA place t (zeroA i) parts.toList with
        | none => rw [hf] at h1; cases h1
        | some ys =>
          rw [hf] at h1
          simp only [Option.map_some, Option.some.injEq] at h1
          subst h1
          exact op_build ok hm ho (fun p hp => hx p.2 (by simp only [ho, Op.operands]; exact List.mem_map.mpr ⟨p, hp, rfl⟩)) hi hpl hf
      · cases hr
    · cases hr
  · rename_i ty len parts ho
    split at hr
    · rename_i el i hi
      split at hr
      · cases hr
      · rename_i hs
        split at hr
        · rename_i cs hf
          simp only [Option.some.injEq, Prod.mk.injEq] at hr
          obtain ⟨rfl, rfl⟩ := hr
          obtain ⟨c, h1, h2, h3⟩ := op_buildSlice (ρ := ρ) (m := m) (w := w) (O := O) ok ho (fun p hp => hx p.2 (by simp only [ho, Op.operands]; exact List.mem_map.mpr ⟨p, hp, rfl⟩)) hi hs hf
          exact push_own hm cs c el h1 len i.size len (Nat.pos_of_ne_zero fun h0 => hs (.inl h0)) (Nat.le_refl _) (by omega) h3
        · cases hr
    · cases hr
  · rename_i ty a ho
    obtain ⟨h1, rfl⟩ := some_of hr
    obtain ⟨v, h2, h3⟩ := op_load ok hm ho (hx a (by simp [ho, Op.operands])) h1
    exact .same hm h2 h3
  · rename_i ty a x ho
    obtain ⟨h1, rfl⟩ := unit_of hr
    exact op_store ok hm ho (hx a (by simp [ho, Op.operands])) (hx x (by simp [ho, Op.operands])) h1
  · rename_i x ho
    have hxx := hx x (by simp [ho, Op.operands])
    split at hr
    · rename_i h g off hxe
      split at hr
      · rename_i hrow
        simp only [Option.some.injEq, Prod.mk.injEq] at hr
        obtain ⟨rfl, rfl⟩ := hr
        rw [← hxe]
        exact op_nilCheck hm ho hxx (.inl ⟨h, g, off, hxe, hrow⟩)
      · cases hr
    · rename_i c hxe
      simp only [Option.some.injEq, Prod.mk.injEq] at hr
      obtain ⟨rfl, rfl⟩ := hr
      rw [← hxe]
      exact op_nilCheck hm ho hxx (.inr (.inl ⟨c, hxe⟩))
    · rename_i f cs hxe
      simp only [Option.some.injEq, Prod.mk.injEq] at hr
      obtain ⟨rfl, rfl⟩ := hr
      rw [← hxe]
      exact op_nilCheck hm ho hxx (.inr (.inr ⟨f, cs, hxe⟩))
    · cases hr
  · rename_i op ty x y ty2 ho
    obtain ⟨h1, rfl⟩ := some_of hr
    obtain ⟨v, h2, h3⟩ := binA_sound ok (hx x (by simp [ho, Op.operands])) (hx y (by simp [ho, Op.operands])) ho h1
    exact .same hm h2 h3
  · rename_i op ty x ho
    obtain ⟨h1, rfl⟩ := some_of hr
    exact op_unOp hm ho (hx x (by simp [ho, Op.operands])) h1
  · rename_i src dst x ho
    obtain ⟨h1, rfl⟩ := some_of hr
    exact op_convert ok hm ho (hx x (by simp [ho, Op.operands])) h1
  · rename_i fn first caps ho
    split at hr
    · rename_i f
      split at hr
      · rename_i h0
        simp only [Option.some.injEq, Prod.mk.injEq] at hr
        obtain ⟨rfl, rfl⟩ := hr
        exact op_makeFunc hm ho h0 fun x hxm => hx x (by simp only [ho, Op.operands]; simp; exact .inr (by simpa using hxm))
      · cases hr
    · cases hr
  · rename_i ty q ho
    split at hr
    · rename_i hq
      simp only [Option.some.injEq, Prod.mk.injEq] at hr
      obtain ⟨rfl, rfl⟩ := hr
      exact op_makeMap (t := t) ok hm ho (fun x hxq => by cases hxq)
    · rename_i x
      split at hr
      · rename_i k n _ _ _ _ _ _ _ hxe hty
        simp only [Option.some.injEq, Prod.mk.injEq] at hr
        obtain ⟨rfl, rfl⟩ := hr
        refine op_makeMap (t := t) ok hm ho fun x' hxq => ?_
        simp only [Option.some.injEq] at hxq
        subst hxq
        exact ⟨hx x (by simp [ho, Op.operands]), k, n, hxe, _, _, _, hty, rfl⟩
      · cases hr
  · rename_i ty l c ho
    split at hr
    · rename_i el i l' c' hi hl hc
      split at hr
      · cases hr
      · rename_i hs
        split at hr
        · rename_i hle
          simp only [Option.some.injEq, Prod.mk.injEq] at hr
          obtain ⟨rfl, rfl⟩ := hr
          exact op_makeSlice ok hm ho (hx l (by simp [ho, Op.operands])) (hx c (by simp [ho, Op.operands])) hi hl hc hs hle
        · cases hr
    · cases hr
  · rename_i ty x lo hi mx ho
    obtain ⟨h1, rfl⟩ := some_of hr
    exact op_slice ok hm ho (hx x (by simp [ho, Op.operands])) (fun y hy => hx y (by simp [ho, Op.operands, hy])) (fun y hy => hx y (by simp [ho, Op.operands, hy])) (fun y hy => hx y (by simp [ho, Op.operands, hy])) h1
  · rename_i ty x f ho
    have hxx := hx x (by simp [ho, Op.operands])
    split at hr
    · rename_i fs _ _ _ _ _ hty
      split at hr
      · rename_i off' size ft h g off hf hxe
        split at hr
        · cases hr
        · rename_i hs
          split at hr
          · rename_i hrow
            simp only [Option.some.injEq, Prod.mk.injEq] at hr
            obtain ⟨rfl, rfl⟩ := hr
            exact op_fieldAddr ok hm ho hxx hty rfl hf hs (.inl ⟨h, g, off, hxe, hrow, rfl⟩)
          · cases hr
      · rename_i off' size ft cells hf hxe
        split at hr
        · cases hr
        · rename_i hs
          split at hr
          · rename_i hle
            simp only [Option.some.injEq, Prod.mk.injEq] at hr
            obtain ⟨rfl, rfl⟩ := hr
            exact op_fieldAddr ok hm ho hxx hty rfl hf hs (.inr ⟨cells, hxe, hle, rfl⟩)
          · cases hr
      · cases hr
    · cases hr
  · rename_i ty x f ho
    have hxx := hx x (by simp [ho, Op.operands])
    split at hr
    · rename_i fs _ _ _ _ _ hty
      split at hr
      · rename_i off size ft cs hf hxe
        split at hr
        · rename_i j hj
          obtain ⟨h1, rfl⟩ := some_of hr
          exact op_field ok hm ho hxx hty rfl hf hxe hj h1
        · cases hr
      · cases hr
    · cases hr
  · rename_i ty x i ho
    obtain ⟨h1, rfl⟩ := some_of hr
    exact op_indexAddr ok hm ho (hx x (by simp [ho, Op.operands])) (hx i (by simp [ho, Op.operands])) h1
  · rename_i ty x i ho
    have hxx := hx x (by simp [ho, Op.operands])
    have hxi := hx i (by simp [ho, Op.operands])
    split at hr
    · cases hr
    · rename_i k hk
      split at hr
      · rename_i n el _ _ _ _ _ cs hty hxe
        split at hr
        · rename_i j hj
          split at hr
          · rename_i hlt
            obtain ⟨h1, rfl⟩ := some_of hr
            exact op_index ok hm ho hxx hxi hk hty rfl hxe hj hlt h1
          · cases hr
        · cases hr
      · rename_i _ _ _ _ _ s hty hxe
        split at hr
        · rename_i b hb
          simp only [Option.some.injEq, Prod.mk.injEq] at hr
          obtain ⟨rfl, rfl⟩ := hr
          exact op_indexStr ok hm ho hxx hxi hk hty rfl hxe hb
        · cases hr
      · cases hr
  · rename_i ty x k cok ho
    obtain ⟨h1, rfl⟩ := some_of hr
    exact op_lookup ok hm ho (hx x (by simp [ho, Op.operands])) (hx k (by simp [ho, Op.operands])) h1
  · rename_i ty x k y ho
    obtain ⟨h1, rfl⟩ := unit_of hr
    exact op_mapUpdate ok hm ho (hx x (by simp [ho, Op.operands])) (hx k (by simp [ho, Op.operands])) (hx y (by simp [ho, Op.operands])) h1
  · rename_i x i ho
    split at hr
    · rename_i vs hxe
      obtain ⟨h1, rfl⟩ := some_of hr
      exact op_extract hm ho (hx x (by simp [ho, Op.operands])) hxe h1
    · cases hr
  · rename_i c ho
    have harg : ∀ x ∈ c.args.toList, RV (Av O ρ m) ρ m w (evalA t x) (e x) := fun x hxm => hx x (by
      simp only [ho, Op.operands, Call.operands]
      cases c.callee <;> simp <;> first | exact .inr (by simpa using hxm) | simpa using hxm)
    split at hr
    · rename_i b hb
      split at hr
      · rename_i x ha
        split at hr
        · rename_i ty hty
          split at hr
          · rename_i n hn
            simp only [Option.some.injEq, Prod.mk.injEq] at hr
            obtain ⟨rfl, rfl⟩ := hr
            exact op_len ok hm ho hb ha (harg x (by simp [ha])) hty hn
          · cases hr
        · cases hr
      · rename_i x y ha
        exact op_append ok hm ho hb ha (harg x (by simp [ha])) (harg y (by simp [ha])) hr
      · rename_i x y ha
        exact op_copy ok hm ho hb ha (harg x (by simp [ha])) (harg y (by simp [ha])) hr
      · rename_i x ha
        obtain ⟨h1, rfl⟩ := unit_of hr
        exact op_clear ok hm ho hb ha (harg x (by simp [ha])) h1
      · obtain ⟨h1, rfl⟩ := some_of hr
        exact op_max hm ho hb harg h1
      · obtain ⟨h1, rfl⟩ := some_of hr
        exact op_min hm ho hb harg h1
      · cases hr
    · cases hr
  · cases hr

end

end Go.Am
