/-
  Regions whose order is open: the parts. Conditions: none.
-/
import Derived.Test.YtgkjdfojogemhaaMd
import Derived.Orders
set_option linter.unusedSimpArgs false
set_option linter.unusedVariables false
namespace Go.Am

/-- A memory that holds all that another holds. -/
structure Ext (m M : Mem) : Prop where
  row : ∀ (h : Nat) (cs : List AV) (g : Nat) (s : Ow) (kid : Option (Nat × Nat)), m.b[h]? = some (.row cs g s kid) → ∃ s' kid', M.b[h]? = some (.row cs g s' kid') ∧ (s = .fz → s' = .fz)
  map : ∀ (h : Nat) (es : List (Value × AV)) (g : Nat), m.b[h]? = some (.map es g) → M.b[h]? = some (.map es g)

theorem Ext.refl (m : Mem) : Ext m m := ⟨fun _ _ _ s kid h => ⟨s, kid, h, id⟩, fun _ _ _ h => h⟩

theorem Ext.trans {m m' m'' : Mem} (h : Ext m m') (k : Ext m' m'') : Ext m m'' where
  row := fun i cs g s kid hr => by
    obtain ⟨s1, k1, h1, h2⟩ := h.row i cs g s kid hr
    obtain ⟨s2, k2, h3, h4⟩ := k.row i cs g s1 k1 h1
    exact ⟨s2, k2, h3, fun e => h4 (h2 e)⟩
  map := fun i es g hr => k.map i es g (h.map i es g hr)

theorem row_iff {m : Mem} {h g : Nat} {cs : List AV} : row? m h g = some cs ↔ ∃ s kid, m.b[h]? = some (.row cs g s kid) := by
  unfold row?
  constructor
  · intro hr
    split at hr
    · rename_i cs' g' s kid hb
      split at hr
      · rename_i hg
        subst hg
        simp only [Option.some.injEq] at hr
        subst hr
        exact ⟨s, kid, hb⟩
      · cases hr
    · cases hr
  · rintro ⟨s, kid, hb⟩
    simp [hb]

theorem FzStep.ext {m M : Mem} (hs : FzStep m M) : Ext m M where
  row := fun i cs g s kid hr => by
    have h1 : row? M i g = some cs := by rw [hs.row]; exact row_iff.mpr ⟨s, kid, hr⟩
    obtain ⟨s', kid', h2⟩ := row_iff.mp h1
    refine ⟨s', kid', h2, fun e => ?_⟩
    subst e
    rcases hs.b i _ h2 with h3 | ⟨_, _, _, _, h0, _⟩
    · rw [hr] at h3; simp only [Option.some.injEq, Blk.row.injEq] at h3; exact h3.2.2.1.symm
    · simp only [Blk.row.injEq] at h0; exact h0.2.2.1
  map := hs.map

theorem Ext.push (m : Mem) (cs : List AV) : Ext m (m.push cs) where
  row := fun i cs' g s kid hr => ⟨s, kid, by
    show (m.b ++ _)[i]? = _
    rw [List.getElem?_append_left (by
      by_cases hh : i < m.b.length
      · exact hh
      · rw [List.getElem?_eq_none (by omega)] at hr; cases hr)]; exact hr, id⟩
  map := fun i es g hr => by
    show (m.b ++ _)[i]? = _
    rw [List.getElem?_append_left (by
      by_cases hh : i < m.b.length
      · exact hh
      · rw [List.getElem?_eq_none (by omega)] at hr; cases hr)]; exact hr

section
variable {m M : Mem} {Γ : Ctx}

theorem Ext.r (E : Ext m M) {h g : Nat} {cs : List AV} (hr : row? m h g = some cs) : row? M h g = some cs := by
  obtain ⟨s, kid, hb⟩ := row_iff.mp hr
  obtain ⟨s', kid', hb', _⟩ := E.row h cs g s kid hb
  exact row_iff.mpr ⟨s', kid', hb'⟩

theorem Ext.rs (E : Ext m M) {h g : Nat} (hr : (row? m h g).isSome = true) : (row? M h g).isSome = true := by
  obtain ⟨cs, hc⟩ := Option.isSome_iff_exists.mp hr
  rw [E.r hc]; rfl

theorem entries_ext (E : Ext m M) {x : AV} {es : List (Value × AV)} (h : entriesA m x = some es) : entriesA M x = some es := by
  unfold entriesA at h ⊢
  split at h
  · exact h
  · split at h
    · rename_i hb; rw [E.map _ _ _ hb]; exact h
    · cases h
  · cases h

theorem content_ext (E : Ext m M) {e : Nat} {x : AV} {r : List AV × Nat} (h : content m e x = some r) : content M e x = some r := by
  unfold content at h ⊢
  split at h
  · exact h
  · exact h
  · exact h
  · split at h
    · rename_i he
      rw [if_pos he]
      split at h
      · rename_i cs hr; rw [E.r hr]; exact h
      · cases h
    · cases h
  · cases h

theorem load_ext (E : Ext m M) {t : TypeId} {x r : AV} (h : loadA Γ t m x = some r) : loadA Γ t M x = some r := by
  unfold loadA at h ⊢
  split at h
  · cases h
  · split at h
    · split at h
      · rename_i cs hr; rw [E.r hr]; exact h
      · cases h
    · exact h
    · cases h

theorem indexAddr_ext (E : Ext m M) {t : TypeId} {x i r : AV} (h : indexAddrA Γ t m x i = some r) : indexAddrA Γ t M x i = some r := by
  unfold indexAddrA at h ⊢
  split at h
  · cases h
  · split at h
    · split at h
      · split at h
        · rename_i hk
          rw [if_pos hk]
          split at h
          · split at h
            · rename_i hr; rw [if_pos (E.rs hr)]; exact h
            · cases h
          · exact h
          · cases h
        · cases h
      · cases h
    · split at h
      · split at h
        · split at h
          · rename_i hr; rw [if_pos ⟨hr.1, hr.2.1, E.rs hr.2.2⟩]; exact h
          · cases h
        · exact h
        · cases h
      · cases h
    · cases h

theorem len_ext (E : Ext m M) {t : TypeId} {x : AV} {n : Nat} (h : lenA Γ t m x = some n) : lenA Γ t M x = some n := by
  unfold lenA at h ⊢
  split at h
  · exact h
  · exact h
  · split at h
    · exact h
    · exact h
    · split at h
      · rename_i hr; rw [if_pos (E.rs hr)]; exact h
      · cases h
    · cases h
  · split at h
    · exact h
    · split at h
      · rename_i hb; rw [E.map _ _ _ hb]; exact h
      · cases h
    · cases h
  · cases h

theorem lookup_ext (E : Ext m M) {t : TypeId} {x k r : AV} {ok : Bool} (h : lookupA Γ t m x k ok = some r) : lookupA Γ t M x k ok = some r := by
  unfold lookupA at h ⊢
  split at h
  · split at h
    · rename_i hk
      rw [if_pos hk]
      split at h
      · split at h
        · rename_i es he; rw [entries_ext E he]; exact h
        · cases h
      · cases h
    · cases h
  · cases h

theorem convert_ext (E : Ext m M) {a b : TypeId} {x r : AV} (h : convertA Γ a b m x = some r) : convertA Γ a b M x = some r := by
  unfold convertA at h ⊢
  split at h
  · split at h
    · exact h
    · exact h
    · split at h
      · split at h
        · split at h
          · rename_i cs n hc
            rw [content_ext E hc]
            exact h
          · cases h
        · cases h
      · cases h
    · cases h
  · cases h

theorem bounds_more {len most most' : Nat} {cap : Option Nat} {lo hi mx : Option AV} {r : Nat × Nat × Option Nat} (hm : most ≤ most') (h : bounds len most cap lo hi mx = some r) : bounds len most' cap lo hi mx = some r := by
  have hb : ∀ {x : AV} {n : Nat}, boundA x most = some n → boundA x most' = some n := by
    intro x n hx
    unfold boundA at hx ⊢
    split at hx
    · split at hx
      · rename_i h1; rw [if_pos (by omega)]; exact hx
      · cases hx
    · cases hx
  unfold bounds at h ⊢
  cases mx with
  | some v =>
    simp only at h ⊢
    cases h1 : boundA v most with
    | none => rw [h1] at h; simp at h
    | some n => rw [h1] at h; rw [hb h1]; exact h
  | none =>
    cases hi with
    | none => exact h
    | some v =>
      simp only at h ⊢
      cases h1 : boundA v most with
      | none => rw [h1] at h; simp at h
      | some n => rw [h1] at h; rw [hb h1]; exact h

theorem slice_ext (E : Ext m M) {t : TypeId} {x r : AV} {lo hi mx : Option AV} (h : sliceA Γ t m x lo hi mx = some r) : sliceA Γ t M x lo hi mx = some r := by
  unfold sliceA at h ⊢
  split at h
  · split at h
    · split at h
      · rename_i cs hr; rw [E.r hr]; exact h
      · cases h
    · cases h
  · split at h
    · split at h
      · cases h
      · rename_i hs
        rw [if_neg hs]
        split at h
        · exact h
        · exact h
        · split at h
          · rename_i cs hr; rw [E.r hr]; exact h
          · cases h
        · cases h
    · cases h
  · exact h
  · cases h

theorem bin_ext (E : Ext m M) {op : BinOp} {t : TypeId} {x y r : AV} (h : binA Γ m op t x y = some r) : binA Γ M op t x y = some r := by
  unfold binA at h ⊢
  split at h
  · exact h
  · exact h
  · exact h
  · exact h
  · split at h
    · split at h
      · exact h
      · exact h
      · exact h
      · exact h
      · split at h
        · rename_i hr; rw [if_pos (E.rs hr)]; exact h
        · cases h
      · split at h
        · rename_i hr; rw [if_pos (E.rs hr)]; exact h
        · cases h
      · cases h
    · cases h
  · cases h

/-- Where no slice is compared, no memory is read. -/
theorem bin_free {op : BinOp} {t : TypeId} {x y : AV} (h : ∀ i, Γ.ty t = some i → ∀ e, i.kd ≠ .slice e) : binA Γ m op t x y = binA Γ M op t x y := by
  unfold binA
  split <;> first
    | rfl
    | (split
       · rename_i e _ _ _ _ _ hty; exact absurd rfl (h _ hty e)
       · rfl)

theorem convert_free {a b : TypeId} {x : AV} {k : IntKind} {i : TI} (hi : Γ.ty b = some i) (hk : i.kd = .int k) : convertA Γ a b m x = convertA Γ a b M x := by
  unfold convertA
  rw [hi]
  cases Γ.ty a with
  | none => rfl
  | some j =>
    simp only [hk]
    cases x with
    | d y => cases y with
      | v z => cases z <;> rfl
      | sl => rfl
    | _ => rfl

end

end Go.Am

namespace Go.Am

/-- 0: blind; 1: it reads; 2: an allocation; 3: it may write; 4: a call whose result is the caller's to write; 5: a call by value. -/
def cls (Γ : Ctx) (o : Oper) (wk : Bool) : Nat :=
  match o.op with
  | .move _ | .assign _ | .pick .. | .unOp .. | .build .. | .field .. | .extract .. | .makeFunc .. | .index .. | .buildSlice .. => 0
  | .load .. => bif wk then 6 else 1
  | .lookup .. | .slice .. | .indexAddr .. | .fieldAddr .. | .nilCheck .. => 1
  | .convert _ b _ => match Γ.ty b with
    | some i => match i.kd with
      | .int _ => 0
      | _ => 1
    | none => 1
  | .binOp _ ty .. => match Γ.ty ty with
    | some i => match i.kd with
      | .slice _ => 1
      | _ => 0
    | none => 1
  | .alloc _ => 2
  | .call c => match c.callee with
    | .builtin .len => 1
    | .builtin .max | .builtin .min => 0
    | .value _ => if wk then 3 else if isFresh Γ o then 4 else 5
    | _ => 3
  | _ => 3

section
variable {Γ : Ctx} {fk : Nat → Bool} {cf : CF} {ops : Array Oper} {wk : Bool} {o : Oper} {t : List AV} {m M m' : Mem} {r : AV}

theorem cls_call (h : cls Γ o wk = 0 ∨ cls Γ o wk = 1 ∨ cls Γ o wk = 2) : isCall o = false := by
  obtain ⟨dst, op, ty, pos, after, guard⟩ := o
  cases op with
  | call c =>
    simp only [cls] at h
    simp only [isCall]
    split
    · rename_i f hf
      rw [hf] at h
      simp only at h
      split at h
      · simp at h
      · split at h <;> simp at h
    · rfl
  | _ => rfl

theorem v_some {q q' : Option AV} (h : (match q with | some a => some (a, m) | none => none) = some (r, m')) : q = q' → m' = m ∧ (match q' with | some a => some (a, M) | none => none) = some (r, M) := by
  intro hq
  subst hq
  obtain ⟨h1, h2⟩ := some_of h
  rw [h1]; exact ⟨h2, rfl⟩

theorem v_ext {q q' : Option AV} (h : (match q with | some a => some (a, m) | none => none) = some (r, m')) : (∀ x, q = some x → q' = some x) → m' = m ∧ (match q' with | some a => some (a, M) | none => none) = some (r, M) := by
  intro hq
  obtain ⟨h1, h2⟩ := some_of h
  rw [hq _ h1]; exact ⟨h2, rfl⟩

theorem pair_eq {x y : AV} {a b c : Mem} (h : some (x, a) = some (y, b)) : b = a ∧ some (x, c) = some (y, c) := by
  simp only [Option.some.injEq, Prod.mk.injEq] at h
  obtain ⟨rfl, rfl⟩ := h
  exact ⟨rfl, rfl⟩

/-- Blind operations give the same in every memory. -/
theorem opD_blind (hc : cls Γ o wk = 0) (h : opD Γ fk t m o = some (r, m')) : m' = m ∧ opD Γ fk t M o = some (r, M) := by
  obtain ⟨dst, op, ty, pos, after, guard⟩ := o
  cases op with
  | move x => exact pair_eq h
  | assign x => exact pair_eq h
  | pick c a b =>
    simp only [opD, opA] at h ⊢
    split at h
    · exact pair_eq h
    · cases h
  | unOp op t' x =>
    simp only [opD, opA] at h ⊢
    exact v_some h rfl
  | build ty' parts =>
    simp only [opD, opA] at h ⊢
    split at h
    · split at h
      · exact v_some h rfl
      · cases h
    · cases h
  | field ty' x f =>
    simp only [opD, opA] at h ⊢
    split at h
    · split at h
      · split at h
        · exact v_some h rfl
        · cases h
      · cases h
    · cases h
  | extract x i =>
    simp only [opD, opA] at h ⊢
    split at h
    · exact v_some h rfl
    · cases h
  | makeFunc fn first caps =>
    simp only [opD, opA] at h ⊢
    split at h
    · split at h
      · rename_i h0
        rw [if_pos h0]
        exact pair_eq h
      · cases h
    · cases h
  | index ty' x i =>
    simp only [opD, opA] at h ⊢
    split at h
    · cases h
    · split at h
      · split at h
        · split at h
          · rename_i h0; rw [if_pos h0]; exact v_some h rfl
          · cases h
        · cases h
      · split at h
        · exact pair_eq h
        · cases h
      · cases h
  | buildSlice ty' len parts =>
    simp only [opD] at h ⊢
    split at h
    · split at h
      · cases h
      · rename_i h0
        rw [if_neg h0]
        split at h
        · split at h
          · exact pair_eq h
          · cases h
        · cases h
    · cases h
  | convert a b x =>
    simp only [opD, opA] at h ⊢
    refine v_some h ?_
    simp only [cls] at hc
    split at hc
    · rename_i i hi
      split at hc
      · rename_i k hk; exact convert_free hi hk
      · cases hc
    · cases hc
  | binOp op ty' x y yt =>
    simp only [opD, opA] at h ⊢
    refine v_some h ?_
    simp only [cls] at hc
    split at hc
    · rename_i i hi
      split at hc
      · cases hc
      · rename_i hne
        exact bin_free fun j hj e he => by
          rw [hi] at hj
          simp only [Option.some.injEq] at hj
          subst hj
          exact hne e he
    · cases hc
  | call c =>
    simp only [cls] at hc
    simp only [opD, opA] at h ⊢
    split at hc
    · cases hc
    · rename_i hcal
      rw [hcal] at h ⊢
      simp only at h ⊢
      exact v_some h rfl
    · rename_i hcal
      rw [hcal] at h ⊢
      simp only at h ⊢
      exact v_some h rfl
    · split at hc
      · cases hc
      · split at hc <;> cases hc
    · cases hc
  | load ty' a => cases wk <;> simp [cls] at hc
  | _ => simp [cls] at hc

/-- Reads give the same in a memory that holds more. -/
theorem opD_read (E : Ext m M) (hc : cls Γ o wk = 1) (h : opD Γ fk t m o = some (r, m')) : m' = m ∧ opD Γ fk t M o = some (r, M) := by
  obtain ⟨dst, op, ty, pos, after, guard⟩ := o
  cases op with
  | load ty' a =>
    simp only [opD, opA] at h ⊢
    exact v_ext h (fun x hx => load_ext E hx)
  | lookup ty' x k ok =>
    simp only [opD, opA] at h ⊢
    exact v_ext h (fun x hx => lookup_ext E hx)
  | slice ty' x lo hi mx =>
    simp only [opD, opA] at h ⊢
    exact v_ext h (fun x hx => slice_ext E hx)
  | indexAddr ty' x i =>
    simp only [opD, opA] at h ⊢
    exact v_ext h (fun x hx => indexAddr_ext E hx)
  | convert a b x =>
    simp only [opD, opA] at h ⊢
    exact v_ext h (fun x hx => convert_ext E hx)
  | binOp op ty' x y yt =>
    simp only [opD, opA] at h ⊢
    exact v_ext h (fun x hx => bin_ext E hx)
  | fieldAddr ty' x f =>
    simp only [opD, opA] at h ⊢
    split at h
    · split at h
      · split at h
        · cases h
        · rename_i h0
          rw [if_neg h0]
          split at h
          · rename_i hr; rw [if_pos (E.rs hr)]; exact pair_eq h
          · cases h
      · split at h
        · cases h
        · rename_i h0
          rw [if_neg h0]
          split at h
          · rename_i h1; rw [if_pos h1]; exact pair_eq h
          · cases h
      · cases h
    · cases h
  | nilCheck x =>
    simp only [opD, opA] at h ⊢
    split at h
    · split at h
      · rename_i hr; rw [if_pos (E.rs hr)]; exact pair_eq h
      · cases h
    · exact pair_eq h
    · exact pair_eq h
    · cases h
  | call c =>
    simp only [cls] at hc
    simp only [opD, opA] at h ⊢
    split at hc
    · rename_i hcal
      rw [hcal] at h ⊢
      simp only at h ⊢
      split at h
      · split at h
        · split at h
          · rename_i hn; rw [len_ext E hn]; exact pair_eq h
          · cases h
        · cases h
      all_goals first
        | contradiction
        | cases h
    · cases hc
    · cases hc
    · split at hc
      · cases hc
      · split at hc <;> cases hc
    · cases hc
  | _ => simp [cls] at hc

theorem cls6 (hc : cls Γ o wk = 6) : ∃ ty a, o.op = .load ty a ∧ wk = true := by
  obtain ⟨dst, op, ty, pos, after, guard⟩ := o
  cases op with
  | load ty' a =>
    cases wk with
    | true => exact ⟨ty', a, rfl, rfl⟩
    | false => simp [cls] at hc
  | call c =>
    simp only [cls] at hc
    split at hc <;> first | cases hc | skip
    split at hc
    · cases hc
    · split at hc <;> cases hc
  | convert a b x =>
    simp only [cls] at hc
    split at hc
    · split at hc <;> cases hc
    · cases hc
  | binOp a b x y z =>
    simp only [cls] at hc
    split at hc
    · split at hc <;> cases hc
    · cases hc
  | _ => simp [cls] at hc

/-- A load gives the same where its block is as it was. -/
theorem step_load (hc : cls Γ o wk = 6) (h : stepOp Γ fk cf ops true wk o ⟨t, m⟩ = some (r, m')) :
    m' = m ∧ ∀ M, (∀ ty a hh g off cs, wantedA ops t o = some true → o.op = .load ty a → evalA t a = .ptr hh g off → row? m hh g = some cs → row? M hh g = some cs) → stepOp Γ fk cf ops true wk o ⟨t, M⟩ = some (r, M) := by
  obtain ⟨ty, a, hop, rfl⟩ := cls6 hc
  obtain ⟨dst, op, ty', pos, after, guard⟩ := o
  simp only at hop
  subst hop
  have hn : isCall (⟨dst, .load ty a, ty', pos, after, guard⟩ : Oper) = false := rfl
  unfold stepOp at h ⊢
  simp only [hn, Bool.false_eq_true, if_false] at h ⊢
  split at h
  · cases h
  · obtain ⟨h1, _⟩ := pair_eq (c := m) h
    refine ⟨h1, fun M _ => ?_⟩
    rename_i hw
    obtain ⟨_, h2⟩ := pair_eq (c := M) h
    exact h2
  · rename_i hw
    simp only [opD, opA] at h ⊢
    have hq : ∀ M, (∀ x, loadA Γ ty m (evalA t a) = some x → loadA Γ ty M (evalA t a) = some x) → m' = m ∧ (match loadA Γ ty M (evalA t a) with | some a => some (a, M) | none => none) = some (r, M) := fun M hx => v_ext h hx
    refine ⟨(hq m fun _ hx => hx).1, fun M hM => (hq M fun x hx => ?_).2⟩
    unfold loadA at hx ⊢
    split at hx
    · cases hx
    · rename_i i hi
      split at hx
      · rename_i hh g off he
        split at hx
        · rename_i cs hr
          rw [hM ty a hh g off cs hw rfl he hr]
          exact hx
        · cases hx
      · exact hx
      · cases hx

theorem step_quiet (hc : cls Γ o wk = 0 ∨ cls Γ o wk = 1) (h : stepOp Γ fk cf ops true wk o ⟨t, m⟩ = some (r, m')) :
    m' = m ∧ ((cls Γ o wk = 0 ∨ Ext m M) → stepOp Γ fk cf ops true wk o ⟨t, M⟩ = some (r, M)) := by
  have hn : isCall o = false := cls_call (hc.imp id .inl)
  unfold stepOp at h ⊢
  simp only [hn, Bool.false_eq_true, if_false] at h ⊢
  split at h
  · cases h
  · obtain ⟨h1, h2⟩ := pair_eq (c := M) h
    exact ⟨h1, fun _ => h2⟩
  · rcases hc with hc | hc
    · exact ⟨(opD_blind (M := m) hc h).1, fun _ => (opD_blind (M := M) hc h).2⟩
    · refine ⟨(opD_read (Ext.refl m) hc h).1, fun hE => ?_⟩
      rcases hE with h0 | hE
      · rw [hc] at h0; cases h0
      · exact (opD_read hE hc h).2

end

end Go.Am

namespace Go.Am

section
variable {P : Program} {Γ : Ctx} {O : Nat → Prop} {ρ : Nat → Nat × Nat} {m m' m'' M : Mem} {w : World} {t tj : List AV} {a : Act} {e : Operand → Value} {o : Oper} {r : AV} {ops : Array Oper} {fk : Nat → Bool} {cf : CF} {wk : Bool}

theorem lit_cells : ∀ (cs : List AV) (ds : List D), mapO (fun c => match c with | .d x => some x | _ => none) cs = some ds → cs = ds.map .d
  | [], ds, h => by simp only [mapO, Option.some.injEq] at h; subst h; rfl
  | c :: cs, ds, h => by
    unfold mapO at h
    cases c with
    | d x =>
      simp only at h
      split at h
      · rename_i b hb
        simp only [Option.some.injEq] at h
        subst h
        simp only [List.map_cons, List.cons.injEq, true_and]
        exact lit_cells cs b hb
      · cases h
    | _ => simp at h

/-- A slice of literals, by value. -/
theorem op_lit (ok : Γ.TyOk) (hm : MemInv O ρ m w) {ty : TypeId} {len : Nat} {parts : Array (Nat × Operand)} (ho : o.op = .buildSlice ty len parts)
    (hp : ∀ p ∈ parts.toList, RV (Av O ρ m) ρ m w (evalA t p.2) (e p.2)) {el : TypeId} {i : TI} (hi : elemOf Γ ty = some (el, i)) (hs : ¬ (i.size = 0 ∨ len * i.size > 16777216))
    {cs : List AV} (hf : fillA (fun k => some (k * i.size, i.size)) t (zerosA i len) parts.toList = some cs) {ds : List D} (hd : cs = ds.map .d) :
    Gives O Γ.P ρ m w (execOp e o) (.d (.sl true len ds)) m := by
  obtain ⟨c, h1, h2, h3⟩ := op_buildSlice (ρ := ρ) (m := m) (w := w) (O := O) ok ho hp hi hs hf
  have hk : ∀ b, b < w.heap.size → (w.alloc (.cells c el)).heap[b]? = w.heap[b]? := fun b hb => RowKit.Below.heap_alloc w _ b hb
  obtain ⟨g1, g2⟩ := hm.grown (w' := w.alloc (.cells c el)) rfl rfl rfl (by simp) hk
  refine ⟨_, _, ρ, .inl h3, ?_, g1, g2⟩
  subst hd
  refine .d _ _ (.sl true len ds w.heap.size 0 len (fun i => (c[i]?).getD undef) (fun i hi => ?_) (fun i hi => ?_) (fun ha => absurd (hm.av_lt ha) (Nat.lt_irrefl _)) (by simp) (Nat.le_refl _) (fun _ => rfl))
  · obtain ⟨u, hu, _⟩ := h1.2 i (by simpa using hi)
    simp only [World.cell?, heap_alloc_new, Nat.zero_add, hu, Option.getD_some]
    rfl
  · obtain ⟨u, hu, hr⟩ := h1.2 i (by simpa using hi)
    simp only [hu, Option.getD_some]
    simp only [List.getElem_map] at hr
    cases hr with
    | d _ _ hr => exact hr.mono (fun b hb _ => hk b hb) (fun b _ h => h) (by simp)

theorem opD_sound (ok : Γ.TyOk) (hm : MemInv O ρ m w) (hx : ∀ x ∈ o.op.operands.toList, RV (Av O ρ m) ρ m w (evalA t x) (e x)) (hr : opD Γ fk t m o = some (r, m')) : Gives O Γ.P ρ m w (execOp e o) r m' := by
  unfold opD at hr
  split at hr
  · rename_i ty len parts ho
    split at hr
    · rename_i el i hi
      split at hr
      · cases hr
      · rename_i hs
        split at hr
        · rename_i cs hf
          split at hr
          · rename_i ds hds
            simp only [Option.some.injEq, Prod.mk.injEq] at hr
            obtain ⟨rfl, rfl⟩ := hr
            exact op_lit ok hm ho (fun p hp => hx p.2 (by simp only [ho, Op.operands]; exact List.mem_map.mpr ⟨p, hp, rfl⟩)) hi hs hf (lit_cells _ _ hds)
          · cases hr
        · cases hr
    · cases hr
  · exact opA_sound ok hm hx hr

/-- The machine's state stands for the model's, but for some temporaries. -/
structure RelX (X : Nat → Prop) (O : Nat → Prop) (ρ : Nat → Nat × Nat) (t : List AV) (m : Mem) (w : World) (a : Act) : Prop where
  mem : MemInv O ρ m w
  len : t.length = a.tmps.size
  tmp : ∀ i, ¬ X i → RV (Av O ρ m) ρ m w (nth t i) (a.tmps.getD i undef)
  def0 : a.defers = []

theorem relX_of {s : St} (h : Rel O ρ s w a) : RelX (fun _ => False) O ρ s.t s.m w a := ⟨h.mem, h.tmp.1, fun i _ => h.tmp.2 i, h.def0⟩
theorem rel_of {s : St} (h : RelX (fun _ => False) O ρ s.t s.m w a) : Rel O ρ s w a := ⟨h.mem, ⟨h.len, fun i => h.tmp i id⟩, h.def0⟩

theorem put_get (a : Act) (dst : Option Tmp) (v : Value) (i : Nat) (h : dst ≠ some i) : (a.put dst v).tmps.getD i undef = a.tmps.getD i undef := by
  cases dst with
  | none => rfl
  | some d =>
    have hne : d ≠ i := fun e => h (by rw [e])
    simp only [Act.put, Array.getD_eq_getD_getElem?, Array.getElem?_setIfInBounds_ne hne]

theorem put_same (a : Act) (d : Tmp) (v : Value) (h : d < a.tmps.size) : (a.put (some d) v).tmps.getD d undef = v := by
  simp [Act.put, Array.getD_eq_getD_getElem?, h]

theorem RelX.put {X : Nat → Prop} {w' : World} {ρ' : Nat → Nat × Nat} (h : RelX X O ρ t m w a) (hl : Later ρ m w ρ' m' w') (hm : MemInv O ρ' m' w') {v : Value} (hr : RV (Av O ρ' m') ρ' m' w' r v) (dst : Option Tmp) :
    RelX X O ρ' (putA' t dst r) m' w' (a.put dst v) where
  mem := hm
  len := by cases dst <;> simp [putA', Act.put, h.len]
  tmp := fun i hi => by
    by_cases hd : dst = some i
    · subst hd
      simp only [putA', nth_set]
      by_cases hlt : i < t.length
      · rw [if_pos ⟨trivial, hlt⟩, put_same a i v (by rw [← h.len]; exact hlt)]; exact hr
      · rw [if_neg (fun hh => hlt hh.2)]
        have : (a.put (some i) v).tmps.getD i undef = a.tmps.getD i undef := by
          have hn : ¬ i < a.tmps.size := by rw [← h.len]; exact hlt
          simp only [Act.put, Array.getD_eq_getD_getElem?, Array.getElem?_setIfInBounds, if_true, if_neg hn]
          rw [Array.getElem?_eq_none (by omega)]
        rw [this]
        exact (h.tmp i hi).later h.mem hl
    · rw [put_get a dst v i hd]
      have : nth (putA' t dst r) i = nth t i := by
        cases dst with
        | none => rfl
        | some d => simp only [putA', nth_set]; rw [if_neg]; rintro ⟨rfl, _⟩; exact hd rfl
      rw [this]
      exact (h.tmp i hi).later h.mem hl
  def0 := by rw [put_def0]; exact h.def0

/-- The operation's step, from memory m to m', with the result r, where it looks as it looks in the temporaries tj. -/
def StepOk (P : Program) (ops : Array Oper) (o : Oper) (m : Mem) (r : AV) (m' : Mem) (tj : List AV) : Prop :=
  ∀ (X O : Nat → Prop) (ρ : Nat → Nat × Nat) (w : World) (a : Act) (t : List AV), RelX X O ρ t m w a → (∀ d ∈ o.looksAt ops, ¬ X d ∧ nth t d = nth tj d) → t.length = tj.length →
    ∀ (next : Act → World → Prop) (Q : Exit → Act → World → Prop),
    (∀ a' w' ρ', RelX X O ρ' (putA' t o.dst r) m' w' a' → Later ρ m w ρ' m' w' → (∀ i, o.dst ≠ some i → a'.tmps.getD i undef = a.tmps.getD i undef) → next a' w') →
    if Region.wanted o (yielded ops a.tmps) then o.wp P a w next Q ∨ (o.asks P a w ∧ LetsOut Q) else next (a.put o.dst undef) w

theorem look_op {x : Operand} (h : x ∈ o.op.operands.toList) {d : Tmp} (hx : x = .tmp d) : d ∈ o.looksAt ops := by
  subst hx
  exact List.mem_append_left _ (List.mem_filterMap.2 ⟨.tmp d, h, rfl⟩)

theorem wanted_at {X : Nat → Prop} (h : RelX X O ρ t m w a) (hl : ∀ d ∈ o.looksAt ops, ¬ X d ∧ nth t d = nth tj d) (hlen : t.length = tj.length) {b : Bool} (hb : wantedA ops tj o = some b) : Region.wanted o (yielded ops a.tmps) = b := by
  unfold wantedA at hb
  unfold Region.wanted
  split at hb
  · rename_i hg
    rw [hg]
    simpa using hb
  · rename_i j want hg
    rw [hg]
    split at hb
    · rename_i p hp
      split at hb
      · rename_i d hd
        have hmem : d ∈ o.looksAt ops := by
          unfold Oper.looksAt
          refine List.mem_append_right _ ?_
          simp [hg, hp, hd]
        obtain ⟨hX, hn⟩ := hl d hmem
        split at hb
        · rename_i hlt
          have hv := h.tmp d hX
          rw [hn] at hv
          have hlt' : d < a.tmps.size := by rw [← h.len, hlen]; exact hlt
          have hy : yielded ops a.tmps j = match a.tmps.getD d undef with | .bool b => some b | _ => none := by
            simp only [yielded, hp, Option.bind_some, hd]
            rw [Array.getD_eq_getD_getElem?, Array.getElem?_eq_getElem hlt', Option.getD_some]
            cases a.tmps[d] <;> rfl
          simp only
          rw [hy]
          split at hb
          · rename_i b' hn'
            rw [hn'] at hv
            rw [rv_bool hv]
            simp only [Option.some.injEq] at hb
            rw [← hb]
            cases b' <;> cases want <;> rfl
          · rename_i x hn'
            rw [hn'] at hv
            rw [rv_v hv]
            simp only [Option.some.injEq] at hb
            rw [← hb]
            rfl
          · cases hb
        · cases hb
      · cases hb
    · cases hb

theorem evals_at {X : Nat → Prop} (h : RelX X O ρ t m w a) (hl : ∀ d ∈ o.looksAt ops, ¬ X d ∧ nth t d = nth tj d) (x : Operand) (hx : x ∈ o.op.operands.toList) : RV (Av O ρ m) ρ m w (evalA tj x) (a.eval x) := by
  cases x with
  | tmp i =>
    obtain ⟨h1, h2⟩ := hl i (look_op hx rfl)
    have := h.tmp i h1
    rw [h2] at this
    exact this
  | const v => exact ofValue_rv _ ρ m w v
  | global g => exact .d _ _ (.v _)
  | func f => exact .fn f [] [] rfl fun i hi => absurd hi (by simp)

theorem stepOk_skip (hw : wantedA ops tj o = some false) : StepOk P ops o m undefA m tj := by
  intro X O ρ w a t h hl hlen next Q hn
  rw [wanted_at h hl hlen hw]
  simp only [Bool.false_eq_true, if_false]
  exact hn _ _ _ (h.put (.refl _ _ _) h.mem (RV.undef _ _ _ _) o.dst) (.refl _ _ _) fun i hi => put_get a o.dst undef i hi

theorem stepOk_op (hw : wantedA ops tj o = some true) (hg : ∀ O ρ w e, MemInv O ρ m w → (∀ x ∈ o.op.operands.toList, RV (Av O ρ m) ρ m w (evalA tj x) (e x)) → Gives O P ρ m w (execOp e o) r m') : StepOk P ops o m r m' tj := by
  intro X O ρ w a t h hl hlen next Q hn
  rw [wanted_at h hl hlen hw]
  simp only [if_true]
  refine .inl ?_
  obtain ⟨v, w', ρ', h1, h2, h3, h4⟩ := hg O ρ w a.eval h.mem (evals_at h hl)
  have key := hn _ _ _ (h.put h4 h3 h2 o.dst) h4 fun i hi => put_get a o.dst v i hi
  unfold Oper.wp
  rcases h1 with h1 | ⟨h1, rfl⟩ <;> rw [h1]
  · exact key
  · exact key

theorem stepOk_call (hw : wantedA ops tj o = some true) {g : FuncId} {av : List AV} (hcal : calleeOf tj o = some (g, av)) (hin : ∀ args w, (callFunc g args).run P w = .ok (.enter g args) w)
    (hc : ∀ O ρ w vs, MemInv O ρ m w → ArgsRV (Av O ρ m) ρ m w av vs → Calls P g vs.toArray w (Post O ρ m w r m')) : StepOk P ops o m r m' tj := by
  intro X O ρ w a t h hl hlen next Q hn
  rw [wanted_at h hl hlen hw]
  simp only [if_true]
  refine .inl ?_
  obtain ⟨vs, h1, h2⟩ := callee_sound (P := P) (e := a.eval) (evals_at h hl) hcal
  unfold Oper.wp
  rw [h2 hin, Oper.upon_enter]
  refine (hc O ρ w vs h.mem h1).mono fun e w' ⟨v, ρ', he, h3, h4, h5⟩ => ?_
  subst he
  exact hn _ _ _ (h.put h5 h4 h3 o.dst) h5 fun i hi => put_get a o.dst v i hi

theorem StepOk.fz (h : StepOk P ops o m r m' tj) (hs : FzStep m' m'') : StepOk P ops o m r m'' tj := by
  intro X O ρ w a t hr hl hlen next Q hn
  refine h X O ρ w a t hr hl hlen next Q fun a' w' ρ' h1 h2 h3 => ?_
  obtain ⟨k1, k2⟩ := hs.inv h1.mem
  exact hn a' w' ρ' ⟨k1, h1.len, fun i hi => (h1.tmp i hi).later h1.mem k2, h1.def0⟩ (h2.trans k2) h3

/-- What the machine does in one step, the model does. -/
theorem stepOk_same (ok : Γ.TyOk) (hcf : CFok Γ.P cf) (hin : CFin Γ.P cf) (h : stepOp Γ fk cf ops true wk o ⟨tj, m⟩ = some (r, m')) : StepOk Γ.P ops o m r m' tj := by
  unfold stepOp at h
  split at h
  · cases h
  · rename_i hw
    simp only [Option.some.injEq, Prod.mk.injEq] at h
    obtain ⟨rfl, rfl⟩ := h
    exact stepOk_skip hw
  · rename_i hw
    split at h
    · split at h
      · rename_i g av hcal
        simp only at h
        cases wk with
        | true =>
          simp only at h
          exact stepOk_call hw hcal (callA_in hin h) fun O ρ w vs hm hv => callA_sound hcf hm hv h
        | false =>
          simp only at h
          split at h
          · exact stepOk_call hw hcal (freshCall_in hin h) fun O ρ w vs hm hv => freshCall_sound hcf hm hv h
          · exact stepOk_call hw hcal (pureCall_in hin h) fun O ρ w vs hm hv => pureCall_sound hcf hm hv h
      · cases h
    · simp only at h
      exact stepOk_op hw fun O ρ w e hm hx => opD_sound ok hm hx h

end

end Go.Am

namespace Go.Am

theorem mapO_ext {α β : Type} {f g : α → Option β} : ∀ {l : List α} {r : List β}, (∀ x ∈ l, ∀ y, f x = some y → g x = some y) → mapO f l = some r → mapO g l = some r
  | [], r, _, h => h
  | x :: l, r, hfg, h => by
    unfold mapO at h ⊢
    split at h
    · rename_i a ha
      rw [hfg x List.mem_cons_self a ha]
      split at h
      · rename_i b hb
        rw [mapO_ext (fun y hy => hfg y (List.mem_cons_of_mem _ hy)) hb]
        exact h
      · cases h
    · cases h

section
variable {P : Program} {Γ : Ctx} {O : Nat → Prop} {ρ : Nat → Nat × Nat} {m m' M : Mem} {w : World} {tj : List AV} {o : Oper} {r : AV} {ops : Array Oper} {fk : Nat → Bool} {cf : CF} {wk : Bool}

theorem snapD_ext (E : Ext m M) : ∀ (n : Nat) (x : AV) (d : D), snapD m n x = some d → snapD M n x = some d
  | 0, x, d, h => h
  | n + 1, x, d, h => by
    unfold snapD at h ⊢
    split at h
    · exact h
    · split at h
      · rename_i cs hr
        rw [E.r hr]
        split at h
        · rename_i h0
          simp only [if_pos h0]
          cases hq : mapO (snapD m n) (cut cs _ _) with
          | none => rw [hq] at h; cases h
          | some ds =>
            rw [hq] at h
            rw [mapO_ext (fun x _ y hy => snapD_ext E n x y hy) hq]
            exact h
        · cases h
      · cases h
    · cases h

theorem snapC_ext (E : Ext m M) {x y : AV} (h : snapC m x = some y) : snapC M x = some y := by
  unfold snapC at h ⊢
  split at h
  · exact h
  · exact h
  · cases hq : snapD m depth x with
    | none => rw [hq] at h; cases h
    | some d =>
      rw [hq] at h
      rw [snapD_ext E _ _ _ hq]
      exact h

theorem snapA_ext (E : Ext m M) {x y : AV} (h : snapA m x = some y) : snapA M x = some y := by
  unfold snapA at h ⊢
  split at h
  · rename_i cs
    cases hq : mapO (snapC m) cs with
    | none => rw [hq] at h; cases h
    | some ds => rw [hq] at h; rw [mapO_ext (fun x _ y hy => snapC_ext E hy) hq]; exact h
  · rename_i f cs
    cases hq : mapO (snapC m) cs with
    | none => rw [hq] at h; cases h
    | some ds => rw [hq] at h; rw [mapO_ext (fun x _ y hy => snapC_ext E hy) hq]; exact h
  · exact snapC_ext E h

/-- What has been frozen and copied, in a memory that holds more. -/
def FzS (m : Mem) (n : Nat) (x : AV) : Prop := FzR m n x ∧ ∀ h g off len e cap, x = .own h g off len e cap → ∃ d, snapD m n x = some d

theorem looks_ext (E : Ext m M) (hm : MemInv O ρ M w) : Looks (Av O ρ M) O ρ M (FzS m) where
  sub := fun _ h => h
  row := fun n h g off len e cap hK cs s kid hr => by
    obtain ⟨h1, h2⟩ := hK
    obtain ⟨d, hd⟩ := h2 h g off len e cap rfl
    unfold snapD at hd
    simp only at hd
    split at hd
    · rename_i cs0 hrow
      split at hd
      · rename_i hoff
        obtain ⟨s0, kid0, hb⟩ := row_iff.mp hrow
        simp only [FzR] at h1
        obtain ⟨rfl, hc⟩ := h1 cs0 s0 kid0 hb
        obtain ⟨s', kid', hb', hs'⟩ := E.row h cs0 g .fz kid0 hb
        rw [hr] at hb'
        simp only [Option.some.injEq, Blk.row.injEq] at hb'
        obtain ⟨rfl, _, rfl, rfl⟩ := hb'
        obtain rfl := hs' rfl
        refine ⟨fun ha => ha.elim (hm.row h cs g .fz kid hr).2.1 (hm.fz h cs g kid hr), fun c hcc => ⟨hc c (List.mem_of_mem_drop (List.mem_of_mem_take hcc)), fun _ _ _ _ _ _ _ => ?_⟩⟩
        cases hq : mapO (snapD m n) (cut cs off (len * e)) with
        | none => rw [hq] at hd; cases hd
        | some ds =>
          obtain ⟨k1, k2⟩ := mapO_get hq
          obtain ⟨j, hj, rfl⟩ := List.getElem_of_mem hcc
          exact ⟨_, k2 j hj (by omega)⟩
      · cases hd
    · cases hd

theorem fzS_of {x y : AV} (hK : KA (FzR m) x) (hs : snapA m x = some y) : KA (FzS m) x := by
  have leaf : ∀ {x y : AV}, FzR m depth x → snapC m x = some y → FzS m depth x := by
    intro x y h1 h2
    refine ⟨h1, fun h g off len e cap he => ?_⟩
    subst he
    simp only [snapC] at h2
    cases hq : snapD m depth (.own h g off len e cap) with
    | none => rw [hq] at h2; cases h2
    | some d => exact ⟨d, rfl⟩
  have many : ∀ {cs ys : List AV}, (∀ c ∈ cs, FzR m depth c) → mapO (snapC m) cs = some ys → ∀ c ∈ cs, FzS m depth c := by
    intro cs ys h1 h2 c hc
    obtain ⟨k1, k2⟩ := mapO_get h2
    obtain ⟨j, hj, rfl⟩ := List.getElem_of_mem hc
    exact leaf (h1 _ hc) (k2 j hj (by omega))
  unfold snapA at hs
  split at hs
  · rename_i cs
    cases hq : mapO (snapC m) cs with
    | none => rw [hq] at hs; cases hs
    | some ds => exact many hK hq
  · rename_i f cs
    cases hq : mapO (snapC m) cs with
    | none => rw [hq] at hs; cases hs
    | some ds => exact many hK hq
  · rename_i h1 h2
    cases x <;> first
      | exact leaf hK hs
      | exact absurd rfl (h1 _)
      | exact absurd rfl (h2 _ _)

theorem cls5 (h : cls Γ o wk = 5) : isCall o = true ∧ wk = false ∧ isFresh Γ o = false := by
  obtain ⟨dst, op, ty, pos, after, guard⟩ := o
  cases op with
  | call c =>
    simp only [cls] at h
    split at h <;> first | cases h | skip
    rename_i f hf
    cases wk with
    | true => simp at h
    | false =>
      refine ⟨by simp [isCall, hf], rfl, ?_⟩
      cases hfr : isFresh Γ ⟨dst, .call c, ty, pos, after, guard⟩ with
      | false => rfl
      | true => rw [hfr] at h; simp at h
  | convert a b x =>
    simp only [cls] at h
    split at h
    · split at h <;> cases h
    · cases h
  | binOp a b x y z =>
    simp only [cls] at h
    split at h
    · split at h <;> cases h
    · cases h
  | load ty' a => cases wk <;> simp [cls] at h
  | _ => simp [cls] at h

theorem cls4 (h : cls Γ o wk = 4) : isCall o = true ∧ wk = false ∧ isFresh Γ o = true := by
  obtain ⟨dst, op, ty, pos, after, guard⟩ := o
  cases op with
  | call c =>
    simp only [cls] at h
    split at h <;> first | cases h | skip
    rename_i f hf
    cases wk with
    | true => simp at h
    | false =>
      refine ⟨by simp [isCall, hf], rfl, ?_⟩
      cases hfr : isFresh Γ ⟨dst, .call c, ty, pos, after, guard⟩ with
      | true => rfl
      | false => rw [hfr] at h; simp at h
  | convert a b x =>
    simp only [cls] at h
    split at h
    · split at h <;> cases h
    · cases h
  | binOp a b x y z =>
    simp only [cls] at h
    split at h
    · split at h <;> cases h
    · cases h
  | load ty' a => cases wk <;> simp [cls] at h
  | _ => simp [cls] at h

/-- A call by value freezes at most. -/
theorem pure_fz {may : Bool} {g : FuncId} {av : List AV} (h : pureCall cf may g av m = some (r, m')) : FzStep m m' := by
  unfold pureCall at h
  split at h
  · cases h
  · split at h
    · cases h
    · split at h
      · cases h
      · split at h
        · split at h
          · simp only [Option.some.injEq, Prod.mk.injEq] at h
            rw [← h.2]
            exact (frzL_step av m).1
          · cases h
        · simp only [Option.some.injEq, Prod.mk.injEq] at h
          rw [← h.2]
          exact .refl m

theorem pure_more (hcf : CFok P cf) {g : FuncId} {av : List AV} (h : pureCall cf true g av m = some (r, m')) (E : Ext m' M) (hm : MemInv O ρ M w) {vs : List Value} (hv : ArgsRV (Av O ρ M) ρ M w av vs) :
    Calls P g vs.toArray w (Post O ρ M w r M) := by
  have hfz := pure_fz h
  have E0 : Ext m M := hfz.ext.trans E
  unfold pureCall at h
  split at h
  · cases h
  · rename_i bs hbs
    have hbs' : mapO (snapA M) av = some bs := mapO_ext (fun x _ y hy => snapA_ext E0 hy) hbs
    split at h
    · cases h
    · rename_i r0 mc hc
      split at h
      · cases h
      · rename_i r1 hr
        cases hown : av.any owns && !noCells r1 with
        | false =>
          rw [hown] at h
          simp only [Bool.false_eq_true, if_false, Option.some.injEq, Prod.mk.injEq] at h
          obtain ⟨rfl, rfl⟩ := h
          refine pureCall_sound (may := true) hcf hm hv ?_
          unfold pureCall
          rw [hbs']
          simp only [hc, hr, hown, Bool.false_eq_true, if_false]
        | true =>
          rw [hown] at h
          simp only [if_true, Option.some.injEq, Prod.mk.injEq] at h
          obtain ⟨rfl, rfl⟩ := h
          obtain ⟨hs, hK⟩ := frzL_step av m
          have hbs1 : ∀ c ∈ av, ∃ y, snapA (av.foldl frzA m) c = some y := by
            intro c hcc
            obtain ⟨k1, k2⟩ := mapO_get hbs
            obtain ⟨j, hj, rfl⟩ := List.getElem_of_mem hcc
            exact ⟨_, by rw [snapA_eq hs.row]; exact k2 j hj (by omega)⟩
          refine (pure_core_of hcf hm (looks_ext E hm) hv (fun c hcc => ?_) hbs' hc hr).mono fun e w' ⟨v, he, hrv, hg⟩ => ⟨v, ρ, he, hrv, (hg.inv hm).1, (hg.inv hm).2⟩
          obtain ⟨y, hy⟩ := hbs1 c hcc
          exact fzS_of (hK c hcc) hy

theorem step_call5 (hcf : CFok Γ.P cf) (hin : CFin Γ.P cf) (hc : cls Γ o wk = 5) (h : stepOp Γ fk cf ops true wk o ⟨tj, m⟩ = some (r, m')) : FzStep m m' ∧ ∀ M, Ext m' M → StepOk Γ.P ops o M r M tj := by
  obtain ⟨h1, rfl, h2⟩ := cls5 hc
  unfold stepOp at h
  split at h
  · cases h
  · rename_i hw
    simp only [Option.some.injEq, Prod.mk.injEq] at h
    obtain ⟨rfl, rfl⟩ := h
    exact ⟨.refl _, fun M _ => stepOk_skip hw⟩
  · rename_i hw
    rw [if_pos h1] at h
    split at h
    · rename_i g av hcal
      simp only [h2, Bool.false_eq_true, if_false] at h
      exact ⟨pure_fz h, fun M E => stepOk_call hw hcal (pureCall_in hin h) fun O ρ w vs hm hv => pure_more hcf h E hm hv⟩
    · cases h

theorem fresh_ext {g : FuncId} {av : List AV} (h : freshCall cf g av m = some (r, m')) : Ext m m' := by
  unfold freshCall at h
  split at h
  · cases h
  · split at h
    · split at h
      · split at h
        · simp only [Option.some.injEq, Prod.mk.injEq] at h
          rw [← h.2]
          refine Ext.trans ?_ (Ext.push _ _)
          split
          · exact (frzL_step av m).1.ext
          · exact .refl m
        · cases h
      · cases h
    · exact (pure_fz h).ext

theorem step_call4 (hc : cls Γ o wk = 4) (h : stepOp Γ fk cf ops true wk o ⟨tj, m⟩ = some (r, m')) : Ext m m' := by
  obtain ⟨h1, rfl, h2⟩ := cls4 hc
  unfold stepOp at h
  split at h
  · cases h
  · simp only [Option.some.injEq, Prod.mk.injEq] at h
    rw [← h.2]
    exact .refl m
  · rw [if_pos h1] at h
    split at h
    · simp only [h2, if_true] at h
      exact fresh_ext h
    · cases h

theorem step_quiet_ok (ok : Γ.TyOk) (hcf : CFok Γ.P cf) (hin : CFin Γ.P cf) (hc : cls Γ o wk = 0 ∨ cls Γ o wk = 1) (h : stepOp Γ fk cf ops true wk o ⟨tj, m⟩ = some (r, m')) :
    m' = m ∧ ∀ M, (cls Γ o wk = 0 ∨ Ext m M) → StepOk Γ.P ops o M r M tj :=
  ⟨(step_quiet (M := m) hc h).1, fun M hE => stepOk_same ok hcf hin ((step_quiet (M := M) hc h).2 hE)⟩

end

end Go.Am

namespace Go.Am

/-- One step of the run: the operation, whether its call may write, its result, the memory behind it. -/
structure Ent where
  i : Nat
  wk : Bool
  r : AV
  m : Mem

def dstOf (ops : Array Oper) (i : Nat) : Option Tmp := (ops[i]?).bind (·.dst)

def foldT (ops : Array Oper) (K : Nat → Bool) : List Ent → List AV → List AV
  | [], t => t
  | e :: T, t => foldT ops K T (bif K e.i then putA' t (dstOf ops e.i) e.r else t)

def lastM : Mem → List Ent → Mem
  | m, [] => m
  | _, e :: T => lastM e.m T

def Trace (Γ : Ctx) (fk : Nat → Bool) (cf : CF) (ops : Array Oper) : List Ent → List AV → Mem → Prop
  | [], _, _ => True
  | e :: T, t, m => (∃ o, ops[e.i]? = some o ∧ stepOp Γ fk cf ops true e.wk o ⟨t, m⟩ = some (e.r, e.m)) ∧ Trace Γ fk cf ops T (putA' t (dstOf ops e.i) e.r) e.m

/-- Blocks that are to stay do. -/
def Prot (ops : Array Oper) : List Ent → List Nat → List AV → Mem → Prop
  | [], _, _, _ => True
  | e :: T, H, t, m => ∃ o H', ops[e.i]? = some o ∧ protA e.wk o H ⟨t, m⟩ = some H' ∧ Prot ops T H' (putA' t (dstOf ops e.i) e.r) e.m

/-- The memory before the first step that stops. -/
def memAt (stop : Ent → Bool) : Mem → List Ent → Mem
  | m, [] => m
  | m, e :: T => bif stop e then m else memAt stop e.m T

section
variable {Γ : Ctx} {fk : Nat → Bool} {cf : CF} {ops : Array Oper} {K K' : Nat → Bool}

theorem put_len (t : List AV) (d : Option Tmp) (r : AV) : (putA' t d r).length = t.length := by cases d <;> simp [putA']

theorem nth_put (t : List AV) (d : Option Tmp) (r : AV) (x : Nat) : nth (putA' t d r) x = if d = some x ∧ x < t.length then r else nth t x := by
  cases d with
  | none => simp [putA']
  | some d =>
    simp only [putA', nth_set]
    by_cases h : x = d
    · subst h; simp
    · rw [if_neg (fun hh => h hh.1), if_neg (fun hh => h (by simpa using hh.1.symm))]

theorem foldT_len : ∀ (T : List Ent) (t : List AV), (foldT ops K T t).length = t.length
  | [], t => rfl
  | e :: T, t => by
    simp only [foldT]
    rw [foldT_len T]
    cases K e.i
    · rfl
    · simp [put_len]

theorem foldT_append : ∀ (T T' : List Ent) (t : List AV), foldT ops K (T ++ T') t = foldT ops K T' (foldT ops K T t)
  | [], T', t => rfl
  | e :: T, T', t => by simp only [List.cons_append, foldT]; rw [foldT_append T]

theorem lastM_append : ∀ (T T' : List Ent) (m : Mem), lastM m (T ++ T') = lastM (lastM m T) T'
  | [], T', m => rfl
  | e :: T, T', m => by simp only [List.cons_append, lastM]; rw [lastM_append T]

theorem trace_append : ∀ (T T' : List Ent) (t : List AV) (m : Mem), Trace Γ fk cf ops (T ++ T') t m → Trace Γ fk cf ops T t m ∧ Trace Γ fk cf ops T' (foldT ops (fun _ => true) T t) (lastM m T)
  | [], T', t, m, h => ⟨trivial, h⟩
  | e :: T, T', t, m, h => by
    obtain ⟨h1, h2⟩ := h
    obtain ⟨h3, h4⟩ := trace_append T T' _ _ h2
    exact ⟨⟨h1, h3⟩, h4⟩

theorem trace_of_run : ∀ (pi : List (Nat × Bool)) (H : List Nat) (s s' : St), runD Γ fk cf ops pi H s = some s' →
    ∃ T : List Ent, T.map (fun e => (e.i, e.wk)) = pi ∧ Trace Γ fk cf ops T s.t s.m ∧ s'.t = foldT ops (fun _ => true) T s.t ∧ s'.m = lastM s.m T ∧ Prot ops T H s.t s.m
  | [], H, s, s', h => by
    simp only [runD, Option.some.injEq] at h
    subst h
    exact ⟨[], rfl, trivial, rfl, rfl, trivial⟩
  | (i, wk) :: pi, H, s, s', h => by
    unfold runD at h
    split at h
    · rename_i o ho
      split at h
      · rename_i H' hp
        split at h
        · rename_i r m hs
          obtain ⟨T, h1, h2, h3, h4, h5⟩ := trace_of_run pi H' _ s' h
          have hd : dstOf ops i = o.dst := by simp [dstOf, ho]
          refine ⟨⟨i, wk, r, m⟩ :: T, by simp [h1], ⟨⟨o, ho, hs⟩, ?_⟩, ?_, h4, ⟨o, H', ho, hp, ?_⟩⟩
          · simp only [hd]; exact h2
          · simp only [foldT, cond_true, hd]; exact h3
          · simp only [hd]; exact h5
        · cases h
      · cases h
    · cases h

theorem prot_append : ∀ (T T' : List Ent) (H : List Nat) (t : List AV) (m : Mem), Prot ops (T ++ T') H t m → ∃ H', Prot ops T' H' (foldT ops (fun _ => true) T t) (lastM m T)
  | [], T', H, t, m, h => ⟨H, h⟩
  | e :: T, T', H, t, m, ⟨o, H', ho, hp, h⟩ => prot_append T T' H' _ _ h

theorem fold_agree {x : Nat} : ∀ (T : List Ent) (t t' : List AV), (∀ e ∈ T, dstOf ops e.i = some x → K e.i = K' e.i) → t.length = t'.length → nth t x = nth t' x → nth (foldT ops K T t) x = nth (foldT ops K' T t') x
  | [], t, t', _, _, h => h
  | e :: T, t, t', ha, hl, h => by
    simp only [foldT]
    refine fold_agree T _ _ (fun f hf => ha f (List.mem_cons_of_mem _ hf)) ?_ ?_
    · cases K e.i <;> cases K' e.i <;> simp [put_len, hl]
    · by_cases hd : dstOf ops e.i = some x
      · have := ha e List.mem_cons_self hd
        rw [← this]
        cases K e.i
        · exact h
        · simp only [cond_true, nth_put, hd, hl]
          split <;> first | rfl | exact h
      · have h1 : ∀ (s : List AV) (b : Bool), nth (bif b then putA' s (dstOf ops e.i) e.r else s) x = nth s x := by
          intro s b
          cases b
          · rfl
          · simp only [cond_true, nth_put]
            rw [if_neg (fun hh => hd hh.1)]
        rw [h1, h1]
        exact h

theorem fold_none {x : Nat} (T : List Ent) (t : List AV) (h : ∀ e ∈ T, dstOf ops e.i = some x → K e.i = false) : nth (foldT ops K T t) x = nth t x := by
  have h1 : ∀ (T : List Ent) (t : List AV), foldT ops (fun _ => false) T t = t := by
    intro T
    induction T with
    | nil => intro t; rfl
    | cons e T ih => intro t; simp only [foldT, cond_false]; exact ih t
  rw [fold_agree (K' := fun _ => false) T t t h rfl rfl, h1]

theorem memAt_pass {stop : Ent → Bool} : ∀ (T T' : List Ent) (m : Mem), (∀ e ∈ T, stop e = false) → memAt stop m (T ++ T') = memAt stop (lastM m T) T'
  | [], T', m, _ => rfl
  | e :: T, T', m, h => by
    simp only [List.cons_append, memAt, lastM, h e List.mem_cons_self, cond_false]
    exact memAt_pass T T' e.m fun f hf => h f (List.mem_cons_of_mem _ hf)

theorem memAt_congr {stop stop' : Ent → Bool} : ∀ (T : List Ent) (m : Mem), (∀ e ∈ T, stop e = stop' e) → memAt stop m T = memAt stop' m T
  | [], m, _ => rfl
  | e :: T, m, h => by
    simp only [memAt, h e List.mem_cons_self]
    rw [memAt_congr T e.m fun f hf => h f (List.mem_cons_of_mem _ hf)]

/-- The class of a step. -/
def cE (Γ : Ctx) (ops : Array Oper) (e : Ent) : Nat := match ops[e.i]? with
  | some o => cls Γ o e.wk
  | none => 9

theorem step_alloc {o : Oper} {wk : Bool} {t : List AV} {m m' : Mem} {r : AV} (hc : cls Γ o wk = 2) (h : stepOp Γ fk cf ops true wk o ⟨t, m⟩ = some (r, m')) (hg : o.guard = none) :
    ∃ ty i, o.op = .alloc ty ∧ Γ.ty ty = some i ∧ r = .ptr m.b.length m.n 0 ∧ m' = m.push (zeroA i) := by
  have hn : isCall o = false := cls_call (.inr (.inr hc))
  obtain ⟨dst, op, ty, pos, after, guard⟩ := o
  simp only at hg
  subst hg
  cases op with
  | alloc ty' =>
    simp only [stepOp, wantedA, hn, Bool.false_eq_true, if_false, opD, opA] at h
    split at h
    · rename_i i hi
      simp only [Option.some.injEq, Prod.mk.injEq] at h
      exact ⟨ty', i, rfl, hi, h.1.symm, h.2.symm⟩
    · cases h
  | call c =>
    simp only [cls] at hc
    split at hc <;> first | cases hc | skip
    split at hc
    · cases hc
    · split at hc <;> cases hc
  | convert a b x =>
    simp only [cls] at hc
    split at hc
    · split at hc <;> cases hc
    · cases hc
  | binOp a b x y z =>
    simp only [cls] at hc
    split at hc
    · split at hc <;> cases hc
    · cases hc
  | load ty' a => cases wk <;> simp [cls] at hc
  | _ => simp [cls] at hc

theorem cls_le (o : Oper) (wk : Bool) : cls Γ o wk ≤ 6 := by
  unfold cls
  split <;> first
    | omega
    | (cases wk <;> decide)
    | (split <;> first | omega | (split <;> first | omega | (split <;> omega)))

theorem step_ext {o : Oper} {wk : Bool} {t : List AV} {m m' : Mem} {r : AV} (hcf : CFok Γ.P cf) (hin : CFin Γ.P cf) (hc : cls Γ o wk ≠ 3) (h : stepOp Γ fk cf ops true wk o ⟨t, m⟩ = some (r, m')) (hg : cls Γ o wk = 2 → o.guard = none) : Ext m m' := by
  have hle := cls_le (Γ := Γ) o wk
  by_cases h01 : cls Γ o wk = 0 ∨ cls Γ o wk = 1
  · rw [(step_quiet (M := m) h01 h).1]; exact .refl m
  · by_cases h2 : cls Γ o wk = 2
    · obtain ⟨_, i, _, _, _, rfl⟩ := step_alloc h2 h (hg h2)
      exact Ext.push m _
    · by_cases h4 : cls Γ o wk = 4
      · exact step_call4 h4 h
      · by_cases h6 : cls Γ o wk = 6
        · rw [(step_load h6 h).1]; exact .refl m
        · exact (step_call5 hcf hin (by omega) h).1.ext

/-- A step that may write leaves the blocks that are to stay. -/
theorem step_stay {o : Oper} {wk : Bool} {t : List AV} {m m' : Mem} {r : AV} {H H' : List Nat} (hc : cls Γ o wk = 3) (h : stepOp Γ fk cf ops true wk o ⟨t, m⟩ = some (r, m')) (hp : protA wk o H ⟨t, m⟩ = some H') {x : Nat} (hx : x ∈ H) {g : Nat} {cs : List AV} (hr : row? m x g = some cs) : row? m' x g = some cs := by
  obtain ⟨y, H1, rfl⟩ : ∃ y H1, H = y :: H1 := by
    cases H with
    | nil => cases hx
    | cons y H1 => exact ⟨y, H1, rfl⟩
  obtain ⟨dst, op, ty, pos, after, guard⟩ := o
  cases op with
  | store ty' a v =>
    have hn : isCall (⟨dst, .store ty' a v, ty, pos, after, guard⟩ : Oper) = false := rfl
    unfold stepOp at h
    simp only [hn, Bool.false_eq_true, if_false] at h
    split at h
    · cases h
    · simp only [Option.some.injEq, Prod.mk.injEq] at h
      rw [← h.2]; exact hr
    · simp only [opD, opA] at h
      split at h
      · rename_i M hM
        simp only [Option.some.injEq, Prod.mk.injEq] at h
        rw [← h.2]
        unfold storeA at hM
        split at hM
        · rename_i i xs k g' off hi hxs hk
          simp only [protA] at hp
          rw [hk] at hp
          simp only at hp
          split at hp
          · rename_i cs' ho
            cases hany : (y :: H1).any (Nat.beq k) with
            | true => rw [hany] at hp; cases hp
            | false =>
              have hne : k ≠ x := fun e => by
                have := List.any_eq_false.mp hany x hx
                rw [e] at this
                exact this (Nat.beq_refl x)
              split at hM
              · rw [ho] at hM
                simp only at hM
                split at hM
                · simp only [Option.some.injEq] at hM
                  rw [← hM]
                  unfold row? at hr ⊢
                  simp only [Mem.write, kill]
                  rw [List.getElem?_set_ne hne]
                  exact hr
                · cases hM
              · cases hM
          · cases hp
        · cases hM
      · cases h
  | load ty' a => cases wk <;> simp [cls] at hc
  | convert a b x =>
    simp only [cls] at hc
    split at hc
    · split at hc <;> cases hc
    · cases hc
  | binOp a b x y z =>
    simp only [cls] at hc
    split at hc
    · split at hc <;> cases hc
    · cases hc
  | call c =>
    simp only [cls] at hc
    simp only [protA] at hp
    split at hp
    · rename_i hcal; rw [hcal] at hc; cases hc
    · rename_i hcal; rw [hcal] at hc; cases hc
    · rename_i hcal; rw [hcal] at hc; cases hc
    · rename_i hcal
      rw [hcal] at hc
      cases wk with
      | true => cases hp
      | false =>
        simp only [Bool.false_eq_true, if_false] at hc
        split at hc <;> cases hc
    · cases hp
  | move a => simp [cls] at hc
  | assign a => simp [cls] at hc
  | pick a b c => simp [cls] at hc
  | unOp a b c => simp [cls] at hc
  | build a b => simp [cls] at hc
  | field a b c => simp [cls] at hc
  | extract a b => simp [cls] at hc
  | makeFunc a b c => simp [cls] at hc
  | index a b c => simp [cls] at hc
  | buildSlice a b c => simp [cls] at hc
  | lookup a b c d => simp [cls] at hc
  | slice a b c d e => simp [cls] at hc
  | indexAddr a b c => simp [cls] at hc
  | fieldAddr a b c => simp [cls] at hc
  | nilCheck a => simp [cls] at hc
  | alloc a => simp [cls] at hc
  | _ => simp [protA] at hp

theorem prot_mem {o : Oper} {wk : Bool} {H H' : List Nat} {s : St} (hp : protA wk o H s = some H') {x : Nat} (hx : x ∈ H) : x ∈ H' := by
  obtain ⟨y, H1, rfl⟩ : ∃ y H1, H = y :: H1 := by
    cases H with
    | nil => cases hx
    | cons y H1 => exact ⟨y, H1, rfl⟩
  obtain ⟨dst, op, ty, pos, after, guard⟩ := o
  cases op with
  | load ty' a =>
    cases wk with
    | false =>
      simp only [protA, Option.some.injEq] at hp
      rw [← hp]; exact hx
    | true =>
      simp only [protA] at hp
      split at hp
      · simp only [Option.some.injEq] at hp
        rw [← hp]; exact List.mem_cons_of_mem _ hx
      · simp only [Option.some.injEq] at hp
        rw [← hp]; exact hx
  | store ty' a v =>
    simp only [protA] at hp
    split at hp
    · split at hp
      · rename_i k g' off hk q cs' ho
        cases hany : (y :: H1).any (Nat.beq k) with
        | true => rw [hany] at hp; cases hp
        | false =>
          rw [hany] at hp
          simp only [cond_false, Option.some.injEq] at hp
          rw [← hp]; exact hx
      · cases hp
    · cases hp
  | call c =>
    simp only [protA] at hp
    split at hp
    · simp only [Option.some.injEq] at hp; rw [← hp]; exact hx
    · simp only [Option.some.injEq] at hp; rw [← hp]; exact hx
    · simp only [Option.some.injEq] at hp; rw [← hp]; exact hx
    · cases wk with
      | true => cases hp
      | false =>
        simp only [cond_false, Option.some.injEq] at hp
        rw [← hp]; exact hx
    · cases hp
  | _ => first
    | (simp only [protA, Option.some.injEq] at hp; rw [← hp]; exact hx)
    | (simp [protA] at hp)

theorem memAt_row (hcf : CFok Γ.P cf) (hin : CFin Γ.P cf) {stop : Ent → Bool} {x g : Nat} {cs : List AV} : ∀ (T : List Ent) (H : List Nat) (t : List AV) (m : Mem), Trace Γ fk cf ops T t m → Prot ops T H t m →
    (∀ e ∈ T, ∀ o, ops[e.i]? = some o → cls Γ o e.wk = 2 → o.guard = none) → x ∈ H → row? m x g = some cs → row? (memAt stop m T) x g = some cs
  | [], _, _, _, _, _, _, _, hr => hr
  | e :: T, H, t, m, ⟨⟨o, ho, hs⟩, h2⟩, ⟨o', H', ho', hp, hq⟩, hg, hx, hr => by
    simp only [memAt]
    cases hst : stop e with
    | true => exact hr
    | false =>
      rw [ho] at ho'
      simp only [Option.some.injEq] at ho'
      subst ho'
      refine memAt_row hcf hin T H' _ _ h2 hq (fun f hf => hg f (List.mem_cons_of_mem _ hf)) (prot_mem hp hx) ?_
      by_cases hc : cls Γ o e.wk = 3
      · exact step_stay hc hs hp hx hr
      · exact (step_ext hcf hin hc hs (hg e List.mem_cons_self o ho)).r hr

theorem memAt_ext (hcf : CFok Γ.P cf) (hin : CFin Γ.P cf) {stop : Ent → Bool} : ∀ (T : List Ent) (t : List AV) (m : Mem), Trace Γ fk cf ops T t m → (∀ e ∈ T, cE Γ ops e = 3 → stop e = true) →
    (∀ e ∈ T, ∀ o, ops[e.i]? = some o → cls Γ o e.wk = 2 → o.guard = none) → Ext m (memAt stop m T)
  | [], t, m, _, _, _ => .refl m
  | e :: T, t, m, ⟨⟨o, ho, hs⟩, h2⟩, h3, hg => by
    simp only [memAt]
    cases hst : stop e with
    | true => exact .refl m
    | false =>
      have hce : cls Γ o e.wk ≠ 3 := fun hc => by
        have := h3 e List.mem_cons_self (by simp [cE, ho, hc])
        rw [hst] at this; cases this
      exact (step_ext hcf hin hce hs (hg e List.mem_cons_self o ho)).trans (memAt_ext hcf hin T _ _ h2 (fun f hf => h3 f (List.mem_cons_of_mem _ hf)) fun f hf => hg f (List.mem_cons_of_mem _ hf))

theorem memAt_fz (hcf : CFok Γ.P cf) (hin : CFin Γ.P cf) {stop : Ent → Bool} : ∀ (T : List Ent) (t : List AV) (m : Mem), Trace Γ fk cf ops T t m → (∀ e ∈ T, cE Γ ops e = 2 ∨ cE Γ ops e = 3 ∨ cE Γ ops e = 4 → stop e = true) → FzStep m (memAt stop m T)
  | [], t, m, _, _ => .refl m
  | e :: T, t, m, ⟨⟨o, ho, hs⟩, h2⟩, h3 => by
    simp only [memAt]
    cases hst : stop e with
    | true => exact .refl m
    | false =>
      have hno : ¬ (cls Γ o e.wk = 2 ∨ cls Γ o e.wk = 3 ∨ cls Γ o e.wk = 4) := fun hc => by
        have := h3 e List.mem_cons_self (by simpa [cE, ho] using hc)
        rw [hst] at this; cases this
      have hle := cls_le (Γ := Γ) o e.wk
      have ih := memAt_fz hcf hin T _ _ h2 fun f hf => h3 f (List.mem_cons_of_mem _ hf)
      by_cases h01 : cls Γ o e.wk = 0 ∨ cls Γ o e.wk = 1
      · rw [(step_quiet (M := m) h01 hs).1] at ih ⊢
        exact ih
      · by_cases h6 : cls Γ o e.wk = 6
        · rw [(step_load h6 hs).1] at ih ⊢
          exact ih
        · exact (step_call5 hcf hin (by omega) hs).1.trans ih

end

end Go.Am

namespace Go.Am

def Clo (ops : Array Oper) (L : Nat → Bool) : Prop := ∀ i o, ops[i]? = some o → L i = true → ∀ g ∈ o.after, Region.binds .any g = true → L g.on = true

/-- Before f runs, e has. -/
def Bef (ops : Array Oper) (f e : Nat) : Prop := ∀ L : Nat → Bool, Clo ops L → L f = true → L e = true

/-- Two classes that may change places; a stands before b. -/
def free (a b : Nat) : Bool := a == 0 || b == 0 || ((a == 1 || a == 5) && (b == 1 || b == 5 || b == 2 || b == 4 || b == 6)) || (a == 2 && b == 2) || (a == 6 && (b == 1 || b == 5 || b == 2 || b == 4 || b == 3 || b == 6))

structure Order (Γ : Ctx) (ops : Array Oper) (T : List Ent) : Prop where
  dis : T.Pairwise fun e f => e.i ≠ f.i
  len : T.length ≤ ops.size
  all : ∀ i, i < ops.size → ∃ e ∈ T, e.i = i
  topo : ∀ T1 e T2, T = T1 ++ e :: T2 → ∀ o, ops[e.i]? = some o → ∀ g ∈ o.after, Region.binds .any g = true → ∃ f ∈ T1, f.i = g.on
  pair : T.Pairwise fun e f => Bef ops f.i e.i ∨ ∃ oe of, ops[e.i]? = some oe ∧ ops[f.i]? = some of ∧ oe.apart ops of = true ∧ free (cE Γ ops e) (cE Γ ops f) = true
  grp : ∃ Q A R, T = Q ++ (A ++ R) ∧ (∀ e ∈ Q, cE Γ ops e ≠ 2) ∧ (∀ e ∈ A, cE Γ ops e = 2) ∧ ∀ e ∈ R, cE Γ ops e ≠ 2
  al : ∀ e ∈ T, cE Γ ops e = 2 → ∃ o d, ops[e.i]? = some o ∧ o.guard = none ∧ o.dst = some d ∧
    ∀ f ∈ T, f.i ≠ e.i → dstOf ops f.i ≠ some d ∧ ∀ of, ops[f.i]? = some of → d ∈ of.looksAt ops → ∀ g ∈ T, cE Γ ops g = 2 → Bef ops f.i g.i

section
variable {Γ : Ctx} {fk : Nat → Bool} {cf : CF} {ops : Array Oper}

/-- Where an allocation's block lies and what it holds. -/
def Ghost (Γ : Ctx) (ops : Array Oper) (e : Ent) (β : Nat) (a : Act) (w : World) : Prop :=
  ∃ o d ty i c E, ops[e.i]? = some o ∧ o.dst = some d ∧ o.op = .alloc ty ∧ Γ.ty ty = some i ∧ (d < a.tmps.size → a.tmps.getD d undef = .pointer (some ⟨β, 0, none⟩)) ∧
    w.heap[β]? = some (.cells c E (0, 0)) ∧ c = i.zero.toArray

theorem far_of {O : Nat → Prop} {ρ : Nat → Nat × Nat} {m : Mem} {w : World} (hm : MemInv O ρ m w) {b : Nat} (hb : O b) : Far ρ m b :=
  ⟨fun h cs g s kid hr e => (hm.row h cs g s kid hr).2.1 (by rw [e]; exact hb), fun h es g hr e => (hm.map h es g hr).2.1 (by rw [e]; exact hb)⟩

theorem adoptAll {O : Nat → Prop} {B : Nat → Nat} {a : Act} {w w0 : World} {ρ0 : Nat → Nat × Nat} {m0 : Mem} {tt : List AV} : ∀ (S : List Ent) (ρ : Nat → Nat × Nat) (m : Mem) (t : List AV), Trace Γ fk cf ops S t m →
    (∀ e ∈ S, cE Γ ops e = 2 ∧ (∀ o, ops[e.i]? = some o → o.guard = none) ∧ Ghost Γ ops e (B e.i) a w ∧ w0.heap.size ≤ B e.i ∧ ¬ O (B e.i)) →
    S.Pairwise (fun e f => B e.i ≠ B f.i) → (∀ e ∈ S, ∀ d, dstOf ops e.i = some d → d < tt.length → nth tt d = e.r) →
    RelX (fun d => ∃ e ∈ S, dstOf ops e.i = some d) (fun b => O b ∨ ∃ e ∈ S, B e.i = b) ρ tt m w a → Later ρ0 m0 w0 ρ m w →
    ∃ ρ', RelX (fun _ => False) O ρ' tt (lastM m S) w a ∧ Later ρ0 m0 w0 ρ' (lastM m S) w
  | [], ρ, m, t, _, _, _, _, hr, hl => by
    refine ⟨ρ, ⟨?_, hr.len, fun i _ => ?_, hr.def0⟩, hl⟩
    · have : (fun b => O b ∨ ∃ e ∈ ([] : List Ent), B e.i = b) = O := by funext b; simp
      have h := hr.mem
      rw [this] at h
      exact h
    · exact (hr.tmp i (by simp)).weak fun b hb => by
        rcases hb with hb | hb
        · exact .inl (.inl hb)
        · exact .inr hb
  | e :: S, ρ, m, t, ⟨⟨o, ho, hs⟩, htr⟩, hall, hdis, hnth, hr, hl => by
    obtain ⟨hc, hgd, ⟨o', d, ty, i, c, E, ho', hd, hop, hty, htmp, hheap, hcz⟩, hw0, hO⟩ := hall e List.mem_cons_self
    rw [ho] at ho'
    simp only [Option.some.injEq] at ho'
    subst ho'
    have hcc : cls Γ o e.wk = 2 := by simpa [cE, ho] using hc
    obtain ⟨ty', i', hop', hty', hre, hme⟩ := step_alloc hcc hs (hgd o ho)
    rw [hop] at hop'
    simp only [Op.alloc.injEq] at hop'
    subst hop'
    rw [hty] at hty'
    simp only [Option.some.injEq] at hty'
    subst hty'
    simp only [List.pairwise_cons] at hdis
    have hset : (fun b => O b ∨ ∃ f ∈ e :: S, B f.i = b) = With (fun b => O b ∨ ∃ f ∈ S, B f.i = b) (B e.i) := by
      funext b
      simp only [With, List.mem_cons, eq_iff_iff]
      constructor
      · rintro (h | ⟨f, rfl | hf, h⟩)
        · exact .inl (.inl h)
        · exact .inr h.symm
        · exact .inl (.inr ⟨f, hf, h⟩)
      · rintro ((h | ⟨f, hf, h⟩) | h)
        · exact .inl h
        · exact .inr ⟨f, .inr hf, h⟩
        · exact .inr ⟨e, .inl rfl, h.symm⟩
    have hmem := hr.mem
    rw [hset] at hmem
    have hmem' : MemInv (With (fun b => O b ∨ ∃ f ∈ S, B f.i = b) ((B e.i, 0) : Nat × Nat).1) ρ m w := hmem
    have hnew : MemInv (fun b => O b ∨ ∃ f ∈ S, B f.i = b) (upd ρ m.b.length (B e.i, 0)) (m.push (zeroA i)) w := by
      refine hmem'.adopt (zeroA i) c E (fun h => ?_) (far_of hmem' (.inr rfl)) hheap fun j hj => ?_
      · rcases h with h | ⟨f, hf, h⟩
        · exact hO h
        · exact hdis.1 f hf h.symm
      · simp only [zeroA, List.length_map] at hj
        refine ⟨i.zero[j], by rw [hcz]; simp [hj], ?_⟩
        simp only [zeroA, List.getElem_map]
        exact .d _ _ (.v _)
    rw [← hme] at hnew
    refine adoptAll S _ e.m _ htr (fun f hf => hall f (List.mem_cons_of_mem _ hf)) hdis.2 (fun f hf => hnth f (List.mem_cons_of_mem _ hf)) ⟨hnew, hr.len, fun x hx => ?_, hr.def0⟩ (by rw [hme]; exact hl.adopt hw0 (zeroA i))
    by_cases hxd : d = x
    · subst hxd
      by_cases hlt : d < a.tmps.size
      · have h1 := hnth e List.mem_cons_self d (by simp [dstOf, ho, hd]) (by rw [hr.len]; exact hlt)
        rw [h1, hre, htmp hlt]
        refine .ptr _ _ _ _ (by rw [hme]; exact Nat.lt_succ_self _) fun cs s kid _ => ?_
        rw [upd_same]
      · have hle : a.tmps.size ≤ d := Nat.le_of_not_lt hlt
        rw [nth_out _ _ (by rw [hr.len]; exact hle), Array.getD_eq_getD_getElem?, Array.getElem?_eq_none hle]
        exact RV.undef _ _ _ _
    · have h1 := hr.tmp x (by
        rintro ⟨f, hf, h⟩
        simp only [List.mem_cons] at hf
        rcases hf with rfl | hf
        · simp only [dstOf, ho, Option.bind_some, hd, Option.some.injEq] at h; exact hxd h
        · exact hx ⟨f, hf, h⟩)
      rw [hset] at h1
      have h2 : RV (Av (With (fun b => O b ∨ ∃ f ∈ S, B f.i = b) ((B e.i, 0) : Nat × Nat).1) ρ m) ρ m w (nth tt x) (a.tmps.getD x undef) := h1
      have h3 := h2.adopt (cs := zeroA i)
      rw [← hme] at h3
      exact h3

end

end Go.Am

namespace Go.Am

def allA (Γ : Ctx) (ops : Array Oper) (T : List Ent) (L : Nat → Bool) : Bool := T.all fun e => !(cE Γ ops e == 2) || L e.i

def stopE (Γ : Ctx) (ops : Array Oper) (T : List Ent) (L : Nat → Bool) (e : Ent) : Bool :=
  ((cE Γ ops e == 3 || cE Γ ops e == 4) && !L e.i) || (cE Γ ops e == 2 && !allA Γ ops T L)

def addL (L : Nat → Bool) (j : Nat) : Nat → Bool := fun i => L i || i == j

section
variable {Γ : Ctx} {ops : Array Oper} {T : List Ent} {L L' : Nat → Bool} {e : Ent}

theorem allA_iff : allA Γ ops T L = true ↔ ∀ e ∈ T, cE Γ ops e = 2 → L e.i = true := by
  simp only [allA, List.all_eq_true, Bool.or_eq_true, Bool.not_eq_true', beq_eq_false_iff_ne, ne_eq]
  constructor
  · intro h e he hc
    exact (h e he).resolve_left (fun hn => hn hc)
  · intro h e he
    by_cases hc : cE Γ ops e = 2
    · exact .inr (h e he hc)
    · exact .inl hc

theorem stop_false (h1 : cE Γ ops e = 3 ∨ cE Γ ops e = 4 → L e.i = true) (h2 : cE Γ ops e = 2 → allA Γ ops T L = true) : stopE Γ ops T L e = false := by
  unfold stopE
  by_cases h34 : cE Γ ops e = 3 ∨ cE Γ ops e = 4
  · have h3 := h1 h34
    rcases h34 with h | h <;> simp [h, h3]
  · by_cases hc : cE Γ ops e = 2
    · simp [hc, h2 hc]
    · have a1 : ¬ cE Γ ops e = 3 := fun h => h34 (.inl h)
      have a2 : ¬ cE Γ ops e = 4 := fun h => h34 (.inr h)
      simp [hc, a1, a2]

theorem stop_34 (h1 : cE Γ ops e = 3 ∨ cE Γ ops e = 4) (h2 : L e.i = false) : stopE Γ ops T L e = true := by
  unfold stopE
  rcases h1 with h | h <;> simp [h, h2]

theorem stop_2 (h1 : cE Γ ops e = 2) (h2 : allA Γ ops T L = false) : stopE Γ ops T L e = true := by
  unfold stopE
  simp [h1, h2]

theorem stop_congr (h1 : cE Γ ops e = 3 ∨ cE Γ ops e = 4 → L e.i = L' e.i) (h2 : cE Γ ops e = 2 → allA Γ ops T L = allA Γ ops T L') : stopE Γ ops T L e = stopE Γ ops T L' e := by
  unfold stopE
  by_cases h34 : cE Γ ops e = 3 ∨ cE Γ ops e = 4
  · have h3 := h1 h34
    rcases h34 with h | h <;> simp [h, h3]
  · by_cases hc : cE Γ ops e = 2
    · simp [hc, h2 hc]
    · have a1 : ¬ cE Γ ops e = 3 := fun h => h34 (.inl h)
      have a2 : ¬ cE Γ ops e = 4 := fun h => h34 (.inr h)
      rw [beq_eq_false_iff_ne.mpr a1, beq_eq_false_iff_ne.mpr a2, beq_eq_false_iff_ne.mpr hc]
      rfl

theorem addL_ne {i j : Nat} (h : i ≠ j) : addL L j i = L i := by simp only [addL, beq_eq_false_iff_ne.mpr h, Bool.or_false]
theorem addL_same (j : Nat) : addL L j j = true := by simp [addL]
end

/-- An operation that is to run next: where it stands in the run, and that all before it has run. -/
structure Nxt (ops : Array Oper) (T T1 : List Ent) (e : Ent) (T2 : List Ent) (L : Nat → Bool) : Prop where
  eq : T = T1 ++ e :: T2
  clo : Clo ops L
  clo' : Clo ops (addL L e.i)
  un : L e.i = false

section
variable {Γ : Ctx} {fk : Nat → Bool} {cf : CF} {ops : Array Oper} {T T1 T2 : List Ent} {L : Nat → Bool} {e : Ent} {t0 : List AV} {m0 : Mem}

theorem Nxt.pairs (hN : Nxt ops T T1 e T2 L) (hO : Order Γ ops T) :
    (∀ f ∈ T1, f.i ≠ e.i ∧ (Bef ops e.i f.i ∨ ∃ of oe, ops[f.i]? = some of ∧ ops[e.i]? = some oe ∧ of.apart ops oe = true ∧ free (cE Γ ops f) (cE Γ ops e) = true)) ∧
    (∀ f ∈ T2, f.i ≠ e.i ∧ (Bef ops f.i e.i ∨ ∃ oe of, ops[e.i]? = some oe ∧ ops[f.i]? = some of ∧ oe.apart ops of = true ∧ free (cE Γ ops e) (cE Γ ops f) = true)) := by
  have h1 := hO.dis
  have h2 := hO.pair
  rw [hN.eq] at h1 h2
  simp only [List.pairwise_append, List.pairwise_cons, List.mem_cons] at h1 h2
  exact ⟨fun f hf => ⟨h1.2.2 f hf e (.inl rfl), h2.2.2 f hf e (.inl rfl)⟩, fun f hf => ⟨fun he => h1.2.1.1 f hf he.symm, h2.2.1.1 f hf⟩⟩

theorem Nxt.done (hN : Nxt ops T T1 e T2 L) {f : Ent} (hne : f.i ≠ e.i) (h : Bef ops e.i f.i) : L f.i = true := by
  have := h _ hN.clo' (addL_same e.i)
  rwa [addL_ne hne] at this

theorem Nxt.todo (hN : Nxt ops T T1 e T2 L) {f : Ent} (h : Bef ops f.i e.i) : L f.i = false := by
  cases hf : L f.i with
  | false => rfl
  | true => have := h _ hN.clo hf; rw [hN.un] at this; cases this

theorem Nxt.before (hN : Nxt ops T T1 e T2 L) (hO : Order Γ ops T) {f : Ent} (hf : f ∈ T1) (h : free (cE Γ ops f) (cE Γ ops e) = false) : L f.i = true := by
  obtain ⟨hne, hb | ⟨_, _, _, _, _, hfr⟩⟩ := (hN.pairs hO).1 f hf
  · exact hN.done hne hb
  · rw [h] at hfr; cases hfr

theorem Nxt.behind (hN : Nxt ops T T1 e T2 L) (hO : Order Γ ops T) {f : Ent} (hf : f ∈ T2) (h : free (cE Γ ops e) (cE Γ ops f) = false) : L f.i = false := by
  obtain ⟨_, hb | ⟨_, _, _, _, _, hfr⟩⟩ := (hN.pairs hO).2 f hf
  · exact hN.todo hb
  · rw [h] at hfr; cases hfr

theorem free_other {a b : Nat} (h0 : a ≠ 0) (h1 : b ≠ 0) (h : ¬ ((a = 1 ∨ a = 5) ∧ (b = 1 ∨ b = 5 ∨ b = 2 ∨ b = 4 ∨ b = 6)) ∧ ¬ (a = 2 ∧ b = 2) ∧ ¬ (a = 6 ∧ (b = 1 ∨ b = 5 ∨ b = 2 ∨ b = 4 ∨ b = 3 ∨ b = 6))) : free a b = false := by
  simp only [free]
  simp only [Bool.or_eq_false_iff, Bool.and_eq_false_iff, beq_eq_false_iff_ne]
  omega

/-- What the operation looks at is as it was in the one run. -/
theorem Nxt.look (hN : Nxt ops T T1 e T2 L) (hO : Order Γ ops T) {o : Oper} (ho : ops[e.i]? = some o) {d : Tmp} (hd : d ∈ o.looksAt ops) :
    nth (foldT ops L T t0) d = nth (foldT ops (fun _ => true) T1 t0) d := by
  obtain ⟨h1, h2⟩ := hN.pairs hO
  rw [hN.eq, foldT_append, fold_none (e :: T2)]
  · refine fold_agree T1 t0 t0 (fun f hf hdf => ?_) rfl rfl
    obtain ⟨hne, hb | ⟨of, oe, hof, hoe, hap, _⟩⟩ := h1 f hf
    · exact hN.done hne hb
    · rw [ho] at hoe
      simp only [Option.some.injEq] at hoe
      subst hoe
      simp only [dstOf, hof, Option.bind_some] at hdf
      exact absurd hd ((Oper.apart_spec hap).1 d hdf)
  · intro f hf hdf
    simp only [List.mem_cons] at hf
    rcases hf with rfl | hf
    · exact hN.un
    · obtain ⟨_, hb | ⟨oe, of, hoe, hof, hap, _⟩⟩ := h2 f hf
      · exact hN.todo hb
      · rw [ho] at hoe
        simp only [Option.some.injEq] at hoe
        subst hoe
        simp only [dstOf, hof, Option.bind_some] at hdf
        exact absurd hd ((Oper.apart_spec hap).2.2 d hdf)

/-- The temporaries behind the operation. -/
theorem Nxt.put (hN : Nxt ops T T1 e T2 L) (hO : Order Γ ops T) (x : Nat) : nth (foldT ops (addL L e.i) T t0) x = nth (putA' (foldT ops L T t0) (dstOf ops e.i) e.r) x := by
  obtain ⟨h1, h2⟩ := hN.pairs hO
  have hT1 : ∀ f ∈ T1, addL L e.i f.i = L f.i := fun f hf => addL_ne (h1 f hf).1
  have hT2 : ∀ f ∈ T2, addL L e.i f.i = L f.i := fun f hf => addL_ne (h2 f hf).1
  have e1 : foldT ops (addL L e.i) T t0 = foldT ops (addL L e.i) T2 (putA' (foldT ops (addL L e.i) T1 t0) (dstOf ops e.i) e.r) := by
    rw [hN.eq, foldT_append]
    simp only [foldT, addL_same, cond_true]
  have e2 : foldT ops L T t0 = foldT ops L T2 (foldT ops L T1 t0) := by
    rw [hN.eq, foldT_append]
    simp only [foldT, hN.un, cond_false]
  rw [e1, e2]
  by_cases hd : dstOf ops e.i = some x
  · rw [fold_none T2, nth_put, nth_put, foldT_len, foldT_len, foldT_len]
    · simp only [hd, true_and]
      split
      · rfl
      · rename_i hlt
        rw [nth_out _ _ (by rw [foldT_len]; omega), nth_out _ _ (by rw [foldT_len, foldT_len]; omega)]
    · intro f hf hdf
      rw [hT2 f hf]
      obtain ⟨_, hb | ⟨oe, of, hoe, hof, hap, _⟩⟩ := h2 f hf
      · exact hN.todo hb
      · simp only [dstOf, hof, hoe, Option.bind_some] at hdf hd
        exact absurd hdf ((Oper.apart_spec hap).2.1 x hd)
  · rw [nth_put, if_neg (fun h => hd h.1)]
    refine fold_agree T2 _ _ (fun f hf _ => hT2 f hf) (by rw [put_len, foldT_len, foldT_len]) ?_
    rw [nth_put, if_neg (fun h => hd h.1)]
    exact fold_agree T1 t0 t0 (fun f hf _ => hT1 f hf) rfl rfl

/-- Allocations before an operation that is none are all there are. -/
theorem Order.allocs (hO : Order Γ ops T) (hT : T = T1 ++ e :: T2) (hc : cE Γ ops e ≠ 2) (h : ∃ f ∈ T1, cE Γ ops f = 2) : ∀ g ∈ T, cE Γ ops g = 2 → g ∈ T1 := by
  obtain ⟨Q, A, R, hQ, h1, h2, h3⟩ := hO.grp
  obtain ⟨f, hf, hfc⟩ := h
  intro g hg hgc
  have hA : A ⊆ T1 → g ∈ T1 := fun hA => by
    rw [hQ] at hg
    simp only [List.mem_append] at hg
    rcases hg with hg | hg | hg
    · exact absurd hgc (h1 g hg)
    · exact hA hg
    · exact absurd hgc (h3 g hg)
  rw [hT] at hQ
  rcases List.append_eq_append_iff.mp hQ with ⟨X, hX1, hX2⟩ | ⟨X, hX1, hX2⟩
  · exact absurd hfc (h1 f (by rw [hX1]; exact List.mem_append_left _ hf))
  · rcases List.append_eq_append_iff.mp hX2 with ⟨Y, hY1, hY2⟩ | ⟨Y, hY1, hY2⟩
    · exact hA fun x hx => by rw [hX1, hY1]; exact List.mem_append_right _ (List.mem_append_left _ hx)
    · cases Y with
      | nil => exact hA fun x hx => by rw [hX1]; rw [hY1, List.append_nil] at hx; exact List.mem_append_right _ hx
      | cons y Y =>
        simp only [List.cons_append, List.cons.injEq] at hY2
        exact absurd (h2 y (by rw [hY1]; exact List.mem_append_right _ List.mem_cons_self)) (hY2.1 ▸ hc)

end

end Go.Am
