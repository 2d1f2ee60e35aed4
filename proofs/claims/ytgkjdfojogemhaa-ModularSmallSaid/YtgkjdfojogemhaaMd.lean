/-
  Calls, code, functions: the machine's run tells what the model's call comes to. Conditions: none.
-/
import Derived.Test.YtgkjdfojogemhaaMc
import Derived.Tactics
import Derived.LoopN
import Derived.Scope
set_option linter.unusedSimpArgs false
set_option linter.unusedVariables false
namespace Go.Am

theorem mapO_get {α β : Type} {f : α → Option β} : ∀ {l : List α} {r : List β}, mapO f l = some r → r.length = l.length ∧ ∀ i (h : i < l.length) (h' : i < r.length), f (l[i]'h) = some (r[i]'h')
  | [], r, h => by
    simp only [mapO, Option.some.injEq] at h
    subst h
    exact ⟨rfl, fun i h => absurd h (by simp)⟩
  | x :: l, r, h => by
    unfold mapO at h
    split at h
    · rename_i a ha
      split at h
      · rename_i b hb
        simp only [Option.some.injEq] at h
        subst h
        obtain ⟨h1, h2⟩ := mapO_get hb
        refine ⟨by simp [h1], fun i hi hi' => ?_⟩
        match i with
        | 0 => exact ha
        | i + 1 => exact h2 i (by simpa using hi) (by simpa using hi')
      · cases h
    · cases h

section
variable {O A : Nat → Prop} {ρ : Nat → Nat × Nat} {m : Mem} {w : World}

/-- What a copy may look at. -/
structure Looks (A O : Nat → Prop) (ρ : Nat → Nat × Nat) (m : Mem) (K : Nat → AV → Prop) : Prop where
  sub : ∀ b, A b → Av O ρ m b
  row : ∀ n h g off len e cap, K (n + 1) (.own h g off len e cap) → ∀ cs s kid, m.b[h]? = some (.row cs g s kid) → ¬ A (ρ h).1 ∧ ∀ c ∈ cut cs off (len * e), K n c

theorem snapD_sound {K : Nat → AV → Prop} (hm : MemInv O ρ m w) (hL : Looks A O ρ m K) : ∀ (n : Nat) (x : AV) (v : Value) (d : D), K n x → snapD m n x = some d → RV (Av O ρ m) ρ m w x v → RD A w d v
  | 0, x, v, d, _, h, _ => by simp [snapD] at h
  | n + 1, x, v, d, hK, h, hx => by
    unfold snapD at h
    split at h
    · rename_i y
      simp only [Option.some.injEq] at h
      subst h
      cases hx with
      | d _ _ hd => exact hd.mono (fun _ _ _ => rfl) (fun b _ hb => hL.sub b hb) (Nat.le_refl _)
    · rename_i h' g off len e cap
      split at h
      · rename_i cs hrow
        split at h
        · rename_i hoff
          cases hq : mapO (snapD m n) (cut cs off (len * e)) with
          | none => rw [hq] at h; cases h
          | some ds =>
            rw [hq] at h
            simp only [Option.map_some, Option.some.injEq] at h
            subst h
            obtain ⟨h1, h2⟩ := mapO_get hq
            obtain ⟨hg, cap', hv, a1, a2, a3, a4, a5⟩ := rv_own hx hrow
            obtain ⟨⟨s, kid, hb⟩, us, hus⟩ := row_read hm hrow
            obtain ⟨hA, hKc⟩ := hL.row n h' g off len e cap hK cs s kid hb
            have hcl := cut_len (cs := cs) (off := off) (k := len * e) hoff
            rw [hv]
            refine .sl false len ds (ρ h').1 ((ρ h').2 + off) cap' (fun i => us (off + i)) (fun i hi => ?_) (fun i hi => ?_) hA (hm.lt_row hb) a3 (fun h => by cases h)
            · rw [Nat.add_assoc]; exact (hus (off + i) (by omega)).1
            · have hi' : i < (cut cs off (len * e)).length := by omega
              obtain ⟨h6, h7⟩ := cut_get hoff hi'
              have h8 := h2 i hi' hi
              rw [h7] at h8
              exact snapD_sound hm hL n _ _ _ (hKc _ (h7 ▸ List.getElem_mem hi')) h8 (hus (off + i) h6).2
        · cases h
      · cases h
    · cases h

theorem snapC_sound {K : Nat → AV → Prop} (hm : MemInv O ρ m w) (hL : Looks A O ρ m K) {x y : AV} {v : Value} (hK : K depth x) (h : snapC m x = some y) (hx : RV (Av O ρ m) ρ m w x v) : ∀ ρ' m', RV A ρ' m' w y v := by
  intro ρ' m'
  unfold snapC at h
  split at h
  · rename_i cells
    simp only [Option.some.injEq] at h
    subst h
    cases hx with
    | rp _ b o us a1 a2 a3 a4 => exact .rp cells b o us a1 (fun i hi => (a2 i hi).mono (fun _ _ _ => rfl) (fun b _ hb => hL.sub b hb) (Nat.le_refl _)) (fun hb => a3 (hL.sub b hb)) a4
  · rename_i f
    simp only [Option.some.injEq] at h
    subst h
    cases hx with
    | fn _ caps vs hl hr => exact .fn f [] vs hl fun i hi => absurd hi (by simp)
  · cases hd : snapD m depth x with
    | none => rw [hd] at h; cases h
    | some d =>
      rw [hd] at h
      simp only [Option.map_some, Option.some.injEq] at h
      subst h
      exact .d _ _ (snapD_sound hm hL depth x v d hK hd hx)

theorem snapL_sound {K : Nat → AV → Prop} {f : AV → Option AV} (hf : ∀ x y v, (∀ c, K depth c) ∨ K depth x → f x = some y → RV (Av O ρ m) ρ m w x v → ∀ ρ' m', RV A ρ' m' w y v) {cs ys : List AV} {vs : List Value} (hl : vs.length = cs.length)
    (hr : ∀ i (h : i < cs.length), RV (Av O ρ m) ρ m w (cs[i]'h) (vs.getD i undef)) (hK : (∀ c, K depth c) ∨ ∀ c ∈ cs, K depth c) (h : mapO f cs = some ys) :
    vs.length = ys.length ∧ ∀ ρ' m' i (h : i < ys.length), RV A ρ' m' w (ys[i]'h) (vs.getD i undef) := by
  obtain ⟨h1, h2⟩ := mapO_get h
  refine ⟨by omega, fun ρ' m' i hi => ?_⟩
  have hi' : i < cs.length := by omega
  exact hf _ _ _ (hK.imp id fun hK => hK _ (List.getElem_mem hi')) (h2 i hi' hi) (hr i hi') ρ' m'

/-- What a copy looks at, of a value of more than one cell. -/
def KA (K : Nat → AV → Prop) : AV → Prop
  | .ag cs | .fn _ cs => ∀ c ∈ cs, K depth c
  | x => K depth x

theorem snapA_sound {K : Nat → AV → Prop} (hm : MemInv O ρ m w) (hL : Looks A O ρ m K) {x y : AV} {v : Value} (hK : KA K x) (h : snapA m x = some y) (hx : RV (Av O ρ m) ρ m w x v) : ∀ ρ' m', RV A ρ' m' w y v := by
  have hf : ∀ x y v, (∀ c, K depth c) ∨ K depth x → snapC m x = some y → RV (Av O ρ m) ρ m w x v → ∀ ρ' m', RV A ρ' m' w y v := fun x y v hK h hx => snapC_sound hm hL (hK.elim (fun h => h x) id) h hx
  intro ρ' m'
  unfold snapA at h
  split at h
  · rename_i cs
    cases hq : mapO (snapC m) cs with
    | none => rw [hq] at h; cases h
    | some ys =>
      rw [hq] at h
      simp only [Option.map_some, Option.some.injEq] at h
      subst h
      cases hx with
      | ag _ vs hl hr =>
        obtain ⟨h1, h2⟩ := snapL_sound hf hl hr (.inr hK) hq
        exact .ag ys vs h1 (h2 ρ' m')
  · rename_i f cs
    cases hq : mapO (snapC m) cs with
    | none => rw [hq] at h; cases h
    | some ys =>
      rw [hq] at h
      simp only [Option.map_some, Option.some.injEq] at h
      subst h
      cases hx with
      | fn _ _ vs hl hr =>
        obtain ⟨h1, h2⟩ := snapL_sound hf hl hr (.inr hK) hq
        exact .fn f ys vs h1 (h2 ρ' m')
  · rename_i hn1 hn2
    refine snapC_sound hm hL ?_ h hx ρ' m'
    unfold KA at hK
    split at hK
    · exact absurd rfl (hn1 _)
    · exact absurd rfl (hn2 _ _)
    · exact hK

theorem snapR_sound {K : Nat → AV → Prop} (hm : MemInv O ρ m w) (hL : Looks A O ρ m K) (hK : ∀ n x, K n x) {x y : AV} {v : Value} (h : snapR m x = some y) (hx : RV (Av O ρ m) ρ m w x v) : ∀ ρ' m', RV A ρ' m' w y v := by
  have hKA : ∀ x, KA K x := fun x => by
    unfold KA
    split
    · exact fun c _ => hK _ c
    · exact fun c _ => hK _ c
    · exact hK _ _
  have hf : ∀ x y v, (∀ c, K depth c) ∨ K depth x → snapA m x = some y → RV (Av O ρ m) ρ m w x v → ∀ ρ' m', RV A ρ' m' w y v := fun x y v _ h hx => snapA_sound hm hL (hKA x) h hx
  intro ρ' m'
  unfold snapR at h
  split at h
  · rename_i cs
    cases hq : mapO (snapA m) cs with
    | none => rw [hq] at h; cases h
    | some ys =>
      rw [hq] at h
      simp only [Option.map_some, Option.some.injEq] at h
      subst h
      cases hx with
      | tu _ vs hl hr =>
        obtain ⟨h1, h2⟩ := snapL_sound hf hl hr (.inl fun c => hK _ c) hq
        exact .tu ys vs h1 (h2 ρ' m')
  · exact snapA_sound hm hL (hKA x) h hx ρ' m'
end

/-- A memory with some blocks of another frozen. -/
structure FzStep (m m' : Mem) : Prop where
  n : m'.n = m.n
  b : ∀ (i : Nat) (x : Blk), m'.b[i]? = some x → m.b[i]? = some x ∨ ∃ cs g s kid, x = .row cs g .fz kid ∧ m.b[i]? = some (.row cs g s kid) ∧
      ∀ p, s = .kd p → ¬ ∃ cs g kid, m'.b[p]? = some (.row cs g .ow kid)
  row : ∀ h g, row? m' h g = row? m h g
  map : ∀ (h : Nat) (es : List (Value × AV)) (g : Nat), m.b[h]? = some (.map es g) → m'.b[h]? = some (.map es g)

theorem FzStep.refl (m : Mem) : FzStep m m := ⟨rfl, fun _ _ h => .inl h, fun _ _ => rfl, fun _ _ _ h => h⟩

theorem FzStep.ow {m m' : Mem} (h : FzStep m m') {i : Nat} {cs : List AV} {g : Nat} {kid : Option (Nat × Nat)} (hr : m'.b[i]? = some (.row cs g .ow kid)) : m.b[i]? = some (.row cs g .ow kid) := by
  rcases h.b i _ hr with h1 | ⟨_, _, _, _, h1, _⟩
  · exact h1
  · cases h1

theorem FzStep.trans {m m' m'' : Mem} (h : FzStep m m') (k : FzStep m' m'') : FzStep m m'' where
  n := k.n.trans h.n
  row := fun i g => (k.row i g).trans (h.row i g)
  map := fun i es g hr => k.map i es g (h.map i es g hr)
  b := fun i x hx => by
    rcases k.b i x hx with h1 | ⟨cs, g, s, kid, rfl, h1, h2⟩
    · rcases h.b i x h1 with h3 | ⟨cs, g, s, kid, rfl, h3, h4⟩
      · exact .inl h3
      · exact .inr ⟨cs, g, s, kid, rfl, h3, fun p hp ⟨cs', g', kid', hq⟩ => h4 p hp ⟨cs', g', kid', k.ow hq⟩⟩
    · rcases h.b i _ h1 with h3 | ⟨cs', g', s', kid', he, h3, h4⟩
      · exact .inr ⟨cs, g, s, kid, rfl, h3, h2⟩
      · simp only [Blk.row.injEq] at he
        obtain ⟨rfl, rfl, rfl, rfl⟩ := he
        exact .inr ⟨cs, g, s', kid, rfl, h3, fun p hp ⟨cs', g', kid', hq⟩ => h4 p hp ⟨cs', g', kid', k.ow hq⟩⟩

theorem set_get {b : List Blk} {h i : Nat} {x y : Blk} (hx : (b.set h y)[i]? = some x) : (i ≠ h ∧ b[i]? = some x) ∨ (i = h ∧ x = y) := by
  rw [List.getElem?_set] at hx
  split at hx
  · rename_i he
    split at hx
    · simp only [Option.some.injEq] at hx
      exact .inr ⟨he.symm, hx.symm⟩
    · cases hx
  · rename_i he; exact .inl ⟨fun e => he e.symm, hx⟩

theorem set_row {b : List Blk} {n h : Nat} {cs : List AV} {g : Nat} {s s' : Ow} {kid : Option (Nat × Nat)} (hb : b[h]? = some (.row cs g s kid)) (i g' : Nat) : row? ⟨b.set h (.row cs g s' kid), n⟩ i g' = row? ⟨b, n⟩ i g' := by
  unfold row?
  simp only
  by_cases he : h = i
  · subst he
    have hlt : h < b.length := by
      by_cases hh : h < b.length
      · exact hh
      · rw [List.getElem?_eq_none (by omega)] at hb; cases hb
    rw [List.getElem?_set_self hlt, hb]
  · rw [List.getElem?_set_ne he]

theorem fz_set {m : Mem} {h : Nat} {cs : List AV} {g : Nat} {s : Ow} {kid : Option (Nat × Nat)} (hb : m.b[h]? = some (.row cs g s kid)) (hs : ∀ p, s ≠ .kd p) : FzStep m ⟨m.b.set h (.row cs g .fz kid), m.n⟩ :=
  ⟨rfl, fun i x hx => by
    rcases set_get hx with ⟨_, h1⟩ | ⟨rfl, rfl⟩
    · exact .inl h1
    · exact .inr ⟨cs, g, s, kid, rfl, hb, fun p hp => absurd hp (hs p)⟩, fun i g' => set_row hb i g', fun i es g1 hr => by
    show (m.b.set h _)[i]? = _
    rw [List.getElem?_set_ne (fun e => by subst e; rw [hb] at hr; cases hr)]; exact hr⟩

theorem fz_O (m : Mem) (p : Nat) : FzStep m ⟨frzO m.b p, m.n⟩ ∧ ∀ cs g kid, (frzO m.b p)[p]? ≠ some (.row cs g .ow kid) := by
  unfold frzO
  split
  · rename_i cs g kid hb
    refine ⟨fz_set hb (fun p => by simp), fun cs' g' kid' hx => ?_⟩
    rcases set_get hx with ⟨hne, _⟩ | ⟨_, he⟩
    · exact hne rfl
    · cases he
  · rename_i hn
    exact ⟨.refl m, fun cs g kid hx => hn cs g kid hx⟩

theorem fz_one {m : Mem} {h g : Nat} {cs : List AV} {s : Ow} {kid : Option (Nat × Nat)} (hb : m.b[h]? = some (.row cs g s kid)) :
    FzStep m ⟨frz1 m.b h, m.n⟩ ∧ (frz1 m.b h)[h]? = some (.row cs g .fz kid) := by
  have hlt : h < m.b.length := by
    by_cases hh : h < m.b.length
    · exact hh
    · rw [List.getElem?_eq_none (by omega)] at hb; cases hb
  unfold frz1
  rw [hb]
  cases s with
  | fz => exact ⟨.refl m, hb⟩
  | ow => exact ⟨fz_set hb (fun p => by simp), by simp [hlt]⟩
  | kd p =>
    obtain ⟨h1, h2⟩ := fz_O ⟨m.b.set h (.row cs g .fz kid), m.n⟩ p
    simp only at h1 h2 ⊢
    refine ⟨⟨rfl, fun i x hx => ?_, fun i g' => (h1.row i g').trans (set_row hb i g'), fun i es g1 hr => h1.map i es g1 (by
      show (m.b.set h _)[i]? = _
      rw [List.getElem?_set_ne (fun e => by subst e; rw [hb] at hr; cases hr)]; exact hr)⟩, ?_⟩
    · rcases h1.b i x hx with h3 | ⟨cs1, g1, s1, kid1, rfl, h3, h4⟩
      · rcases set_get h3 with ⟨_, h5⟩ | ⟨rfl, rfl⟩
        · exact .inl h5
        · refine .inr ⟨cs, g, .kd p, kid, rfl, hb, fun q hq => ?_⟩
          simp only [Ow.kd.injEq] at hq
          subst hq
          rintro ⟨cs', g', kid', h6⟩
          exact h2 _ _ _ h6
      · rcases set_get h3 with ⟨_, h5⟩ | ⟨rfl, he⟩
        · exact .inr ⟨cs1, g1, s1, kid1, rfl, h5, h4⟩
        · simp only [Blk.row.injEq] at he
          obtain ⟨rfl, rfl, rfl, rfl⟩ := he
          refine .inr ⟨cs1, g1, .kd p, kid1, rfl, hb, fun q hq => ?_⟩
          simp only [Ow.kd.injEq] at hq
          subst hq
          rintro ⟨cs', g', kid', h6⟩
          exact h2 _ _ _ h6
    · unfold frzO
      split
      · rename_i cs1 g1 kid1 h5
        by_cases hp : p = h
        · subst hp; rw [List.getElem?_set_self hlt] at h5; cases h5
        · rw [List.getElem?_set_ne hp, List.getElem?_set_self hlt]
      · rw [List.getElem?_set_self hlt]

/-- All that a value reaches is frozen. -/
def FzR (m : Mem) : Nat → AV → Prop
  | 0, _ => True
  | n + 1, x => match x with
    | .own h g _ _ _ _ => ∀ cs s kid, m.b[h]? = some (.row cs g s kid) → s = .fz ∧ ∀ c ∈ cs, FzR m n c
    | _ => True

theorem FzR.step {m m' : Mem} (hs : FzStep m m') : ∀ (n : Nat) (x : AV), FzR m n x → FzR m' n x
  | 0, _, _ => trivial
  | n + 1, x, h => by
    cases x with
    | own h' g off len e cap =>
      simp only [FzR] at h ⊢
      intro cs s kid hr
      rcases hs.b h' _ hr with h1 | ⟨cs1, g1, s1, kid1, he, h1, _⟩
      · obtain ⟨h2, h3⟩ := h cs s kid h1
        exact ⟨h2, fun c hc => FzR.step hs n c (h3 c hc)⟩
      · simp only [Blk.row.injEq] at he
        obtain ⟨rfl, rfl, rfl, rfl⟩ := he
        exact ⟨rfl, fun c hc => FzR.step hs n c ((h cs s1 kid h1).2 c hc)⟩
    | _ => trivial

theorem fold_fz {f : Mem → AV → Mem} {K : Mem → AV → Prop} (hf : ∀ m x, FzStep m (f m x) ∧ K (f m x) x) (hK : ∀ m m' x, FzStep m m' → K m x → K m' x) : ∀ (l : List AV) (m : Mem), FzStep m (l.foldl f m) ∧ ∀ c ∈ l, K (l.foldl f m) c
  | [], m => ⟨.refl m, fun c hc => absurd hc (by simp)⟩
  | x :: l, m => by
    obtain ⟨h1, h2⟩ := fold_fz hf hK l (f m x)
    obtain ⟨h3, h4⟩ := hf m x
    refine ⟨h3.trans h1, fun c hc => ?_⟩
    rcases List.mem_cons.mp hc with rfl | hc
    · exact hK _ _ _ h1 h4
    · exact h2 c hc

theorem frz_step : ∀ (n : Nat) (m : Mem) (x : AV), FzStep m (frz n m x) ∧ FzR (frz n m x) n x
  | 0, m, x => ⟨.refl m, trivial⟩
  | n + 1, m, x => by
    unfold frz
    split
    · rename_i h g off len e cap
      split
      · rename_i cs g' s kid hb
        split
        · rename_i hg
          subst hg
          obtain ⟨h1, h2⟩ := fz_one hb
          obtain ⟨h3, h4⟩ := fold_fz (f := frz n) (K := fun m x => FzR m n x) (frz_step n) (fun m m' x hs hk => FzR.step hs n x hk) cs ⟨frz1 m.b h, m.n⟩
          refine ⟨h1.trans h3, ?_⟩
          simp only [FzR]
          intro cs' s' kid' hr
          rcases h3.b h _ hr with h5 | ⟨cs1, g1, s1, kid1, he, h5, _⟩
          · simp only at h5
            rw [h2] at h5
            simp only [Option.some.injEq, Blk.row.injEq] at h5
            obtain ⟨rfl, _, rfl, _⟩ := h5
            exact ⟨rfl, h4⟩
          · simp only at h5
            rw [h2] at h5
            simp only [Option.some.injEq, Blk.row.injEq] at h5 he
            obtain ⟨rfl, _, rfl, _⟩ := h5
            obtain ⟨rfl, _, rfl, _⟩ := he
            exact ⟨rfl, h4⟩
        · rename_i hg
          refine ⟨.refl m, ?_⟩
          simp only [FzR]
          intro cs' s' kid' hr
          rw [hb] at hr
          simp only [Option.some.injEq, Blk.row.injEq] at hr
          exact absurd hr.2.1 hg
      · rename_i hn
        refine ⟨.refl m, ?_⟩
        simp only [FzR]
        intro cs' s' kid' hr
        exact absurd hr (hn _ _ _ _)
    · rename_i hn
      refine ⟨.refl m, ?_⟩
      cases x <;> first | trivial | exact absurd rfl (hn _ _ _ _ _ _)

theorem frzA_step (m : Mem) (x : AV) : FzStep m (frzA m x) ∧ KA (FzR (frzA m x)) x := by
  have hfold := fun cs => fold_fz (f := frz depth) (K := fun m x => FzR m depth x) (frz_step depth) (fun m m' x hs hk => FzR.step hs depth x hk) cs m
  unfold frzA
  split
  · exact hfold _
  · exact hfold _
  · rename_i hn1 hn2
    obtain ⟨h1, h2⟩ := frz_step depth m x
    refine ⟨h1, ?_⟩
    unfold KA
    split
    · exact absurd rfl (hn1 _)
    · exact absurd rfl (hn2 _ _)
    · exact h2

theorem KA.step {m m' : Mem} (hs : FzStep m m') {x : AV} (h : KA (FzR m) x) : KA (FzR m') x := by
  unfold KA at h ⊢
  split <;> rename_i hh <;> simp only at h
  · exact fun c hc => FzR.step hs _ c (h c hc)
  · exact fun c hc => FzR.step hs _ c (h c hc)
  · exact FzR.step hs _ x h

theorem frzL_step (l : List AV) (m : Mem) : FzStep m (l.foldl frzA m) ∧ ∀ c ∈ l, KA (FzR (l.foldl frzA m)) c :=
  fold_fz (f := frzA) (K := fun m x => KA (FzR m) x) frzA_step (fun _ _ _ hs hk => KA.step hs hk) l m

section
variable {O : Nat → Prop} {ρ : Nat → Nat × Nat} {m m' : Mem} {w : World}

theorem FzStep.inv (hs : FzStep m m') (hm : MemInv O ρ m w) : MemInv O ρ m' w ∧ Later ρ m w ρ m' w := frozen hm hs.n hs.b

theorem row_eq_snap (hr : ∀ h g, row? m' h g = row? m h g) : ∀ (n : Nat) (x : AV), snapD m' n x = snapD m n x
  | 0, x => rfl
  | n + 1, x => by
    have ih := fun x => row_eq_snap hr n x
    have : snapD m' n = snapD m n := funext ih
    cases x <;> simp only [snapD, hr, this]

theorem snapA_eq (hr : ∀ h g, row? m' h g = row? m h g) (x : AV) : snapA m' x = snapA m x := by
  have h1 : ∀ n, snapD m' n = snapD m n := fun n => funext (row_eq_snap hr n)
  have h2 : snapC m' = snapC m := by
    funext x
    unfold snapC
    simp only [h1]
  unfold snapA
  simp only [h2]

/-- A copy of what is frozen lies outside of what may be written. -/
theorem looks_fz (hm : MemInv O ρ m w) : Looks (Av O ρ m) O ρ m (FzR m) where
  sub := fun _ h => h
  row := fun n h g off len e cap hK cs s kid hr => by
    simp only [FzR] at hK
    have hg : ∃ g', m.b[h]? = some (.row cs g' s kid) := ⟨_, hr⟩
    obtain ⟨rfl, hc⟩ := hK cs s kid hr
    obtain ⟨_, h2, _⟩ := hm.row h cs g .fz kid hr
    exact ⟨fun ha => ha.elim h2 (hm.fz h cs g kid hr), fun c hcc => hc c (List.mem_of_mem_drop (List.mem_of_mem_take hcc))⟩

/-- A copy of anything lies outside of what others may write. -/
theorem looks_all (hm : MemInv O ρ m w) : Looks O O ρ m (fun _ _ => True) where
  sub := fun _ h => .inl h
  row := fun n h g off len e cap _ cs s kid hr => ⟨(hm.row h cs g s kid hr).2.1, fun _ _ => trivial⟩
end

end Go.Am

namespace Go.Am

/-- No block of the machine's lies there. -/
def Far (ρ : Nat → Nat × Nat) (m : Mem) (b : Nat) : Prop :=
  (∀ h cs g s kid, m.b[h]? = some (.row cs g s kid) → (ρ h).1 ≠ b) ∧ ∀ h es g, m.b[h]? = some (.map es g) → (ρ h).1 ≠ b

theorem Far.own {ρ : Nat → Nat × Nat} {m : Mem} {b : Nat} (h : Far ρ m b) : ¬ OwnB ρ m b := by
  rintro ⟨i, ⟨cs, g, kid, hr⟩ | ⟨es, g, hr⟩, rfl⟩
  · exact h.1 i cs g .ow kid hr rfl
  · exact h.2 i es g hr rfl

theorem MemInv.far {O : Nat → Prop} {ρ : Nat → Nat × Nat} {m : Mem} {w : World} (hm : MemInv O ρ m w) {b : Nat} (hb : w.heap.size ≤ b) : Far ρ m b :=
  ⟨fun _ _ _ _ _ hr => by have := hm.lt_row hr; omega, fun _ es g hr => by have := hm.lt_mut (.inr ⟨es, g, hr⟩); omega⟩

theorem Far.step {ρ : Nat → Nat × Nat} {m m' : Mem} {b : Nat} (hs : FzStep m m') (h : Far ρ m b) : Far ρ m' b := by
  refine ⟨fun i cs g s kid hr => ?_, fun i es g hr => ?_⟩
  · rcases hs.b i _ hr with h1 | ⟨cs', g', s', kid', h0, h1, _⟩
    · exact h.1 i cs g s kid h1
    · exact h.1 i cs' g' s' kid' h1
  · rcases hs.b i _ hr with h1 | ⟨_, _, _, _, h0, _⟩
    · exact h.2 i es g h1
    · cases h0

theorem Far.push {ρ : Nat → Nat × Nat} {m : Mem} {b : Nat} {p : Nat × Nat} {cs : List AV} (h : Far ρ m b) (hp : p.1 ≠ b) : Far (upd ρ m.b.length p) (m.push cs) b := by
  have hget : ∀ {i : Nat} {x : Blk}, (m.push cs).b[i]? = some x → (m.b[i]? = some x ∧ i ≠ m.b.length) ∨ i = m.b.length := by
    intro i x h
    simp only [Mem.push, List.getElem?_append] at h
    split at h
    · exact .inl ⟨h, by omega⟩
    · right
      by_cases h0 : i - m.b.length = 0
      · omega
      · rw [List.getElem?_eq_none (by simp; omega)] at h; cases h
  refine ⟨fun i cs g s kid hr => ?_, fun i es g hr => ?_⟩
  · rcases hget hr with ⟨hr, hi⟩ | rfl
    · rw [upd_other _ _ hi]; exact h.1 i cs g s kid hr
    · rw [upd_same]; exact hp
  · rcases hget hr with ⟨hr, hi⟩ | rfl
    · rw [upd_other _ _ hi]; exact h.2 i es g hr
    · rw [upd_same]; exact hp

/-- One more block to keep out of. -/
def With (O : Nat → Prop) (b : Nat) : Nat → Prop := fun x => O x ∨ x = b

theorem push_get {m : Mem} {cs : List AV} {i : Nat} {x : Blk} (h : (m.push cs).b[i]? = some x) : (m.b[i]? = some x ∧ i ≠ m.b.length) ∨ (i = m.b.length ∧ x = .row cs m.n .ow none) := by
  simp only [Mem.push, List.getElem?_append] at h
  split at h
  · exact .inl ⟨h, by omega⟩
  · right
    have : i - m.b.length = 0 := by
      by_cases h0 : i - m.b.length = 0
      · exact h0
      · rw [List.getElem?_eq_none (by simp; omega)] at h; cases h
    rw [this] at h
    simp only [List.getElem?_cons_zero, Option.some.injEq] at h
    exact ⟨by omega, h.symm⟩

theorem push_mut {m : Mem} {cs : List AV} {i : Nat} (h : Mut (m.push cs) i) : (Mut m i ∧ i ≠ m.b.length) ∨ i = m.b.length := by
  rcases h with ⟨cs', g, kid, h⟩ | ⟨es, g, h⟩
  · rcases push_get h with ⟨h, hi⟩ | ⟨hi, _⟩
    · exact .inl ⟨.inl ⟨cs', g, kid, h⟩, hi⟩
    · exact .inr hi
  · rcases push_get h with ⟨h, hi⟩ | ⟨_, hi⟩
    · exact .inl ⟨.inr ⟨es, g, h⟩, hi⟩
    · cases hi

theorem push_ownB {ρ : Nat → Nat × Nat} {m : Mem} {cs : List AV} {p : Nat × Nat} (b : Nat) (h : OwnB (upd ρ m.b.length p) (m.push cs) b) : OwnB ρ m b ∨ b = p.1 := by
  obtain ⟨i, hi, rfl⟩ := h
  rcases push_mut hi with ⟨hi, hne⟩ | rfl
  · rw [upd_other _ _ hne]; exact .inl ⟨i, hi, rfl⟩
  · rw [upd_same]; exact .inr rfl

theorem RV.adopt {O : Nat → Prop} {ρ : Nat → Nat × Nat} {m : Mem} {w : World} {p : Nat × Nat} {cs : List AV} {x : AV} {v : Value} (h : RV (Av (With O p.1) ρ m) ρ m w x v) :
    RV (Av O (upd ρ m.b.length p) (m.push cs)) (upd ρ m.b.length p) (m.push cs) w x v := by
  have hA : ∀ b, Av O (upd ρ m.b.length p) (m.push cs) b → Av (With O p.1) ρ m b := by
    rintro b (hb | hb)
    · exact .inl (.inl hb)
    · rcases push_ownB b hb with hb | hb
      · exact .inr hb
      · exact .inl (.inr hb)
  have hn : m.n ≤ (m.push cs).n := Nat.le_succ _
  have hold : ∀ {i : Nat} {cs' : List AV} {g : Nat} {s : Ow} {kid : Option (Nat × Nat)}, g < m.n → (m.push cs).b[i]? = some (.row cs' g s kid) → m.b[i]? = some (.row cs' g s kid) ∧ i ≠ m.b.length := by
    intro i cs' g s kid hg hr
    rcases push_get hr with hr | ⟨_, hx⟩
    · exact hr
    · simp only [Blk.row.injEq] at hx; omega
  induction h with
  | d x v hd => exact .d x v (hd.mono (fun _ _ _ => rfl) (fun b _ h => hA b h) (Nat.le_refl _))
  | rp cells b o us hc hr hb hs => exact .rp cells b o us hc (fun i hi => (hr i hi).mono (fun _ _ _ => rfl) (fun b _ h => hA b h) (Nat.le_refl _)) (fun h => hb (hA b h)) hs
  | own i g off len e cap a n c hg hv =>
    refine .own i g off len e cap a n c (by omega) fun cs' s kid hr => ?_
    obtain ⟨hr, hi⟩ := hold hg hr
    rw [upd_other _ _ hi]
    exact hv cs' s kid hr
  | ptr i g off a hg hv =>
    refine .ptr i g off a (by omega) fun cs' s kid hr => ?_
    obtain ⟨hr, hi⟩ := hold hg hr
    rw [upd_other _ _ hi]
    exact hv cs' s kid hr
  | fn f caps vs hl hr ih => exact .fn f caps vs hl ih
  | ag cs vs hl hr ih => exact .ag cs vs hl ih
  | tu cs vs hl hr ih => exact .tu cs vs hl ih
  | mp i g r hg hv =>
    refine .mp i g r (by omega) fun es hr => ?_
    rcases push_get hr with ⟨hr, hi⟩ | ⟨_, hx⟩
    · rw [upd_other _ _ hi]; exact hv es hr
    · cases hx

/-- A block of the model's that nobody knows of becomes one of the machine's. -/
theorem MemInv.adopt {O : Nat → Prop} {ρ : Nat → Nat × Nat} {m : Mem} {w : World} {p : Nat × Nat} (hm : MemInv (With O p.1) ρ m w) (cs : List AV) (c : Array Value) (E : TypeId)
    (hO : ¬ O p.1) (hf : Far ρ m p.1) (hk : w.heap[p.1]? = some (.cells c E (0, 0)))
    (hc : ∀ j (hj : j < cs.length), ∃ u, c[p.2 + j]? = some u ∧ RV (Av (With O p.1) ρ m) ρ m w (cs[j]'hj) u) :
    MemInv O (upd ρ m.b.length p) (m.push cs) w where
  row := fun h cs' g s kid hr => by
    rcases push_get hr with ⟨hr, hi⟩ | ⟨rfl, hx⟩
    · obtain ⟨h1, h2, c', E', h3, h4⟩ := hm.row h cs' g s kid hr
      rw [upd_other _ _ hi]
      refine ⟨Nat.lt_succ_of_lt h1, fun ho => h2 (.inl ho), c', E', h3, fun j hj => ?_⟩
      obtain ⟨u, hu, hv⟩ := h4 j hj
      exact ⟨u, hu, hv.adopt⟩
    · simp only [Blk.row.injEq] at hx
      obtain ⟨rfl, rfl, rfl, rfl⟩ := hx
      rw [upd_same]
      refine ⟨Nat.lt_succ_self _, hO, c, E, hk, fun j hj => ?_⟩
      obtain ⟨u, hu, hv⟩ := hc j hj
      exact ⟨u, hu, hv.adopt⟩
  map := fun h es g hr => by
    rcases push_get hr with ⟨hr, hi⟩ | ⟨_, hx⟩
    · obtain ⟨h1, h2, c', k, h3, h4, h5⟩ := hm.map h es g hr
      rw [upd_other _ _ hi]
      refine ⟨Nat.lt_succ_of_lt h1, fun ho => h2 (.inl ho), c', k, h3, h4, fun j hj => ?_⟩
      obtain ⟨u, hu, hk, hv⟩ := h5 j hj
      exact ⟨u, hu, hk, hv.adopt⟩
    · cases hx
  dis := fun i j hi hj he => by
    rcases push_mut hi with ⟨hi, hni⟩ | rfl <;> rcases push_mut hj with ⟨hj, hnj⟩ | rfl
    · rw [upd_other _ _ hni, upd_other _ _ hnj] at he; exact hm.dis i j hi hj he
    · rw [upd_other _ _ hni, upd_same] at he; exact absurd ⟨i, hi, he⟩ hf.own
    · rw [upd_other _ _ hnj, upd_same] at he; exact absurd ⟨j, hj, he.symm⟩ hf.own
    · rfl
  fz := fun h cs' g kid hr ho => by
    rcases push_get hr with ⟨hr, hi⟩ | ⟨_, hx⟩
    · rw [upd_other _ _ hi] at ho
      rcases push_ownB _ ho with ho | ho
      · exact hm.fz h cs' g kid hr ho
      · exact hf.1 h cs' g _ kid hr ho
    · cases hx
  kd := fun k cs' g p' kid hr h hmt he => by
    rcases push_get hr with ⟨hr, hi⟩ | ⟨_, hx⟩
    · rw [upd_other _ _ hi] at he
      rcases push_mut hmt with ⟨hmt, hh⟩ | rfl
      · rw [upd_other _ _ hh] at he
        obtain ⟨h1, cs2, g2, h2⟩ := hm.kd k cs' g p' kid hr h hmt he
        refine ⟨h1, cs2, g2, ?_⟩
        simp only [Mem.push]
        rw [List.getElem?_append_left (by
          by_cases hlt : h < m.b.length
          · exact hlt
          · rw [List.getElem?_eq_none (by omega)] at h2; cases h2)]
        exact h2
      · rw [upd_same] at he; exact absurd he.symm (hf.1 k cs' g _ kid hr)
    · cases hx
  ex := fun b hb => hm.ex b (.inl hb)

theorem Later.adopt {ρ0 ρ : Nat → Nat × Nat} {m0 m : Mem} {w0 w : World} (h : Later ρ0 m0 w0 ρ m w) {p : Nat × Nat} (hp : w0.heap.size ≤ p.1) (cs : List AV) : Later ρ0 m0 w0 (upd ρ m.b.length p) (m.push cs) w where
  os := h.os
  tape := h.tape
  output := h.output
  size := h.size
  keep := h.keep
  own := fun b hb => by
    rcases push_ownB b hb with hb | rfl
    · exact h.own b hb
    · exact .inr hp
  n := Nat.le_succ_of_le h.n
  row := fun i cs' g s kid hr hg => by
    rcases push_get hr with ⟨hr, hi⟩ | ⟨_, hx⟩
    · rw [upd_other _ _ hi]; exact h.row i cs' g s kid hr hg
    · simp only [Blk.row.injEq] at hx; have := h.n; omega
  map := fun i es g hr hg => by
    rcases push_get hr with ⟨hr, hi⟩ | ⟨_, hx⟩
    · rw [upd_other _ _ hi]; exact h.map i es g hr hg
    · cases hx

/-- A world with more in it. -/
def Grows (w w' : World) : Prop := w'.os = w.os ∧ w'.tape = w.tape ∧ w'.output = w.output ∧ w.heap.size ≤ w'.heap.size ∧ ∀ b, b < w.heap.size → w'.heap[b]? = w.heap[b]?

theorem Grows.refl (w : World) : Grows w w := ⟨rfl, rfl, rfl, Nat.le_refl _, fun _ _ => rfl⟩

theorem Grows.trans {w w' w'' : World} (h : Grows w w') (k : Grows w' w'') : Grows w w'' :=
  ⟨k.1.trans h.1, k.2.1.trans h.2.1, k.2.2.1.trans h.2.2.1, Nat.le_trans h.2.2.2.1 k.2.2.2.1, fun b hb => (k.2.2.2.2 b (Nat.lt_of_lt_of_le hb h.2.2.2.1)).trans (h.2.2.2.2 b hb)⟩

theorem Grows.inv {O : Nat → Prop} {ρ : Nat → Nat × Nat} {m : Mem} {w w' : World} (h : Grows w w') (hm : MemInv O ρ m w) : MemInv O ρ m w' ∧ Later ρ m w ρ m w' := hm.grown h.1 h.2.1 h.2.2.1 h.2.2.2.1 h.2.2.2.2

/-- New blocks may be kept out of. -/
theorem widen {O O' : Nat → Prop} {ρ : Nat → Nat × Nat} {m : Mem} {w w' : World} (hm : MemInv O ρ m w) (h : Grows w w') (hnew : ∀ b, O' b → O b ∨ w.heap.size ≤ b) (hlt : ∀ b, O' b → b < w'.heap.size) :
    MemInv O' ρ m w' ∧ ∀ x v, RV (Av O ρ m) ρ m w x v → RV (Av O' ρ m) ρ m w' x v := by
  have hl := (h.inv hm).2
  have key : ∀ x v, RV (Av O ρ m) ρ m w x v → RV (Av O' ρ m) ρ m w' x v := by
    intro x v hr
    have hsub : ∀ b, b < w.heap.size → Av O' ρ m b → Av O ρ m b := by
      rintro b hb (h1 | h1)
      · rcases hnew b h1 with h2 | h2
        · exact .inl h2
        · omega
      · exact .inr h1
    have hk : ∀ b, b < w.heap.size → ¬ Av O ρ m b → w'.heap[b]? = w.heap[b]? := fun b hb _ => h.2.2.2.2 b hb
    induction hr with
    | d x v hd => exact .d x v (hd.mono hk hsub h.2.2.2.1)
    | rp cells b o us hc hr hb hs =>
      refine .rp cells b o us (fun i hi => ?_) (fun i hi => (hr i hi).mono hk hsub h.2.2.2.1) (fun ha => hb (hsub b hs ha)) (Nat.lt_of_lt_of_le hs h.2.2.2.1)
      rw [← hc i hi]
      exact World.cell?_of_block (w := w) (h.2.2.2.2 b hs)
    | own i g off len e cap a n c hg hv =>
      refine .own i g off len e cap a n c hg fun cs s kid hrow => ?_
      refine OwnOk.later hl hrow hg fun cs1 s1 kid1 h1 => ⟨?_, hv cs1 s1 kid1 h1⟩
      obtain ⟨_, _, c, E, hc, _⟩ := hm.row i cs1 g s1 kid1 h1
      exact ⟨c, E, _, hc⟩
    | ptr i g off a hg hv => exact .ptr i g off a hg hv
    | fn f caps vs hl hr ih => exact .fn f caps vs hl ih
    | ag cs vs hl hr ih => exact .ag cs vs hl ih
    | tu cs vs hl hr ih => exact .tu cs vs hl ih
    | mp i g r hg hv => exact .mp i g r hg hv
  have hno : ∀ b, b < w.heap.size → ¬ O b → ¬ O' b := fun b hb h1 h2 => by
    rcases hnew b h2 with h3 | h3
    · exact h1 h3
    · omega
  refine ⟨?_, key⟩
  exact
    { row := fun h0 cs g s kid hr => by
        obtain ⟨h1, h2, c, E, h3, h4⟩ := hm.row h0 cs g s kid hr
        have hlt0 := hm.lt_row hr
        refine ⟨h1, hno _ hlt0 h2, c, E, by rw [h.2.2.2.2 _ hlt0]; exact h3, fun j hj => ?_⟩
        obtain ⟨u, hu, hv⟩ := h4 j hj
        exact ⟨u, hu, key _ _ hv⟩
      map := fun h0 es g hr => by
        obtain ⟨h1, h2, c, k, h3, h4, h5⟩ := hm.map h0 es g hr
        have hlt0 := hm.lt_mut (.inr ⟨es, g, hr⟩)
        refine ⟨h1, hno _ hlt0 h2, c, k, by rw [h.2.2.2.2 _ hlt0]; exact h3, h4, fun j hj => ?_⟩
        obtain ⟨u, hu, hk, hv⟩ := h5 j hj
        exact ⟨u, hu, hk, key _ _ hv⟩
      dis := hm.dis
      fz := hm.fz
      kd := hm.kd
      ex := hlt }

end Go.Am

namespace Go.Am

/-- What a function's call ends in. -/
def Post (O : Nat → Prop) (ρ : Nat → Nat × Nat) (m : Mem) (w : World) (r : AV) (m' : Mem) : Ending → World → Prop :=
  fun e w' => ∃ v ρ', e = .returned v ∧ RV (Av O ρ' m') ρ' m' w' r v ∧ MemInv O ρ' m' w' ∧ Later ρ m w ρ' m' w'

def ArgsRV (A : Nat → Prop) (ρ : Nat → Nat × Nat) (m : Mem) (w : World) (av : List AV) (vs : List Value) : Prop :=
  vs.length = av.length ∧ ∀ i (h : i < av.length), RV A ρ m w (av[i]'h) (vs.getD i undef)

/-- A way to run functions that tells true. -/
def CFok (P : Program) (cf : CF) : Prop :=
  ∀ g av m r m', cf g av m = some (r, m') → ∀ O ρ w vs, MemInv O ρ m w → ArgsRV (Av O ρ m) ρ m w av vs → Calls P g vs.toArray w (Post O ρ m w r m')

section
variable {P : Program} {O : Nat → Prop} {ρ : Nat → Nat × Nat} {m m' : Mem} {w : World}

theorem own_fz1 {x : AV} (h : own1 x = false) : ∀ n, FzR m n x
  | 0 => trivial
  | n + 1 => by cases x <;> first | trivial | simp [own1] at h

theorem owns_fz {x : AV} (h : owns x = false) : KA (FzR m) x := by
  cases x <;> simp only [KA] <;> first
    | exact own_fz1 (by simpa [owns] using h) depth
    | (intro c hc
       refine own_fz1 ?_ depth
       simp only [owns, List.any_eq_false] at h
       have := h c hc
       simpa using this)

theorem noCell1_rv {A A' : Nat → Prop} {ρ' : Nat → Nat × Nat} {x : AV} {v : Value} (h : RV A ρ m w x v) (hc : noCell1 x = true) : RV A' ρ' m' w x v := by
  cases h with
  | d y v hd =>
    cases hd with
    | v => exact .d _ _ (.v _)
    | emp t a cap h0 => exact .d _ _ (.emp t a cap h0)
    | sl t len cells b o cap us a1 a2 a3 a4 a5 a6 =>
      match len, cells, hc with
      | 0, [], _ => exact .d _ _ (.emp t _ cap a6)
  | fn f caps vs hl hr =>
    match caps, hc with
    | [], _ => exact .fn f [] vs hl fun i hi => absurd hi (by simp)
  | _ => simp [noCell1] at hc

theorem noCellA_rv {A A' : Nat → Prop} {ρ' : Nat → Nat × Nat} {x : AV} {v : Value} (h : RV A ρ m w x v) (hc : noCellA x = true) : RV A' ρ' m' w x v := by
  cases h with
  | ag cs vs hl hr =>
    simp only [noCellA, List.all_eq_true] at hc
    exact .ag cs vs hl fun i hi => noCell1_rv (hr i hi) (hc _ (List.getElem_mem hi))
  | d y v hd => exact noCell1_rv (ρ := ρ) (m := m) (.d y v hd) (by simpa [noCellA] using hc)
  | fn f caps vs hl hr => exact noCell1_rv (.fn f caps vs hl hr) (by simpa [noCellA] using hc)
  | _ => simp [noCellA, noCell1] at hc

theorem noCells_rv {A A' : Nat → Prop} {ρ' : Nat → Nat × Nat} {x : AV} {v : Value} (h : RV A ρ m w x v) (hc : noCells x = true) : RV A' ρ' m' w x v := by
  cases h with
  | tu cs vs hl hr =>
    simp only [noCells, List.all_eq_true] at hc
    exact .tu cs vs hl fun i hi => noCellA_rv (hr i hi) (hc _ (List.getElem_mem hi))
  | ag cs vs hl hr => exact noCellA_rv (.ag cs vs hl hr) (by simpa [noCells] using hc)
  | d y v hd => exact noCellA_rv (ρ := ρ) (m := m) (.d y v hd) (by simpa [noCells] using hc)
  | fn f caps vs hl hr => exact noCellA_rv (.fn f caps vs hl hr) (by simpa [noCells] using hc)
  | _ => simp [noCells, noCellA, noCell1] at hc

theorem Post.mono_later {ρ1 : Nat → Nat × Nat} {m1 : Mem} (hl : Later ρ m w ρ1 m1 w) {r : AV} {m' : Mem} {e : Ending} {w' : World} (h : Post O ρ1 m1 w r m' e w') : Post O ρ m w r m' e w' := by
  obtain ⟨v, ρ', h1, h2, h3, h4⟩ := h
  exact ⟨v, ρ', h1, h2, h3, hl.trans h4⟩

/-- The core of a call by value, behind the freezing. -/
theorem pure_core_of {K : Nat → AV → Prop} {cf : CF} (hcf : CFok P cf) (hm : MemInv O ρ m w) (hL : Looks (Av O ρ m) O ρ m K) {g : FuncId} {av bs : List AV} {vs : List Value} (hv : ArgsRV (Av O ρ m) ρ m w av vs) (hK : ∀ c ∈ av, KA K c) (hbs : mapO (snapA m) av = some bs)
    {r0 r : AV} {mc : Mem} (hc : cf g bs ⟨[], 0⟩ = some (r0, mc)) (hr : snapR mc r0 = some r) : Calls P g vs.toArray w fun e w' => ∃ v, e = .returned v ∧ RV (Av O ρ m) ρ m w' r v ∧ Grows w w' := by
  obtain ⟨h1, h2⟩ := mapO_get hbs
  have hinv : MemInv (Av O ρ m) ρ ⟨[], 0⟩ w :=
    { row := fun h cs g s kid hr => by simp at hr, map := fun h es g hr => by simp at hr
      dis := fun h h' a _ _ => by rcases a with ⟨_, _, _, a⟩ | ⟨_, _, a⟩ <;> simp at a
      fz := fun h cs g kid hr => by simp at hr, kd := fun k cs g p kid hr => by simp at hr, ex := fun b hb => hm.av_lt hb }
  have hargs : ArgsRV (Av (Av O ρ m) ρ ⟨[], 0⟩) ρ ⟨[], 0⟩ w bs vs := by
    refine ⟨by rw [hv.1, h1], fun i hi => ?_⟩
    have hi' : i < av.length := by omega
    have := snapA_sound hm hL (hK _ (List.getElem_mem hi')) (h2 i hi' hi) (hv.2 i hi') ρ ⟨[], 0⟩
    refine this.weak fun b hb => ?_
    rcases hb with hb | ⟨h, hmut, _⟩
    · exact hb
    · rcases hmut with ⟨_, _, _, a⟩ | ⟨_, _, a⟩ <;> simp at a
  refine (hcf g bs _ r0 mc hc _ ρ w vs hinv hargs).mono fun e w' hp => ?_
  obtain ⟨v, ρ', he, hrv, hmc, hl⟩ := hp
  exact ⟨v, he, snapR_sound hmc (looks_all hmc) (fun _ _ => trivial) hr hrv ρ m, hl.os, hl.tape, hl.output, hl.size, fun b hb => hl.keep b hb fun ⟨h, hmut, _⟩ => by
    rcases hmut with ⟨_, _, _, a⟩ | ⟨_, _, a⟩ <;> simp at a⟩

theorem pure_core {cf : CF} (hcf : CFok P cf) (hm : MemInv O ρ m w) {g : FuncId} {av bs : List AV} {vs : List Value} (hv : ArgsRV (Av O ρ m) ρ m w av vs) (hK : ∀ c ∈ av, KA (FzR m) c) (hbs : mapO (snapA m) av = some bs)
    {r0 r : AV} {mc : Mem} (hc : cf g bs ⟨[], 0⟩ = some (r0, mc)) (hr : snapR mc r0 = some r) : Calls P g vs.toArray w fun e w' => ∃ v, e = .returned v ∧ RV (Av O ρ m) ρ m w' r v ∧ Grows w w' :=
  pure_core_of hcf hm (looks_fz hm) hv hK hbs hc hr

theorem pureCall_sound {cf : CF} (hcf : CFok P cf) (hm : MemInv O ρ m w) {may : Bool} {g : FuncId} {av : List AV} {vs : List Value} (hv : ArgsRV (Av O ρ m) ρ m w av vs) {r : AV} {m' : Mem}
    (h : pureCall cf may g av m = some (r, m')) : Calls P g vs.toArray w (Post O ρ m w r m') := by
  unfold pureCall at h
  split at h
  · cases h
  · rename_i bs hbs
    split at h
    · cases h
    · rename_i r0 mc hc
      split at h
      · cases h
      · rename_i r1 hr
        cases hown : av.any owns with
        | false =>
          rw [hown] at h
          simp only [Bool.false_and, Bool.false_eq_true, if_false, Option.some.injEq, Prod.mk.injEq] at h
          obtain ⟨rfl, rfl⟩ := h
          exact (pure_core hcf hm hv (fun c hc => owns_fz (by
            simp only [List.any_eq_false] at hown
            simpa using hown c hc)) hbs hc hr).mono fun e w' ⟨v, he, hrv, hg⟩ => ⟨v, ρ, he, hrv, hg.inv hm⟩
        | true =>
          obtain ⟨hs, hK⟩ := frzL_step av m
          obtain ⟨hm1, hl1⟩ := hs.inv hm
          have hv1 : ArgsRV (Av O ρ (av.foldl frzA m)) ρ (av.foldl frzA m) w av vs := ⟨hv.1, fun i hi => (hv.2 i hi).later hm hl1⟩
          have hbs1 : mapO (snapA (av.foldl frzA m)) av = some bs := by
            have : snapA (av.foldl frzA m) = snapA m := funext (snapA_eq hs.row)
            rw [this]; exact hbs
          have key := pure_core hcf hm1 hv1 hK hbs1 hc hr
          rw [hown] at h
          simp only [Bool.true_and, Bool.not_eq_true'] at h
          split at h
          · split at h
            · simp only [Option.some.injEq, Prod.mk.injEq] at h
              obtain ⟨rfl, rfl⟩ := h
              exact key.mono fun e w' ⟨v, he, hrv, hg⟩ => ⟨v, ρ, he, hrv, (hg.inv hm1).1, hl1.trans (hg.inv hm1).2⟩
            · cases h
          · rename_i hnc
            simp only [Option.some.injEq, Prod.mk.injEq] at h
            obtain ⟨rfl, rfl⟩ := h
            have hnc : noCells r1 = true := by simpa using hnc
            exact key.mono fun e w' ⟨v, he, hrv, hg⟩ => ⟨v, ρ, he, noCells_rv hrv hnc, hg.inv hm⟩

/-- The core of a call by value whose result is the caller's to write, behind the freezing. -/
theorem fresh_core {cf : CF} (hcf : CFok P cf) (hm : MemInv O ρ m w) {g : FuncId} {av bs : List AV} {vs : List Value} (hv : ArgsRV (Av O ρ m) ρ m w av vs) (hK : ∀ c ∈ av, KA (FzR m) c) (hbs : mapO (snapA m) av = some bs)
    {h gg off len el : Nat} {cap : Option Nat} {mc : Mem} (hc : cf g bs ⟨[], 0⟩ = some (.own h gg off len el cap, mc)) {cs : List AV} {kid : Option (Nat × Nat)} (ho : own? mc h gg = some (cs, kid)) :
    Calls P g vs.toArray w fun e w' => ∃ v p c E, e = .returned v ∧ Grows w w' ∧ w.heap.size ≤ p.1 ∧ w'.heap[p.1]? = some (.cells c E (0, 0)) ∧ OwnOk w' p cs.length off len el cap v ∧
      ∀ j (hj : j < cs.length), ∃ u, c[p.2 + j]? = some u ∧ ∀ x, cs[j]'hj = .d x → RD (With (Av O ρ m) p.1) w' x u := by
  obtain ⟨h1, h2⟩ := mapO_get hbs
  have hinv : MemInv (Av O ρ m) ρ ⟨[], 0⟩ w :=
    { row := fun h cs g s kid hr => by simp at hr, map := fun h es g hr => by simp at hr
      dis := fun h h' a _ _ => by rcases a with ⟨_, _, _, a⟩ | ⟨_, _, a⟩ <;> simp at a
      fz := fun h cs g kid hr => by simp at hr, kd := fun k cs g p kid hr => by simp at hr, ex := fun b hb => hm.av_lt hb }
  have hargs : ArgsRV (Av (Av O ρ m) ρ ⟨[], 0⟩) ρ ⟨[], 0⟩ w bs vs := by
    refine ⟨by rw [hv.1, h1], fun i hi => ?_⟩
    have hi' : i < av.length := by omega
    have := snapA_sound hm (looks_fz hm) (hK _ (List.getElem_mem hi')) (h2 i hi' hi) (hv.2 i hi') ρ ⟨[], 0⟩
    refine this.weak fun b hb => ?_
    rcases hb with hb | ⟨h, hmut, _⟩
    · exact hb
    · rcases hmut with ⟨_, _, _, a⟩ | ⟨_, _, a⟩ <;> simp at a
  have hrow := own_row ho
  refine (hcf g bs _ _ mc hc _ ρ w vs hinv hargs).mono fun e w' hp => ?_
  obtain ⟨v, ρ', he, hrv, hmc, hl⟩ := hp
  obtain ⟨a1, a2, c, E, a3, a4⟩ := hmc.row h cs gg .ow kid hrow
  have hown : OwnB ρ' mc (ρ' h).1 := ⟨h, .inl ⟨cs, gg, kid, hrow⟩, rfl⟩
  cases hrv with
  | own _ _ _ _ _ _ a n cc hg hv0 =>
    refine ⟨_, ρ' h, c, E, he, ⟨hl.os, hl.tape, hl.output, hl.size, fun b hb => hl.keep b hb fun ⟨h, hmut, _⟩ => by
      rcases hmut with ⟨_, _, _, a⟩ | ⟨_, _, a⟩ <;> simp at a⟩, ?_, a3, hv0 cs .ow kid hrow, fun j hj => ?_⟩
    · rcases hl.own _ hown with ⟨h, hmut, _⟩ | hh
      · rcases hmut with ⟨_, _, _, a⟩ | ⟨_, _, a⟩ <;> simp at a
      · exact hh
    · obtain ⟨u, hu, hr⟩ := a4 j hj
      refine ⟨u, hu, fun x hx => ?_⟩
      rw [hx] at hr
      cases hr with
      | d _ _ hd =>
        refine hd.mono (fun _ _ _ => rfl) (fun b _ hb => ?_) (Nat.le_refl _)
        rcases hb with hb | rfl
        · exact .inl hb
        · exact .inr hown

theorem rd_noCell {A A' : Nat → Prop} {w : World} {x : D} {u : Value} (h : RD A w x u) (hn : noCell1 (.d x) = true) : RD A' w x u := by
  cases h with
  | v => exact .v _
  | emp t a cap h0 => exact .emp t a cap h0
  | sl t len cells b o cap us a1 a2 a3 a4 a5 a6 =>
    match len, cells, hn with
    | 0, [], _ => exact .emp t _ cap a6

/-- The block that such a call makes becomes the caller's. -/
theorem fresh_end {w' : World} {v : Value} {p : Nat × Nat} {c : Array Value} {E : TypeId} {cs : List AV} {off len el : Nat} {cap : Option Nat} (hm : MemInv O ρ m w) (hg : Grows w w') (hp : w.heap.size ≤ p.1) (hk : w'.heap[p.1]? = some (.cells c E (0, 0)))
    (ho : OwnOk w' p cs.length off len el cap v) (hd : ∀ j (hj : j < cs.length), ∃ u, c[p.2 + j]? = some u ∧ ∃ x, cs[j]'hj = .d x ∧ RD (With (Av O ρ m) p.1) w' x u) :
    Post O ρ m w (.own m.b.length m.n off len el cap) (m.push cs) (.returned v) w' := by
  have hlt : p.1 < w'.heap.size := by
    by_cases h : p.1 < w'.heap.size
    · exact h
    · rw [Array.getElem?_eq_none (by omega)] at hk; cases hk
  have hno : ¬ Av O ρ m p.1 := fun h => by have := hm.av_lt h; omega
  obtain ⟨hm1, _⟩ := widen (O' := With O p.1) hm hg (fun b h => h.imp id fun e => by subst e; exact hp) (fun b h => by
    rcases h with h | rfl
    · exact Nat.lt_of_lt_of_le (hm.ex b h) hg.2.2.2.1
    · exact hlt)
  refine ⟨v, upd ρ m.b.length p, rfl, ?_, hm1.adopt cs c E (fun h => hno (.inl h)) (hm.far hp) hk fun j hj => ?_, (hg.inv hm).2.adopt hp cs⟩
  · obtain ⟨cap', rfl, h1⟩ := ho
    refine .own _ _ off len el cap _ _ _ (Nat.lt_succ_self _) fun cs' s kid hr => ?_
    rcases push_get hr with ⟨_, hi⟩ | ⟨_, hx⟩
    · exact absurd rfl hi
    · simp only [Blk.row.injEq] at hx
      obtain ⟨rfl, _⟩ := hx
      rw [upd_same]
      exact ⟨cap', rfl, h1⟩
  · obtain ⟨u, hu, x, hx, hr⟩ := hd j hj
    refine ⟨u, hu, ?_⟩
    rw [hx]
    refine .d x u (hr.mono (fun _ _ _ => rfl) (fun b _ hb => ?_) (Nat.le_refl _))
    rcases hb with (hb | rfl) | hb
    · exact .inl (.inl hb)
    · exact .inr rfl
    · exact .inl (.inr hb)

theorem isD_all {cs : List AV} (h : cs.all isD = true) {j : Nat} (hj : j < cs.length) : ∃ x, cs[j]'hj = .d x := by
  have := List.all_eq_true.mp h _ (List.getElem_mem hj)
  generalize cs[j]'hj = y at this
  cases y <;> first | exact ⟨_, rfl⟩ | simp [isD] at this

theorem freshCall_sound {cf : CF} (hcf : CFok P cf) (hm : MemInv O ρ m w) {g : FuncId} {av : List AV} {vs : List Value} (hv : ArgsRV (Av O ρ m) ρ m w av vs) {r : AV} {m' : Mem}
    (h : freshCall cf g av m = some (r, m')) : Calls P g vs.toArray w (Post O ρ m w r m') := by
  unfold freshCall at h
  split at h
  · cases h
  · rename_i bs hbs
    split at h
    · rename_i hh gg off len el cap mc hc
      split at h
      · rename_i cs kid ho
        split at h
        · rename_i hD
          simp only [Option.some.injEq, Prod.mk.injEq] at h
          obtain ⟨hs, hK⟩ := frzL_step av m
          obtain ⟨hm1, hl1⟩ := hs.inv hm
          have hv1 : ArgsRV (Av O ρ (av.foldl frzA m)) ρ (av.foldl frzA m) w av vs := ⟨hv.1, fun i hi => (hv.2 i hi).later hm hl1⟩
          have hbs1 : mapO (snapA (av.foldl frzA m)) av = some bs := by
            have : snapA (av.foldl frzA m) = snapA m := funext (snapA_eq hs.row)
            rw [this]; exact hbs
          cases hown : av.any owns with
          | false =>
            rw [hown] at h
            simp only [Bool.false_and, Bool.false_eq_true, if_false] at h
            obtain ⟨rfl, rfl⟩ := h
            refine (fresh_core hcf hm hv (fun c hc => owns_fz (by
              simp only [List.any_eq_false] at hown
              simpa using hown c hc)) hbs hc ho).mono fun e w' ⟨v, p, c, E, he, hg, hp, hk, hok, hd⟩ => ?_
            subst he
            refine fresh_end hm hg hp hk hok fun j hj => ?_
            obtain ⟨u, hu, hr⟩ := hd j hj
            obtain ⟨x, hx⟩ := isD_all hD hj
            exact ⟨u, hu, x, hx, hr x hx⟩
          | true =>
            rw [hown] at h
            have key := fresh_core hcf hm1 hv1 hK hbs1 hc ho
            cases hn : cs.all noCell1 with
            | true =>
              rw [hn] at h
              simp only [Bool.not_true, Bool.and_false, Bool.false_eq_true, if_false] at h
              obtain ⟨rfl, rfl⟩ := h
              refine key.mono fun e w' ⟨v, p, c, E, he, hg, hp, hk, hok, hd⟩ => ?_
              subst he
              refine fresh_end hm hg hp hk hok fun j hj => ?_
              obtain ⟨u, hu, hr⟩ := hd j hj
              obtain ⟨x, hx⟩ := isD_all hD hj
              have hn1 := List.all_eq_true.mp hn _ (List.getElem_mem hj)
              rw [hx] at hn1
              exact ⟨u, hu, x, hx, rd_noCell (hr x hx) hn1⟩
            | false =>
              rw [hn] at h
              simp only [Bool.not_false, Bool.and_self, if_true] at h
              obtain ⟨rfl, rfl⟩ := h
              refine key.mono fun e w' ⟨v, p, c, E, he, hg, hp, hk, hok, hd⟩ => ?_
              subst he
              refine (fresh_end hm1 hg hp hk hok fun j hj => ?_).mono_later hl1
              obtain ⟨u, hu, hr⟩ := hd j hj
              obtain ⟨x, hx⟩ := isD_all hD hj
              exact ⟨u, hu, x, hx, hr x hx⟩
        · cases h
      · cases h
    · exact pureCall_sound hcf hm hv h

theorem take_shrink {k : Nat} (hm : MemInv O ρ m w) : MemInv O ρ ⟨m.b.take k, m.n⟩ w ∧ Later ρ m w ρ ⟨m.b.take k, m.n⟩ w :=
  shrink hm (Nat.le_refl _) fun i x hx => .inl (by
    simp only [List.getElem?_take] at hx
    split at hx
    · exact hx
    · cases hx)

theorem callA_sound {Γ : Ctx} {cf : CF} (hcf : CFok P cf) (hm : MemInv O ρ m w) {g : FuncId} {av : List AV} {vs : List Value} (hv : ArgsRV (Av O ρ m) ρ m w av vs) {r : AV} {m' : Mem}
    (h : callA Γ cf g av m = some (r, m')) : Calls P g vs.toArray w (Post O ρ m w r m') := by
  unfold callA at h
  split at h
  · exact hcf g av m r m' h O ρ w vs hm hv
  · exact freshCall_sound hcf hm hv h
  · split at h
    · rename_i r1 m1 hc
      simp only [Option.some.injEq, Prod.mk.injEq] at h
      obtain ⟨rfl, rfl⟩ := h
      refine (hcf g av m _ m1 hc O ρ w vs hm hv).mono fun e w' ⟨v, ρ', he, hrv, hmc, hl⟩ => ?_
      obtain ⟨k1, k2⟩ := take_shrink (k := m.b.length) hmc
      exact ⟨v, ρ', he, hrv.later hmc k2, k1, hl.trans k2⟩
    · cases h
  · split at h
    · exact hcf g av m r m' h O ρ w vs hm hv
    · exact pureCall_sound hcf hm hv h

/-- Pure calls leave the memory they are handed. -/
theorem pureCall_mem {cf : CF} {g : FuncId} {av : List AV} {r : AV} (h : pureCall cf false g av m = some (r, m')) : m' = m := by
  unfold pureCall at h
  split at h
  · cases h
  · split at h
    · cases h
    · split at h
      · cases h
      · split at h
        · simp at h
        · simp only [Option.some.injEq, Prod.mk.injEq] at h
          exact h.2.symm

end

end Go.Am

namespace Go.Am

theorem nth_nil (i : Nat) : nth [] i = undefA := by cases i <;> rfl

theorem nth_set : ∀ (t : List AV) (d : Nat) (v : AV) (i : Nat), nth (t.set d v) i = if i = d ∧ d < t.length then v else nth t i
  | [], d, v, i => by simp
  | x :: t, 0, v, 0 => by simp [nth]
  | x :: t, 0, v, i + 1 => by simp [nth]
  | x :: t, d + 1, v, 0 => by simp [nth]
  | x :: t, d + 1, v, i + 1 => by simp [nth, nth_set t d v i]

theorem nth_get : ∀ (t : List AV) (i : Nat) (h : i < t.length), nth t i = t[i]'h
  | _ :: _, 0, _ => rfl
  | _ :: t, i + 1, h => nth_get t i (by simpa using h)

theorem nth_out : ∀ (t : List AV) (i : Nat), t.length ≤ i → nth t i = undefA
  | [], i, _ => nth_nil i
  | _ :: t, i + 1, h => nth_out t i (by simpa using h)
  | _ :: _, 0, h => by simp at h

/-- The machine's temporaries stand for the model's. -/
def TR (A : Nat → Prop) (ρ : Nat → Nat × Nat) (m : Mem) (w : World) (t : List AV) (a : Act) : Prop :=
  t.length = a.tmps.size ∧ ∀ i, RV A ρ m w (nth t i) (a.tmps.getD i undef)

structure Rel (O : Nat → Prop) (ρ : Nat → Nat × Nat) (s : St) (w : World) (a : Act) : Prop where
  mem : MemInv O ρ s.m w
  tmp : TR (Av O ρ s.m) ρ s.m w s.t a
  def0 : a.defers = []

section
variable {P : Program} {O : Nat → Prop} {ρ ρ' : Nat → Nat × Nat} {m m' : Mem} {w w' : World} {t : List AV} {a : Act}

theorem TR.later (hm : MemInv O ρ m w) (hl : Later ρ m w ρ' m' w') (h : TR (Av O ρ m) ρ m w t a) : TR (Av O ρ' m') ρ' m' w' t a :=
  ⟨h.1, fun i => (h.2 i).later hm hl⟩

theorem put_size (a : Act) (dst : Option Tmp) (v : Value) : (a.put dst v).tmps.size = a.tmps.size := by cases dst <;> simp [Act.put]

theorem TR.put {A : Nat → Prop} (h : TR A ρ m w t a) {r : AV} {v : Value} (hr : RV A ρ m w r v) (dst : Option Tmp) : TR A ρ m w (putA' t dst r) (a.put dst v) := by
  cases dst with
  | none => exact h
  | some d =>
    refine ⟨by simp [putA', Act.put, h.1], fun i => ?_⟩
    simp only [putA', Act.put, nth_set]
    split
    · rename_i hc
      obtain ⟨rfl, hlt⟩ := hc
      rw [h.1] at hlt
      simp [Array.getD_eq_getD_getElem?, hlt, hr]
    · rename_i hc
      have : (a.tmps.setIfInBounds d v).getD i undef = a.tmps.getD i undef := by
        simp only [Array.getD_eq_getD_getElem?, Array.getElem?_setIfInBounds]
        split
        · rename_i he
          subst he
          split
          · rename_i hlt; exact absurd ⟨rfl, by rw [h.1]; exact hlt⟩ hc
          · rename_i hlt; rw [Array.getElem?_eq_none (by omega)]
        · rfl
      rw [this]
      exact h.2 i

theorem put_def0 (a : Act) (dst : Option Tmp) (v : Value) : (a.put dst v).defers = a.defers := by cases dst <;> rfl

/-- May the operation run: as the model says. -/
theorem wanted_sound {A : Nat → Prop} (h : TR A ρ m w t a) {ops : Array Oper} {o : Oper} {b : Bool} (hb : wantedA ops t o = some b) : Region.wanted o (yielded ops a.tmps) = b := by
  unfold wantedA at hb
  unfold Region.wanted
  split at hb
  · rename_i hg
    rw [hg]
    simpa using hb
  · rename_i j want hg
    rw [hg]
    split at hb
    · rename_i p hp
      split at hb
      · rename_i d hd
        split at hb
        · rename_i hlt
          have hv := h.2 d
          have hlt' : d < a.tmps.size := by rw [← h.1]; exact hlt
          have hy : yielded ops a.tmps j = match a.tmps.getD d undef with | .bool b => some b | _ => none := by
            simp only [yielded, hp, Option.bind_some, hd]
            rw [Array.getD_eq_getD_getElem?, Array.getElem?_eq_getElem hlt', Option.getD_some]
            cases a.tmps[d] <;> rfl
          simp only
          rw [hy]
          split at hb
          · rename_i b' hn
            rw [hn] at hv
            rw [rv_bool hv]
            simp only [Option.some.injEq] at hb
            rw [← hb]
            cases b' <;> cases want <;> rfl
          · rename_i x hn
            rw [hn] at hv
            rw [rv_v hv]
            simp only [Option.some.injEq] at hb
            rw [← hb]
            rfl
          · cases hb
        · cases hb
      · cases hb
    · cases hb

/-- What runs a function by its name does enter it. -/
def CFin (P : Program) (cf : CF) : Prop :=
  ∀ g av m r, cf g av m = some r → ∀ args w, (callFunc g args).run P w = .ok (.enter g args) w

theorem pureCall_in {cf : CF} (hin : CFin P cf) {may : Bool} {g : FuncId} {av : List AV} {r : AV × Mem} (h : pureCall cf may g av m = some r) (args : Array Value) (w : World) : (callFunc g args).run P w = .ok (.enter g args) w := by
  unfold pureCall at h
  split at h
  · cases h
  · rename_i bs hbs
    split at h
    · cases h
    · rename_i r0 mc hc
      exact hin g bs ⟨[], 0⟩ _ hc args w

theorem freshCall_in {cf : CF} (hin : CFin P cf) {g : FuncId} {av : List AV} {r : AV × Mem} (h : freshCall cf g av m = some r) (args : Array Value) (w : World) : (callFunc g args).run P w = .ok (.enter g args) w := by
  unfold freshCall at h
  split at h
  · cases h
  · rename_i bs hbs
    split at h
    · rename_i hc
      exact hin g bs ⟨[], 0⟩ _ hc args w
    · exact pureCall_in hin h args w

theorem callA_in {Γ : Ctx} {cf : CF} (hin : CFin P cf) {g : FuncId} {av : List AV} {r : AV × Mem} (h : callA Γ cf g av m = some r) (args : Array Value) (w : World) : (callFunc g args).run P w = .ok (.enter g args) w := by
  unfold callA at h
  split at h
  · exact hin g av m _ h args w
  · exact freshCall_in hin h args w
  · split at h
    · rename_i hc
      exact hin g av m _ hc args w
    · cases h
  · split at h
    · exact hin g av m _ h args w
    · exact pureCall_in hin h args w

/-- A call's callee and arguments. -/
theorem callee_sound {A : Nat → Prop} {e : Operand → Value} {o : Oper} (hx : ∀ x ∈ o.op.operands.toList, RV A ρ m w (evalA t x) (e x)) {g : FuncId} {av : List AV} (h : calleeOf t o = some (g, av)) :
    ∃ vs : List Value, ArgsRV A ρ m w av vs ∧ ((∀ args w, (callFunc g args).run P w = .ok (.enter g args) w) → (execOp e o).run P w = .ok (.enter g vs.toArray) w) := by
  unfold calleeOf at h
  split at h
  · rename_i c ho
    split at h
    · rename_i f hf
      split at h
      · rename_i g' caps hfe
        simp only [Option.some.injEq, Prod.mk.injEq] at h
        obtain ⟨rfl, rfl⟩ := h
        have hfx := hx f (by simp [ho, Op.operands, Call.operands, hf])
        rw [hfe] at hfx
        generalize hv : e f = v at hfx
        cases hfx with
        | fn _ _ cvs hl hr =>
          refine ⟨(c.args.map e).toList ++ cvs, ⟨by simp [hl], fun i hi => ?_⟩, fun hin => ?_⟩
          · by_cases h1 : i < (c.args.toList.map (evalA t)).length
            · rw [List.getElem_append_left h1]
              have h2 : i < c.args.toList.length := by simpa using h1
              have h3 : ((c.args.map e).toList ++ cvs).getD i undef = e (c.args.toList[i]'h2) := by
                rw [List.getD_eq_getElem?_getD, List.getElem?_append_left (by simpa using h1)]
                simp only [Array.toList_map, List.getElem?_map, List.getElem?_eq_getElem h2, Option.map_some, Option.getD_some]
              rw [h3, List.getElem_map]
              exact hx _ (by
                simp only [ho, Op.operands, Call.operands, hf]
                simp only [Array.toList_append, List.mem_append]
                exact .inr (List.getElem_mem h2))
            · simp only [List.length_append] at hi
              rw [List.getElem_append_right (by omega)]
              have h3 : ((c.args.map e).toList ++ cvs).getD i undef = cvs.getD (i - (c.args.toList.map (evalA t)).length) undef := by
                rw [List.getD_eq_getElem?_getD, List.getElem?_append_right (by simpa using h1), List.getD_eq_getElem?_getD]
                simp
              rw [h3]
              exact hr _ (by omega)
          · have hres : (resolve e c o.type).run P w = .ok { target := .fn (.func g') cvs.toArray, args := #[] ++ c.args.map e } w := by
              simp [resolve, hf, hv, Deferred.ofValue]
            simp only [execOp, ho, Sem.run_bind, hres, Result.andThen_ok, invoke]
            rw [show (#[] ++ c.args.map e ++ cvs.toArray : Array Value) = ((c.args.map e).toList ++ cvs).toArray by apply Array.ext'; simp]
            exact hin _ _
      · cases h
    · cases h
  · cases h

/-- An operation's step, as the model takes it. -/
theorem oper_wp {o : Oper} {r : AV} {s : List AV} (hT : TR (Av O ρ m) ρ m w s a) (hm : MemInv O ρ m w) (hd : a.defers = []) (h : Gives O P ρ m w (execOp a.eval o) r m')
    {next : Act → World → Prop} {Q : Exit → Act → World → Prop} (hn : ∀ a' w' ρ', Rel O ρ' ⟨putA' s o.dst r, m'⟩ w' a' → Later ρ m w ρ' m' w' → next a' w') : o.wp P a w next Q := by
  obtain ⟨v, w', ρ', h1, h2, h3, h4⟩ := h
  have hrel : Rel O ρ' ⟨putA' s o.dst r, m'⟩ w' (a.put o.dst v) := ⟨h3, (hT.later hm h4).put h2 o.dst, by rw [put_def0]; exact hd⟩
  unfold Oper.wp
  rcases h1 with h1 | ⟨h1, rfl⟩ <;> rw [h1]
  · exact hn _ _ _ hrel h4
  · exact hn _ _ _ hrel h4

/-- A call's step. -/
theorem call_wp {o : Oper} {g : FuncId} {vs : List Value} {r : AV} {s : List AV} (hT : TR (Av O ρ m) ρ m w s a) (hm : MemInv O ρ m w) (hd : a.defers = [])
    (hrun : (execOp a.eval o).run P w = .ok (.enter g vs.toArray) w) (hc : Calls P g vs.toArray w (Post O ρ m w r m'))
    {next : Act → World → Prop} {Q : Exit → Act → World → Prop} (hn : ∀ a' w' ρ', Rel O ρ' ⟨putA' s o.dst r, m'⟩ w' a' → Later ρ m w ρ' m' w' → next a' w') : o.wp P a w next Q := by
  unfold Oper.wp
  rw [hrun, Oper.upon_enter]
  refine hc.mono fun e w' ⟨v, ρ', he, h2, h3, h4⟩ => ?_
  subst he
  exact hn _ _ _ ⟨h3, (hT.later hm h4).put h2 o.dst, by rw [put_def0]; exact hd⟩ h4

theorem text_sound {Γ : Ctx} (ok : Γ.TyOk) {fk : Nat → Bool} {cf : CF} (hcf : CFok Γ.P cf) (hin : CFin Γ.P cf) {ops : Array Oper} {Q : Exit → Act → World → Prop} : ∀ (l : List Oper) (s s' : St) (ρ : Nat → Nat × Nat) (w : World) (a : Act),
    runOps Γ fk cf ops l s = some s' → Rel O ρ s w a → (∀ a' w' ρ', Rel O ρ' s' w' a' → Later ρ s.m w ρ' s'.m w' → Q .normal a' w') → wpList Γ.P ops Q l a w
  | [], s, s', ρ, w, a, h, hr, hq => by
    simp only [runOps, Option.some.injEq] at h
    subst h
    exact hq a w ρ hr (.refl _ _ _)
  | o :: l, s, s', ρ, w, a, h, hr, hq => by
    unfold runOps at h
    unfold wpList
    split at h
    · rename_i r m' heq
      have next : ∀ a' w' ρ', Rel O ρ' ⟨putA' s.t o.dst r, m'⟩ w' a' → Later ρ s.m w ρ' m' w' → wpList Γ.P ops Q l a' w' := fun a' w' ρ' hr' hl =>
        text_sound ok hcf hin l _ s' ρ' w' a' h hr' fun a'' w'' ρ'' hr'' hl' => hq a'' w'' ρ'' hr'' (hl.trans hl')
      unfold stepOp at heq
      split at heq
      · cases heq
      · rename_i hw
        rw [wanted_sound hr.tmp hw]
        simp only [Bool.false_eq_true, if_false]
        simp only [Option.some.injEq, Prod.mk.injEq] at heq
        obtain ⟨rfl, rfl⟩ := heq
        exact next _ _ _ ⟨hr.mem, hr.tmp.put (RV.undef _ _ _ _) o.dst, by rw [put_def0]; exact hr.def0⟩ (.refl _ _ _)
      · rename_i hw
        rw [wanted_sound hr.tmp hw]
        simp only [if_true]
        refine .inl ?_
        have hev : ∀ x, RV (Av O ρ s.m) ρ s.m w (evalA s.t x) (a.eval x) := eval_rv hr.tmp.2
        split at heq
        · split at heq
          · rename_i g av hcal
            simp only at heq
            obtain ⟨vs, h1, h2⟩ := callee_sound (P := Γ.P) (e := a.eval) (fun x _ => hev x) hcal
            exact call_wp hr.tmp hr.mem hr.def0 (h2 (callA_in hin heq)) (callA_sound hcf hr.mem h1 heq) next
          · cases heq
        · simp only at heq
          exact oper_wp hr.tmp hr.mem hr.def0 (opA_sound ok hr.mem (fun x _ => hev x) heq) next
    · cases h

end

end Go.Am

namespace Go.Am

def exitOf : Out → Exit
  | .normal => .normal
  | .exit id => .exit id
  | .ret => .ret

/-- A region whose order is open runs as the machine runs it. -/
def RegOk (Γ : Ctx) (f : FuncId) (id : Nat) (ops : Array Oper) : Prop :=
  ∀ cf, CFok Γ.P cf → CFin Γ.P cf → ∀ s s', region Γ cf f id ops true s = some s' → ∀ O ρ w a Q, Rel O ρ s w a →
    (∀ a' w' ρ', Rel O ρ' s' w' a' → Later ρ s.m w ρ' s'.m w' → Q .normal a' w') → (Code.region id ops true).wp Γ.P Q a w

/-- All such regions in a code. -/
def CodeOk (Γ : Ctx) (f : FuncId) : Code → Prop
  | .region id ops draw => draw = true → RegOk Γ f id ops
  | .seq a b => CodeOk Γ f a ∧ CodeOk Γ f b
  | .cond _ a b => CodeOk Γ f a ∧ CodeOk Γ f b
  | .block _ a | .loop a | .scope a => CodeOk Γ f a
  | _ => True

structure Ctx.Ok (Γ : Ctx) : Prop where
  ty : Γ.TyOk
  fn : ∀ g fn, Γ.fn g = some fn → Γ.P.funcs[g]? = some fn ∧ (fn.name == "runtime.NumGoroutine") = false ∧ ∀ c, fn.body = some c → CodeOk Γ g c

def Runs (Γ : Ctx) (f : FuncId) (c : Code) (s : St) (o : Out) (s' : St) (wp : Code → (Exit → Act → World → Prop) → Act → World → Prop) : Prop :=
  ∀ O ρ w a Q, Rel O ρ s w a → (∀ a' w' ρ', Rel O ρ' s' w' a' → Later ρ s.m w ρ' s'.m w' → Q (exitOf o) a' w') → wp c Q a w

structure ExOk (Γ : Ctx) (n : Nat) (ex : EX) : Prop where
  wp : ∀ f c s o s', CodeOk Γ f c → ex f c s = some (o, s') → Runs Γ f c s o s' (fun c Q => c.wp Γ.P Q)
  loop : ∀ f c s o s', CodeOk Γ f c → ex f (.loop c) s = some (o, s') → Runs Γ f c s o s' (fun c Q => Code.rounds Γ.P c Q n)

section
variable {Γ : Ctx} {cf : CF} {again : EX} {n : Nat}

theorem inner_sound (ok : Γ.TyOk) (hcf : CFok Γ.P cf) (hin : CFin Γ.P cf) (ha : ExOk Γ n again) (f : FuncId) : ∀ (c : Code) (s : St) (o : Out) (s' : St), CodeOk Γ f c → inner Γ cf again f c s = some (o, s') →
    Runs Γ f c s o s' (fun c Q => c.wp Γ.P Q)
  | .skip, s, o, s', _, h => by
    simp only [inner, Option.some.injEq, Prod.mk.injEq] at h
    obtain ⟨rfl, rfl⟩ := h
    exact fun O ρ w a Q hr hq => wp_skip (hq _ _ _ hr (.refl _ _ _))
  | .region id ops draw, s, o, s', hc, h => by
    simp only [inner] at h
    split at h
    · rename_i s1 hs
      simp only [Option.some.injEq, Prod.mk.injEq] at h
      obtain ⟨rfl, rfl⟩ := h
      intro O ρ w a Q hr hq
      cases draw with
      | false =>
        simp only [region, Bool.false_eq_true, if_false] at hs
        exact wp_region_list (text_sound ok hcf hin ops.toList s s1 ρ w a hs hr hq)
      | true => exact hc rfl cf hcf hin s s1 hs O ρ w a Q hr hq
    · cases h
  | .seq x y, s, o, s', hc, h => by
    simp only [inner] at h
    intro O ρ w a Q hr hq
    refine wp_seq ?_
    split at h
    · rename_i s1 hx
      refine inner_sound ok hcf hin ha f x s .normal s1 hc.1 hx O ρ w a _ hr fun a1 w1 ρ1 hr1 hl1 => ?_
      exact inner_sound ok hcf hin ha f y s1 o s' hc.2 h O ρ1 w1 a1 Q hr1 fun a' w' ρ' hr' hl' => hq a' w' ρ' hr' (hl1.trans hl')
    · rename_i hne
      refine inner_sound ok hcf hin ha f x s o s' hc.1 h O ρ w a _ hr fun a1 w1 ρ1 hr1 hl1 => ?_
      have hq' := hq a1 w1 ρ1 hr1 hl1
      cases o with
      | normal => exact absurd h (hne _)
      | exit id => exact hq'
      | ret => exact hq'
  | .cond c x y, s, o, s', hc, h => by
    simp only [inner] at h
    intro O ρ w a Q hr hq
    have hv := eval_rv (a := a) hr.tmp.2 c
    split at h
    · rename_i he
      rw [he] at hv
      exact wp_cond_true (rv_bool hv) (inner_sound ok hcf hin ha f x s o s' hc.1 h O ρ w a Q hr hq)
    · rename_i he
      rw [he] at hv
      exact wp_cond_false (rv_bool hv) (inner_sound ok hcf hin ha f y s o s' hc.2 h O ρ w a Q hr hq)
    · cases h
  | .block id x, s, o, s', hc, h => by
    simp only [inner] at h
    intro O ρ w a Q hr hq
    refine wp_block ?_
    split at h
    · rename_i id' s1 hx
      split at h
      · rename_i he
        simp only [Option.some.injEq, Prod.mk.injEq] at h
        obtain ⟨rfl, rfl⟩ := h
        refine inner_sound ok hcf hin ha f x s _ _ hc hx O ρ w a _ hr fun a1 w1 ρ1 hr1 hl1 => ?_
        simp only [exitOf, Exit.inBlock, he, if_true]
        exact hq a1 w1 ρ1 hr1 hl1
      · rename_i he
        simp only [Option.some.injEq, Prod.mk.injEq] at h
        obtain ⟨rfl, rfl⟩ := h
        refine inner_sound ok hcf hin ha f x s _ _ hc hx O ρ w a _ hr fun a1 w1 ρ1 hr1 hl1 => ?_
        simp only [exitOf, Exit.inBlock, he, if_false]
        exact hq a1 w1 ρ1 hr1 hl1
    · rename_i hne
      refine inner_sound ok hcf hin ha f x s o s' hc h O ρ w a _ hr fun a1 w1 ρ1 hr1 hl1 => ?_
      have hq' := hq a1 w1 ρ1 hr1 hl1
      cases o with
      | normal => exact hq'
      | exit id => exact absurd h (hne _ _)
      | ret => exact hq'
  | .loop x, s, o, s', hc, h => by
    simp only [inner] at h
    intro O ρ w a Q hr hq
    refine wp_loop_rounds (n + 1) ?_
    rw [rounds_succ]
    split at h
    · rename_i s1 hx
      refine inner_sound ok hcf hin ha f x s .normal s1 hc hx O ρ w a _ hr fun a1 w1 ρ1 hr1 hl1 => ?_
      exact ha.loop f x s1 o s' hc h O ρ1 w1 a1 Q hr1 fun a' w' ρ' hr' hl' => hq a' w' ρ' hr' (hl1.trans hl')
    · rename_i hne
      refine inner_sound ok hcf hin ha f x s o s' hc h O ρ w a _ hr fun a1 w1 ρ1 hr1 hl1 => ?_
      have hq' := hq a1 w1 ρ1 hr1 hl1
      cases o with
      | normal => exact absurd h (hne _)
      | exit id => exact hq'
      | ret => exact hq'
  | .scope x, s, o, s', hc, h => by
    simp only [inner] at h
    intro O ρ w a Q hr hq
    refine wp_scope_straight (inner_sound ok hcf hin ha f x s o s' hc h O ρ w a _ hr fun a1 w1 ρ1 hr1 hl1 => ?_)
    have hq' := hq a1 w1 ρ1 hr1 hl1
    cases o <;> exact hq'
  | .exit id, s, o, s', _, h => by
    simp only [inner, Option.some.injEq, Prod.mk.injEq] at h
    obtain ⟨rfl, rfl⟩ := h
    exact fun O ρ w a Q hr hq => wp_exit (hq _ _ _ hr (.refl _ _ _))
  | .label id, s, o, s', _, h => by
    simp only [inner, Option.some.injEq, Prod.mk.injEq] at h
    obtain ⟨rfl, rfl⟩ := h
    exact fun O ρ w a Q hr hq => wp_label (hq _ _ _ hr (.refl _ _ _))
  | .ret, s, o, s', _, h => by
    simp only [inner, Option.some.injEq, Prod.mk.injEq] at h
    obtain ⟨rfl, rfl⟩ := h
    exact fun O ρ w a Q hr hq => wp_ret (hq _ _ _ hr (.refl _ _ _))
  | .goto _, s, o, s', _, h => by simp [inner] at h

/-- The loop's rounds, as the machine runs them. -/
theorem inner_loop (ok : Γ.TyOk) (hcf : CFok Γ.P cf) (hin : CFin Γ.P cf) (ha : ExOk Γ n again) (f : FuncId) (x : Code) (s : St) (o : Out) (s' : St) (hc : CodeOk Γ f x) (h : inner Γ cf again f (.loop x) s = some (o, s')) :
    Runs Γ f x s o s' (fun c Q => Code.rounds Γ.P c Q (n + 1)) := by
  simp only [inner] at h
  intro O ρ w a Q hr hq
  rw [rounds_succ]
  split at h
  · rename_i s1 hx
    refine inner_sound ok hcf hin ha f x s .normal s1 hc hx O ρ w a _ hr fun a1 w1 ρ1 hr1 hl1 => ?_
    exact ha.loop f x s1 o s' hc h O ρ1 w1 a1 Q hr1 fun a' w' ρ' hr' hl' => hq a' w' ρ' hr' (hl1.trans hl')
  · rename_i hne
    refine inner_sound ok hcf hin ha f x s o s' hc h O ρ w a _ hr fun a1 w1 ρ1 hr1 hl1 => ?_
    have hq' := hq a1 w1 ρ1 hr1 hl1
    cases o with
    | normal => exact absurd h (hne _)
    | exit id => exact hq'
    | ret => exact hq'

theorem res_sound (ok : Γ.TyOk) {O : Nat → Prop} {ρ : Nat → Nat × Nat} {s : St} {w : World} {a : Act} (hr : Rel O ρ s w a) {fn : Func} {r : AV} (h : resA Γ fn s = some r) :
    ∃ v, (results fn a.tmps).run Γ.P w = .ok v w ∧ RV (Av O ρ s.m) ρ s.m w r v := by
  have one : ∀ q x, resOne Γ s q = some x → ∃ v, ((match q with | .tmp t => pure (a.tmps.getD t undef) | .cell b t => do loadVar t (← asAddr (a.tmps.getD b undef)) : Sem Value)).run Γ.P w = .ok v w ∧ RV (Av O ρ s.m) ρ s.m w x v := by
    intro q x hx
    cases q with
    | tmp t =>
      simp only [resOne, Option.some.injEq] at hx
      subst hx
      exact ⟨_, rfl, hr.tmp.2 t⟩
    | cell b t =>
      simp only [resOne] at hx
      obtain ⟨b', v, h1, h2, h3⟩ := load_sound ok hr.mem (hr.tmp.2 b) hx
      refine ⟨v, ?_, h3⟩
      simp only [h1, asAddr, Sem.run_bind, Sem.run_pure, Result.andThen_ok, h2]
  have many : ∀ (l : List ResultVar) (xs : List AV), mapO (resOne Γ s) l = some xs → ∃ vs : List Value, (l.mapM (fun | .tmp t => pure (a.tmps.getD t undef) | .cell b t => do loadVar t (← asAddr (a.tmps.getD b undef)) : ResultVar → Sem Value)).run Γ.P w = .ok vs w ∧
      vs.length = xs.length ∧ ∀ i (h : i < xs.length), RV (Av O ρ s.m) ρ s.m w (xs[i]'h) (vs.getD i undef) := by
    intro l
    induction l with
    | nil =>
      intro xs hx
      simp only [mapO, Option.some.injEq] at hx
      subst hx
      exact ⟨[], by simp, rfl, fun i hi => absurd hi (by simp)⟩
    | cons q l ih =>
      intro xs hx
      unfold mapO at hx
      split at hx
      · rename_i x hq
        split at hx
        · rename_i ys hys
          simp only [Option.some.injEq] at hx
          subst hx
          obtain ⟨v, h1, h2⟩ := one q x hq
          obtain ⟨vs, h3, h4, h5⟩ := ih ys hys
          refine ⟨v :: vs, ?_, by simp [h4], fun i hi => ?_⟩
          · simp only [List.mapM_cons, Sem.run_bind]
            rw [h1]
            simp only [Result.andThen_ok]
            rw [h3]
            rfl
          · match i with
            | 0 => exact h2
            | i + 1 => simpa using h5 i (by simpa using hi)
        · cases hx
      · cases hx
  have hres : ∀ xs, mapO (resOne Γ s) fn.results.toList = some xs → ∃ vs : List Value, (results fn a.tmps).run Γ.P w = .ok (if h : vs.toArray.size = 1 then vs.toArray[0] else .tuple vs.toArray) w ∧
      vs.length = xs.length ∧ ∀ i (h : i < xs.length), RV (Av O ρ s.m) ρ s.m w (xs[i]'h) (vs.getD i undef) := by
    intro xs hx
    obtain ⟨vs, h1, h2, h3⟩ := many _ _ hx
    refine ⟨vs, ?_, h2, h3⟩
    unfold results
    rw [Sem.run_bind, Array.mapM_eq_mapM_toList]
    simp only [Sem.run_map]
    refine (congrArg (fun z : Result (List Value) => (z.andThen fun a w' => Result.ok a.toArray w').andThen _) h1).trans ?_
    rfl
  unfold resA at h
  split at h
  · rename_i v hx
    simp only [Option.some.injEq] at h
    subst h
    obtain ⟨vs, h1, h2, h3⟩ := hres _ hx
    match vs, h2 with
    | [u], _ =>
      refine ⟨u, ?_, h3 0 (by simp)⟩
      rw [h1]; simp
  · rename_i vs' hne hx
    simp only [Option.some.injEq] at h
    subst h
    obtain ⟨vs, h1, h2, h3⟩ := hres _ hx
    refine ⟨.tuple vs.toArray, ?_, .tu vs' vs h2 h3⟩
    rw [h1]
    have : ¬ vs.toArray.size = 1 := by
      intro hh
      have : vs'.length = 1 := by rw [← h2]; simpa using hh
      obtain ⟨x, hx'⟩ := List.length_eq_one_iff.mp this
      exact hne x hx'
    rw [dif_neg this]
  · cases h

end

end Go.Am

namespace Go.Am

section
variable {Γ : Ctx}

theorem args_tr {A : Nat → Prop} {ρ : Nat → Nat × Nat} {m : Mem} {w : World} {av : List AV} {vs : List Value} (h : ArgsRV A ρ m w av vs) (k : Nat) :
    TR A ρ m w (av ++ List.replicate k undefA) { tmps := vs.toArray ++ Array.replicate k undef, defers := [] } := by
  refine ⟨by simp [h.1], fun i => ?_⟩
  by_cases h1 : i < av.length
  · rw [nth_get _ _ (by simp; omega), List.getElem_append_left h1]
    have : (vs.toArray ++ Array.replicate k undef).getD i undef = vs.getD i undef := by
      rw [Array.getD_eq_getD_getElem?, List.getD_eq_getElem?_getD, Array.getElem?_append_left (by simpa [h.1] using h1)]
      simp
    simp only [this]
    exact h.2 i h1
  · have e1 : nth (av ++ List.replicate k undefA) i = undefA := by
      by_cases h2 : i < (av ++ List.replicate k undefA).length
      · rw [nth_get _ _ h2, List.getElem_append_right (by omega), List.getElem_replicate]
      · exact nth_out _ _ (by omega)
    have e2 : (vs.toArray ++ Array.replicate k undef).getD i undef = undef := by
      rw [Array.getD_eq_getD_getElem?, Array.getElem?_append_right (by simp [h.1]; omega), Array.getElem?_replicate]
      split <;> rfl
    simp only [e1, e2]
    exact RV.undef _ _ _ _

theorem callF_sound (ok : Γ.Ok) {n : Nat} {ex : EX} (he : ExOk Γ n ex) : CFok Γ.P (callF Γ ex) := by
  intro g av m r m' h O ρ w vs hm hv
  unfold callF at h
  split at h
  · cases h
  · rename_i fn hfn
    obtain ⟨hf, hname, hcode⟩ := ok.fn g fn hfn
    split at h
    · cases h
    · rename_i c hb
      have hC := hcode c hb
      have key : ∀ o s, (o = .normal ∨ o = .ret) → ex g c ⟨av ++ List.replicate (fn.ntmps - av.length) undefA, m⟩ = some (o, s) → (match resA Γ fn s with | some r => some (r, s.m) | none => none) = some (r, m') →
          Calls Γ.P g vs.toArray w (Post O ρ m w r m') := by
        intro o s ho hex hres
        split at hres
        · rename_i r1 hr1
          simp only [Option.some.injEq, Prod.mk.injEq] at hres
          obtain ⟨rfl, rfl⟩ := hres
          refine calls_of_wp hf hb ?_
          have hsz : fn.ntmps - vs.toArray.size = fn.ntmps - av.length := by simp [hv.1]
          rw [hsz]
          refine he.wp g c _ o s hC hex O ρ w _ _ ⟨hm, args_tr hv _, rfl⟩ fun a' w' ρ' hr hl => ?_
          obtain ⟨v, h1, h2⟩ := res_sound ok.ty hr hr1
          rcases ho with rfl | rfl
          · exact ⟨hr.def0, v, h1, v, ρ', rfl, h2, hr.mem, hl⟩
          · exact ⟨hr.def0, v, h1, v, ρ', rfl, h2, hr.mem, hl⟩
        · cases hres
      split at h
      · rename_i s hex
        exact key .normal s (.inl rfl) hex h
      · rename_i s hex
        exact key .ret s (.inr rfl) hex h
      · cases h

theorem callF_in (ok : Γ.Ok) {ex : EX} : CFin Γ.P (callF Γ ex) := by
  intro g av m r h args w
  unfold callF at h
  split at h
  · cases h
  · rename_i fn hfn
    obtain ⟨hf, hname, _⟩ := ok.fn g fn hfn
    split at h
    · cases h
    · rename_i c hb
      have h1 : fn.name ≠ "runtime.NumGoroutine" := by simpa using hname
      simp [callFunc, hf, h1, hb]

theorem ex_sound (ok : Γ.Ok) : ∀ n, ExOk Γ n (ex Γ n)
  | 0 => ⟨fun f c s o s' _ h => by simp [ex] at h, fun f c s o s' _ h => by simp [ex] at h⟩
  | n + 1 => ⟨fun f c s o s' hc h => inner_sound ok.ty (callF_sound ok (ex_sound ok n)) (callF_in ok) (ex_sound ok n) f c s o s' hc h,
      fun f c s o s' hc h => inner_loop ok.ty (callF_sound ok (ex_sound ok n)) (callF_in ok) (ex_sound ok n) f c s o s' hc h⟩

theorem run_sound (ok : Γ.Ok) (n : Nat) : CFok Γ.P (run Γ n) := callF_sound ok (ex_sound ok n)

end

end Go.Am
