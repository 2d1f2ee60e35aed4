/-
  The program: Rebuild: a step of the Euclidean algorithm. Made by program. Conditions: none.
-/
import Derived.Test.YtgkjdfojogemhaaWsd
set_option maxRecDepth 100000
set_option maxHeartbeats 20000000
set_option linter.unusedSimpArgs false
set_option linter.unusedVariables false
namespace Go.Proofs.Ytgkjdfojogemhaa.W
open Go.Am
def stepsM (ops : Array Oper) : List (Nat × Bool) → Option (List (Bool × Oper))
  | [] => some []
  | (i, wk) :: l => match ops[i]? with
    | some o => match stepsM ops l with
      | some r => some ((wk, o) :: r)
      | none => none
    | none => none
def stepsMO (Γ : Ctx) (f : FuncId) (id : Nat) (ops : Array Oper) : Option (List (Bool × Oper)) := match Γ.rk f id with
  | some pi => stepsM ops pi
  | none => none
def runM (Γ : Ctx) (fk : Nat → Bool) (cf : CF) (ops : Array Oper) : List (Bool × Oper) → List Nat → St → Option St
  | [], _, s => some s
  | (wk, o) :: l, H, s => match protA wk o H s with
    | some H' => match stepOp Γ fk cf ops true wk o s with
      | some (r, m) => runM Γ fk cf ops l H' ⟨putA' s.t o.dst r, m⟩
      | none => none
    | none => none
theorem runM_D {Γ : Ctx} {fk : Nat → Bool} {cf : CF} {ops : Array Oper} : ∀ (pi : List (Nat × Bool)) (l : List (Bool × Oper)) (H : List Nat) (s : St), stepsM ops pi = some l → runM Γ fk cf ops l H s = runD Γ fk cf ops pi H s
  | [], l, H, s, h => by simp only [stepsM, Option.some.injEq] at h; subst h; rfl
  | (i, wk) :: pi, l, H, s, h => by
    unfold stepsM at h
    split at h
    · rename_i o ho
      split at h
      · rename_i r hr
        simp only [Option.some.injEq] at h
        subst h
        simp only [runM, runD, ho]
        cases protA wk o H s with
        | none => rfl
        | some H' =>
          simp only
          cases stepOp Γ fk cf ops true wk o s with
          | none => rfl
          | some p => exact runM_D pi r H' _ hr
      · cases h
    · cases h
theorem runM_le {Γ : Ctx} {fk : Nat → Bool} {cf cf' : CF} {ops : Array Oper} (h : LeCF cf cf') : ∀ (l : List (Bool × Oper)) (H : List Nat) (s s' : St), runM Γ fk cf ops l H s = some s' → runM Γ fk cf' ops l H s = some s'
  | [], _, _, _, hr => hr
  | (wk, o) :: l, H, s, s', hr => by
    unfold runM at hr ⊢
    split at hr
    · split at hr
      · rename_i hs
        rw [stepOp_le h hs]
        exact runM_le h l _ _ s' hr
      · cases hr
    · cases hr
def RSD (Γ : Ctx) (f : FuncId) (ops : Array Oper) (l : List (Bool × Oper)) (H : List Nat) (s : St) (K : St → Prop) : Prop := ∃ n s', runM Γ (Γ.fk f) (run Γ n) ops l H s = some s' ∧ K s'
def protH : List (Bool × Oper) → List Nat → St → Option (List Nat)
  | (wk, o) :: _, H, s => protA wk o H s
  | [], _, _ => none
theorem rsd_done {Γ : Ctx} {f : FuncId} {ops : Array Oper} {l : List (Bool × Oper)} {H : List Nat} {s : St} {K : St → Prop} (hl : l = []) (h : K s) : RSD Γ f ops l H s K := by subst hl; exact ⟨0, s, rfl, h⟩
theorem rsd_cons {Γ : Ctx} {f : FuncId} {ops : Array Oper} {l : List (Bool × Oper)} {H : List Nat} {s : St} {K : St → Prop} (H' : List Nat) (hp : protH l H s = some H') (h : RS Γ f ops true (l.take 1) s fun s1 => RSD Γ f ops (l.drop 1) H' s1 K) : RSD Γ f ops l H s K := by
  cases l with
  | nil => cases hp
  | cons p l =>
    obtain ⟨wk, o⟩ := p
    obtain ⟨n, s1, h1, n', s', h2, h3⟩ := h
    simp only [List.take_succ_cons, List.take_zero, runS] at h1
    simp only [protH] at hp
    split at h1
    · rename_i r m hs
      simp only [Option.some.injEq] at h1
      subst h1
      refine ⟨max n n', s', ?_, h3⟩
      simp only [runM, hp, stepOp_le (run_le Γ (Nat.le_max_left n n')) hs]
      exact runM_le (run_le Γ (Nat.le_max_right n n')) _ _ _ _ h2
    · cases h1
theorem ev_regM {Γ : Ctx} {f : FuncId} {ops : Array Oper} {s : St} {K : Out → St → Prop} {id : Nat} (hl : (stepsMO Γ f id ops).isSome = true) (h : RSD Γ f ops ((stepsMO Γ f id ops).getD []) [] s (K .normal)) : EvK Γ f (.region id ops true) s K := by
  obtain ⟨l, hl'⟩ := Option.isSome_iff_exists.mp hl
  rw [hl'] at h
  obtain ⟨n, s', h1, h2⟩ := h
  refine ⟨n + 1, .normal, s', ?_, h2⟩
  have hreg : region Γ (run Γ n) f id ops true s = some s' := by
    unfold region
    unfold stepsMO at hl'
    rw [if_pos rfl]
    split at hl'
    · rename_i pi hpi
      rw [hpi]
      simp only
      rw [← runM_D pi l [] s hl']
      exact h1
    · cases hl'
  show inner Γ (callF Γ (ex Γ n)) (ex Γ n) f (.region id ops true) s = _
  simp only [inner]
  have : region Γ (callF Γ (ex Γ n)) f id ops true s = some s' := hreg
  rw [this]
theorem load_int {m : Mem} {h g : Nat} {c0 c1 : AV} {st : Ow} {kid : Option (Nat × Nat)} (hr : m.b[h]? = some (.row [c0, c1] g st kid)) : loadA Try.cx 34 m (.ptr h g 0) = some (.ag [c0, c1]) := by
  have e : loadA Try.cx 34 m (.ptr h g 0) = match row? m h g with
    | some cs => (if (cut cs 0 2).length = 2 then some (.ag (cut cs 0 2)) else none)
    | none => none := by kernel_rfl
  rw [e, row_at hr]
  rfl
theorem store_row {m : Mem} {h g : Nat} {s t : Bool} {l p : List Nat} {x y : D} {c0 c1 c2 c3 : AV} (hx : Ws l x) (hy : Ws p y) (hr : m.b[h]? = some (.row [c0, c1, c2, c3] g .ow none)) : storeA Try.cx 79 m (.ptr h g 0) (.ag [boolA s, .d x, boolA t, .d y]) = some ⟨m.b.set h (.row [boolA s, .d x, boolA t, .d y] g .ow none), m.n⟩ := by
  have e : storeA Try.cx 79 m (.ptr h g 0) (.ag [boolA s, .d x, boolA t, .d y]) = if [boolA s, .d x, boolA t, .d y].length = 4 ∧ [boolA s, .d x, boolA t, .d y].all cellOk = true then (match own? m h g with
    | some (cs, kid) => if 0 + 4 ≤ cs.length then some (m.write h g kid (over cs 0 [boolA s, .d x, boolA t, .d y])) else none
    | none => none) else none := by kernel_rfl
  have ho : own? m h g = some ([c0, c1, c2, c3], none) := by simp [own?, hr]
  have hc : [boolA s, .d x, boolA t, .d y].all cellOk = true := by
    simp only [List.all_cons, List.all_nil, cellOk_ws hx, cellOk_ws hy, Bool.and_true, Bool.true_and]
    rfl
  rw [e, if_pos ⟨rfl, hc⟩, ho]
  rfl
theorem runs_some {Γ : Ctx} {g : FuncId} {fn : Func} {c : Code} {av : List AV} {m : Mem} {α : Type} (P : α → Prop) (r : AV) (mm : α → Mem) (hfn : Γ.fn g = some fn) (hb : fn.body = some c)
    (h : EvK Γ g c ⟨av ++ List.replicate (fn.ntmps - av.length) undefA, m⟩ fun o s => ∃ x, P x ∧ (o = .normal ∨ o = .ret) ∧ resA Γ fn s = some r ∧ s.m = mm x) : ∃ x, P x ∧ Runs1 Γ g av m r (mm x) := by
  obtain ⟨n, o, s, h1, x, hx, ho, h2, h3⟩ := h
  exact ⟨x, hx, runs_of hfn hb ⟨n, o, s, h1, ho, h2, h3⟩⟩
theorem rs_hand2 {Γ : Ctx} {f : FuncId} {ops : Array Oper} {d : Bool} {l : List (Bool × Oper)} {s : St} {L : St → Prop} {g : FuncId} {av : List AV} {r : AV} {m1 m2 : Mem} {s1 : St} (hp : prepM Γ ops d l s = some (2, g, av)) (hr : Runs1 Γ g av s.m r m2) (hl : (⟨m2.b.take s.m.b.length, m2.n⟩ : Mem) = m1)
    (hs : (⟨putA' s.t (dstS l) r, m1⟩ : St) = s1) (h : RS Γ f ops d (l.drop 1) s1 L) : RS Γ f ops d l s L := by
  refine rs_mem (k := 2) (m1 := m1) hp ?_ hs h
  obtain ⟨n, hn⟩ := hr
  refine ⟨n, ?_⟩
  show (match run Γ n g av s.m with | some (r, m') => some (r, ⟨m'.b.take s.m.b.length, m'.n⟩) | none => none) = some (r, m1)
  rw [hn]
  simp only
  rw [hl]
theorem pow_mono {i j : Nat} (h : i ≤ j) : 4294967296 ^ i ≤ 4294967296 ^ j := Nat.pow_le_pow_right (by decide) h
theorem len_neg {n : Int} {s t : Bool} {x y : D} {l p : List Nat} (h : Iv n s x l) (k : Iv (-n) t y p) : p.length ≤ l.length := iv_len k (by rw [Int.natAbs_neg]; exact iv_lt h)
theorem len_mul {n m : Int} {s t u : Bool} {x y z : D} {l p q : List Nat} (h : Iv n s x l) (k : Iv m t y p) (j : Iv (n * m) u z q) : q.length ≤ l.length + p.length := iv_len j (by
  rw [Int.natAbs_mul, Nat.pow_add]
  have h1 := iv_lt h
  have h2 := iv_lt k
  exact Nat.mul_lt_mul'' h1 h2)
theorem len_div {n m : Int} {s u : Bool} {x z : D} {l q : List Nat} (h : Iv n s x l) (j : Iv (n / m) u z q) : q.length ≤ l.length := iv_len j (Nat.lt_of_le_of_lt (div_natAbs_le n m) (iv_lt h))
theorem len_mod {n m : Int} {t u : Bool} {y z : D} {p q : List Nat} (k : Iv m t y p) (hm : m ≠ 0) (j : Iv (n % m) u z q) : q.length ≤ p.length := iv_len j (by
  have h1 := iv_lt k
  have h2 := Int.emod_nonneg n hm
  have h3 := Int.emod_lt n hm
  omega)
theorem len_sub {n m : Int} {s t u : Bool} {x y z : D} {l p q : List Nat} (h : Iv n s x l) (k : Iv m t y p) (j : Iv (n - m) u z q) : q.length ≤ max l.length p.length + 1 := iv_len j (by
  have h1 := iv_lt h
  have h2 := iv_lt k
  have h3 := pow_mono (Nat.le_max_left l.length p.length)
  have h4 := pow_mono (Nat.le_max_right l.length p.length)
  rw [Nat.pow_succ]
  omega)
theorem p_isub {n m : Int} {s t : Bool} {x y : D} {l p : List Nat} (h : Iv n s x l) (hl : l.length < 40000000) (k : Iv m t y p) (hm : p.length < 40000000) : ∃ res : Bool × D, (fun (r : Bool × D) => ∃ l, Iv (n - m) r.1 r.2 l) res ∧ Gets Try.cx 53 [.ag [boolA s, .d x], .ag [boolA t, .d y]] ((fun (r : Bool × D) => .ag [boolA r.1, .d r.2]) res) := by
  refine gets_some (fn := Try.f53) (fun (r : Bool × D) => ∃ l, Iv (n - m) r.1 r.2 l) (fun (r : Bool × D) => .ag [boolA r.1, .d r.2]) (by kernel_rfl) rfl ?_
  show EvK _ _ _ ⟨[.ag [boolA s, .d x], .ag [boolA t, .d y]] ++ us 7, ⟨[], 0⟩⟩ _
  refine ev_seq ?_
  refine ev_reg (by kernel_rfl) ?_
  refine rs_alm [(2, .ptr 0 0 0), (3, .ptr 1 1 0), (4, .ptr 2 2 0)] ⟨[.row [boolA s, .d x] 0 .ow none, .row [boolA t, .d y] 1 .ow none, .row [No, .d (.v (.slice none 0 0))] 2 .ow none], 3⟩ (fun cf => by kernel_rfl) ?_
  refine ev_seq ?_
  refine ev_reg (by kernel_rfl) ?_
  refine rs_up 2 [(5, .ag [boolA s, .d x]), (6, .ag [boolA t, .d y])] (fun cf => by kernel_rfl) ?_
  obtain ⟨⟨s1, x1⟩, ⟨l1, I1⟩, g1⟩ := p_neg k (by omega)
  have hl1 := len_neg k I1
  refine rs_cp 57 [.ag [boolA t, .d y]] false (some 7) (.ag [boolA s1, .d x1]) (by kernel_rfl) (g1) (by kernel_rfl) ?_
  obtain ⟨⟨s2, x2⟩, ⟨l2, I2⟩, g2⟩ := p_iadd h (by omega) I1 (by omega)
  refine rs_cp 45 [.ag [boolA s, .d x], .ag [boolA s1, .d x1]] false (some 8) (.ag [boolA s2, .d x2]) (by kernel_rfl) (g2) (by kernel_rfl) ?_
  refine rs_cu (fun m9 => storeA Try.cx 34 m9 (.ptr 2 2 0) (.ag [boolA s2, .d x2])) none ⟨[.row [boolA s, .d x] 0 .ow none, .row [boolA t, .d y] 1 .ow none, .row [boolA s2, .d x2] 2 .ow none], 3⟩ (fun cf => by kernel_rfl) (store_int I2.1 rfl) ?_
  refine rs_all (s1 := ⟨[.ag [boolA s, .d x], .ag [boolA t, .d y], .ptr 0 0 0, .ptr 1 1 0, .ptr 2 2 0, .ag [boolA s, .d x], .ag [boolA t, .d y], .ag [boolA s1, .d x1], .ag [boolA s2, .d x2]], ⟨[.row [boolA s, .d x] 0 .ow none, .row [boolA t, .d y] 1 .ow none, .row [boolA s2, .d x2] 2 .ow none], 3⟩⟩) (fun cf => by kernel_rfl) ?_
  refine ev_ret ?_
  exact ⟨(s2, x2), ⟨_, by have e := I2; rwa [← Int.sub_eq_add_neg] at e⟩, .inr rfl, .ag [boolA s2, .d x2], by kernel_rfl, by kernel_rfl⟩
theorem p_step {A B S T : Int} {sa sb ss st : Bool} {xa xb xs xt : D} {la lb ls lt : List Nat} {B0 B1 B2 B3 B4 B5 B6 B7 : Blk} {N : Nat} (IA : Iv A sa xa la) (IB : Iv B sb xb lb) (IS : Iv S ss xs ls) (IT : Iv T st xt lt) (hla : la.length ≤ 1) (hlb : lb.length = 1) (hB : B ≠ 0) (hls : ls.length ≤ 10000000) (hlt : lt.length ≤ 10000000) : ∃ z, (fun (z : (Bool × D) × (Bool × D) × (Bool × D)) => (∃ l, Iv (A % B) z.2.1.1 z.2.1.2 l) ∧ (∃ l, Iv (S - A / B * T) z.2.2.1 z.2.2.2 l)) z ∧ Runs1 Try.cx 55 [.ptr 8 8 0, .ptr 9 9 0] ⟨[B0, B1, B2, B3, B4, B5, B6, B7, .row [boolA sa, .d xa, boolA ss, .d xs] 8 .ow none, .row [boolA sb, .d xb, boolA st, .d xt] 9 .ow none], N⟩ (.tu []) ((fun (z : (Bool × D) × (Bool × D) × (Bool × D)) => ⟨[B0, B1, B2, B3, B4, B5, B6, B7, .row [boolA sb, .d xb, boolA st, .d xt] 8 .ow none, .row [boolA z.2.1.1, .d z.2.1.2, boolA z.2.2.1, .d z.2.2.2] 9 .ow none, .row [boolA z.1.1, .d z.1.2] N .ow none, .row [boolA z.2.1.1, .d z.2.1.2] (N + 1) .ow none], N + 2⟩) z) := by
  refine runs_some (fn := Try.f55) (fun (z : (Bool × D) × (Bool × D) × (Bool × D)) => (∃ l, Iv (A % B) z.2.1.1 z.2.1.2 l) ∧ (∃ l, Iv (S - A / B * T) z.2.2.1 z.2.2.2 l)) _ (fun (z : (Bool × D) × (Bool × D) × (Bool × D)) => ⟨[B0, B1, B2, B3, B4, B5, B6, B7, .row [boolA sb, .d xb, boolA st, .d xt] 8 .ow none, .row [boolA z.2.1.1, .d z.2.1.2, boolA z.2.2.1, .d z.2.2.2] 9 .ow none, .row [boolA z.1.1, .d z.1.2] N .ow none, .row [boolA z.2.1.1, .d z.2.1.2] (N + 1) .ow none], N + 2⟩) (by kernel_rfl) rfl ?_
  show EvK _ _ _ ⟨[.ptr 8 8 0, .ptr 9 9 0] ++ us 22, ⟨[B0, B1, B2, B3, B4, B5, B6, B7, .row [boolA sa, .d xa, boolA ss, .d xs] 8 .ow none, .row [boolA sb, .d xb, boolA st, .d xt] 9 .ow none], N⟩⟩ _
  refine ev_seq ?_
  refine ev_reg (by kernel_rfl) ?_
  refine rs_up 4 [(6, .ptr 8 8 0), (7, .ag [boolA sa, .d xa]), (8, .ptr 9 9 0), (9, .ag [boolA sb, .d xb])] (fun cf => by kernel_rfl) ?_
  obtain ⟨⟨⟨sq1, xq1⟩, ⟨sr1, xr1⟩⟩, ⟨⟨lq1, Iq1⟩, ⟨lr1, Ir1⟩⟩, gd1⟩ := p_divmod1 IA (by omega) IB (by omega) (by omega) (hB)
  have hlq1 := len_div IA Iq1
  have hlr1 := len_mod IB (hB) Ir1
  refine rs_cp 52 [.ag [boolA sa, .d xa], .ag [boolA sb, .d xb]] false (some 10) (.tu [.ag [boolA sq1, .d xq1], .ag [boolA sr1, .d xr1], J 0]) (by kernel_rfl) (gd1) (by kernel_rfl) ?_
  refine rs_upm 6 [(2, .ptr 10 N 0), (3, .ptr 11 (N + 1) 0), (5, .tu [.ag [boolA sq1, .d xq1], .ag [boolA sr1, .d xr1], J 0]), (11, .ag [boolA sq1, .d xq1]), (12, .ag [boolA sr1, .d xr1]), (13, J 0)] ⟨[B0, B1, B2, B3, B4, B5, B6, B7, .row [boolA sa, .d xa, boolA ss, .d xs] 8 .ow none, .row [boolA sb, .d xb, boolA st, .d xt] 9 .ow none, .row [No, .d (.v (.slice none 0 0))] N .ow none, .row [No, .d (.v (.slice none 0 0))] (N + 1) .ow none], (N + 2)⟩ (fun cf => by kernel_rfl) ?_
  refine rs_cu (fun m9 => storeA Try.cx 34 m9 (.ptr 10 N 0) (.ag [boolA sq1, .d xq1])) none ⟨[B0, B1, B2, B3, B4, B5, B6, B7, .row [boolA sa, .d xa, boolA ss, .d xs] 8 .ow none, .row [boolA sb, .d xb, boolA st, .d xt] 9 .ow none, .row [boolA sq1, .d xq1] N .ow none, .row [No, .d (.v (.slice none 0 0))] (N + 1) .ow none], (N + 2)⟩ (fun cf => by kernel_rfl) (store_int Iq1.1 rfl) ?_
  refine rs_cu (fun m9 => storeA Try.cx 34 m9 (.ptr 11 (N + 1) 0) (.ag [boolA sr1, .d xr1])) none ⟨[B0, B1, B2, B3, B4, B5, B6, B7, .row [boolA sa, .d xa, boolA ss, .d xs] 8 .ow none, .row [boolA sb, .d xb, boolA st, .d xt] 9 .ow none, .row [boolA sq1, .d xq1] N .ow none, .row [boolA sr1, .d xr1] (N + 1) .ow none], (N + 2)⟩ (fun cf => by kernel_rfl) (store_int Ir1.1 rfl) ?_
  refine rs_all (s1 := ⟨[.ptr 8 8 0, .ptr 9 9 0, .ptr 10 N 0, .ptr 11 (N + 1) 0, J 0, .tu [.ag [boolA sq1, .d xq1], .ag [boolA sr1, .d xr1], J 0], .ptr 8 8 0, .ag [boolA sa, .d xa], .ptr 9 9 0, .ag [boolA sb, .d xb], .tu [.ag [boolA sq1, .d xq1], .ag [boolA sr1, .d xr1], J 0], .ag [boolA sq1, .d xq1], .ag [boolA sr1, .d xr1], J 0] ++ us 10, ⟨[B0, B1, B2, B3, B4, B5, B6, B7, .row [boolA sa, .d xa, boolA ss, .d xs] 8 .ow none, .row [boolA sb, .d xb, boolA st, .d xt] 9 .ow none, .row [boolA sq1, .d xq1] N .ow none, .row [boolA sr1, .d xr1] (N + 1) .ow none], (N + 2)⟩⟩) (fun cf => by kernel_rfl) ?_
  refine ev_regM (by kernel_rfl) ?_
  refine rsd_cons [] (by kernel_rfl) ?_
  refine rs_alu [(14, .ag [boolA sb, .d xb, boolA st, .d xt])] (fun cf => by kernel_rfl) ?_
  refine rsd_cons [11] (by kernel_rfl) ?_
  refine rs_cv (fun m9 => loadA Try.cx 34 m9 (.ptr 11 (N + 1) 0)) (some 15) (.ag [boolA sr1, .d xr1]) (fun cf => by kernel_rfl) (load_int rfl) ?_
  refine rs_done (by kernel_rfl) ?_
  refine rsd_cons [11] (by kernel_rfl) ?_
  refine rs_alu [(16, .ptr 8 8 2)] (fun cf => by kernel_rfl) ?_
  refine rsd_cons [11] (by kernel_rfl) ?_
  refine rs_alu [(17, .ag [boolA ss, .d xs])] (fun cf => by kernel_rfl) ?_
  refine rsd_cons [11] (by kernel_rfl) ?_
  refine rs_cv (fun m9 => loadA Try.cx 34 m9 (.ptr 10 N 0)) (some 18) (.ag [boolA sq1, .d xq1]) (fun cf => by kernel_rfl) (load_int rfl) ?_
  refine rs_done (by kernel_rfl) ?_
  refine rsd_cons [11] (by kernel_rfl) ?_
  refine rs_alu [(19, .ptr 9 9 2)] (fun cf => by kernel_rfl) ?_
  refine rsd_cons [11] (by kernel_rfl) ?_
  refine rs_alu [(20, .ag [boolA st, .d xt])] (fun cf => by kernel_rfl) ?_
  refine rsd_cons [11] (by kernel_rfl) ?_
  obtain ⟨⟨s2, x2⟩, ⟨l2, I2⟩, g2⟩ := p_imul Iq1 (by omega) IT (by omega)
  have hl2 := len_mul Iq1 IT I2
  refine rs_cp 46 [.ag [boolA sq1, .d xq1], .ag [boolA st, .d xt]] false (some 21) (.ag [boolA s2, .d x2]) (by kernel_rfl) (g2) (by kernel_rfl) ?_
  refine rs_done (by kernel_rfl) ?_
  refine rsd_cons [11] (by kernel_rfl) ?_
  obtain ⟨⟨s3, x3⟩, ⟨l3, I3⟩, g3⟩ := p_isub IS (by omega) I2 (by omega)
  have hl3 := len_sub IS I2 I3
  refine rs_cp 53 [.ag [boolA ss, .d xs], .ag [boolA s2, .d x2]] false (some 22) (.ag [boolA s3, .d x3]) (by kernel_rfl) (g3) (by kernel_rfl) ?_
  refine rs_done (by kernel_rfl) ?_
  refine rsd_cons [11] (by kernel_rfl) ?_
  refine rs_alu [(23, .ag [boolA sr1, .d xr1, boolA s3, .d x3])] (fun cf => by kernel_rfl) ?_
  refine rsd_cons [11] (by kernel_rfl) ?_
  refine rs_cu (fun m9 => storeA Try.cx 79 m9 (.ptr 8 8 0) (.ag [boolA sb, .d xb, boolA st, .d xt])) none ⟨[B0, B1, B2, B3, B4, B5, B6, B7, .row [boolA sb, .d xb, boolA st, .d xt] 8 .ow none, .row [boolA sb, .d xb, boolA st, .d xt] 9 .ow none, .row [boolA sq1, .d xq1] N .ow none, .row [boolA sr1, .d xr1] (N + 1) .ow none], (N + 2)⟩ (fun cf => by kernel_rfl) (store_row IB.1 IT.1 rfl) ?_
  refine rs_done (by kernel_rfl) ?_
  refine rsd_cons [11] (by kernel_rfl) ?_
  refine rs_cu (fun m9 => storeA Try.cx 79 m9 (.ptr 9 9 0) (.ag [boolA sr1, .d xr1, boolA s3, .d x3])) none ⟨[B0, B1, B2, B3, B4, B5, B6, B7, .row [boolA sb, .d xb, boolA st, .d xt] 8 .ow none, .row [boolA sr1, .d xr1, boolA s3, .d x3] 9 .ow none, .row [boolA sq1, .d xq1] N .ow none, .row [boolA sr1, .d xr1] (N + 1) .ow none], (N + 2)⟩ (fun cf => by kernel_rfl) (store_row Ir1.1 I3.1 rfl) ?_
  refine rs_all (s1 := ⟨[.ptr 8 8 0, .ptr 9 9 0, .ptr 10 N 0, .ptr 11 (N + 1) 0, J 0, .tu [.ag [boolA sq1, .d xq1], .ag [boolA sr1, .d xr1], J 0], .ptr 8 8 0, .ag [boolA sa, .d xa], .ptr 9 9 0, .ag [boolA sb, .d xb], .tu [.ag [boolA sq1, .d xq1], .ag [boolA sr1, .d xr1], J 0], .ag [boolA sq1, .d xq1], .ag [boolA sr1, .d xr1], J 0, .ag [boolA sb, .d xb, boolA st, .d xt], .ag [boolA sr1, .d xr1], .ptr 8 8 2, .ag [boolA ss, .d xs], .ag [boolA sq1, .d xq1], .ptr 9 9 2, .ag [boolA st, .d xt], .ag [boolA s2, .d x2], .ag [boolA s3, .d x3], .ag [boolA sr1, .d xr1, boolA s3, .d x3]], ⟨[B0, B1, B2, B3, B4, B5, B6, B7, .row [boolA sb, .d xb, boolA st, .d xt] 8 .ow none, .row [boolA sr1, .d xr1, boolA s3, .d x3] 9 .ow none, .row [boolA sq1, .d xq1] N .ow none, .row [boolA sr1, .d xr1] (N + 1) .ow none], (N + 2)⟩⟩) (fun cf => by kernel_rfl) ?_
  refine rsd_done (by kernel_rfl) ?_
  exact ⟨((sq1, xq1), (sr1, xr1), (s3, x3)), ⟨⟨_, Ir1⟩, ⟨_, I3⟩⟩, .inl rfl, by kernel_rfl, rfl⟩
end Go.Proofs.Ytgkjdfojogemhaa.W
