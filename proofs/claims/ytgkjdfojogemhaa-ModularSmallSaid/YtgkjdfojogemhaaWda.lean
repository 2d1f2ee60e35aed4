/-
  Words: lists of words in registers and in memory. Made by program. Conditions: none.
-/
import Derived.Test.YtgkjdfojogemhaaCtx
set_option maxRecDepth 100000
set_option maxHeartbeats 20000000
set_option linter.unusedSimpArgs false
set_option linter.unusedVariables false
namespace Go.Proofs.Ytgkjdfojogemhaa.W
open Go.Am
def lft : Code → Code
  | .seq a _ => a
  | .cond _ a _ => a
  | .block _ a => a
  | .loop a => a
  | .scope a => a
  | c => c
def rgt : Code → Code
  | .seq _ b => b
  | .cond _ _ b => b
  | c => c
def sets : List AV → List (Nat × AV) → List AV
  | t, [] => t
  | t, (i, v) :: u => sets (t.set i v) u
def hmatch (dst : Option Tmp) : Option (AV × Mem) → Option (Option Tmp × AV × Mem)
  | some (r, m) => some (dst, r, m)
  | none => none
def hstep (Γ : Ctx) (fk : Nat → Bool) (cf : CF) (ops : Array Oper) (d : Bool) : List (Bool × Oper) → St → Option (Option Tmp × AV × Mem)
  | (wk, o) :: _, s => match stepOp Γ fk cf ops d wk o s with
    | some (r, m) => some (o.dst, r, m)
    | none => none
  | [], _ => none
section
variable {Γ : Ctx} {f : FuncId} {ops : Array Oper} {d : Bool} {l : List (Bool × Oper)} {t : List AV} {m : Mem} {L : St → Prop}
theorem rs_up (k : Nat) (u : List (Nat × AV)) (h1 : ∀ cf, runS Γ (Γ.fk f) cf ops d (l.take k) ⟨t, m⟩ = some ⟨sets t u, m⟩) (h2 : RS Γ f ops d (l.drop k) ⟨sets t u, m⟩ L) : RS Γ f ops d l ⟨t, m⟩ L := rs_take k h1 h2
theorem rs_upm (k : Nat) (u : List (Nat × AV)) (m1 : Mem) (h1 : ∀ cf, runS Γ (Γ.fk f) cf ops d (l.take k) ⟨t, m⟩ = some ⟨sets t u, m1⟩) (h2 : RS Γ f ops d (l.drop k) ⟨sets t u, m1⟩ L) : RS Γ f ops d l ⟨t, m⟩ L := rs_take k h1 h2
theorem rs_alu (u : List (Nat × AV)) (h1 : ∀ cf, runS Γ (Γ.fk f) cf ops d l ⟨t, m⟩ = some ⟨sets t u, m⟩) (h2 : L ⟨sets t u, m⟩) : RS Γ f ops d l ⟨t, m⟩ L := rs_all h1 h2
theorem rs_alm (u : List (Nat × AV)) (m1 : Mem) (h1 : ∀ cf, runS Γ (Γ.fk f) cf ops d l ⟨t, m⟩ = some ⟨sets t u, m1⟩) (h2 : L ⟨sets t u, m1⟩) : RS Γ f ops d l ⟨t, m⟩ L := rs_all h1 h2
theorem rs_hd {dst : Option Tmp} {v : AV} {m1 : Mem} (h : ∀ cf, hstep Γ (Γ.fk f) cf ops d l ⟨t, m⟩ = some (dst, v, m1)) (h2 : RS Γ f ops d (l.drop 1) ⟨putA' t dst v, m1⟩ L) : RS Γ f ops d l ⟨t, m⟩ L := by
  refine rs_take 1 (fun cf => ?_) h2
  have h := h cf
  cases l with
  | nil => cases h
  | cons p l =>
    obtain ⟨wk, o⟩ := p
    simp only [hstep] at h
    simp only [List.take_succ_cons, List.take_zero, runS]
    cases hs : stepOp Γ (Γ.fk f) cf ops d wk o ⟨t, m⟩ with
    | none => rw [hs] at h; cases h
    | some q =>
      rw [hs] at h
      obtain ⟨r, m2⟩ := q
      simp only [Option.some.injEq, Prod.mk.injEq] at h
      obtain ⟨rfl, rfl, rfl⟩ := h
      rfl
theorem rs_cv (H : Mem → Option AV) (dst : Option Tmp) (v : AV) (h : ∀ cf, hstep Γ (Γ.fk f) cf ops d l ⟨t, m⟩ = hmatch dst ((H m).map fun r => (r, m))) (e : H m = some v) (h2 : RS Γ f ops d (l.drop 1) ⟨putA' t dst v, m⟩ L) : RS Γ f ops d l ⟨t, m⟩ L :=
  rs_hd (fun cf => by rw [h, e]; rfl) h2
theorem rs_cl (H : Mem → Option Nat) (dst : Option Tmp) (n : Nat) (h : ∀ cf, hstep Γ (Γ.fk f) cf ops d l ⟨t, m⟩ = hmatch dst ((H m).map fun (r : Nat) => (intA .i64 (r : Int), m))) (e : H m = some n) (h2 : RS Γ f ops d (l.drop 1) ⟨putA' t dst (J (n : Int)), m⟩ L) : RS Γ f ops d l ⟨t, m⟩ L :=
  rs_hd (fun cf => by rw [h, e]; rfl) h2
theorem rs_cu (H : Mem → Option Mem) (dst : Option Tmp) (m1 : Mem) (h : ∀ cf, hstep Γ (Γ.fk f) cf ops d l ⟨t, m⟩ = hmatch dst ((H m).map fun m8 => (U, m8))) (e : H m = some m1) (h2 : RS Γ f ops d (l.drop 1) ⟨putA' t dst U, m1⟩ L) : RS Γ f ops d l ⟨t, m⟩ L :=
  rs_hd (fun cf => by rw [h, e]; rfl) h2
theorem rs_co (H : Mem → Option (AV × Mem)) (dst : Option Tmp) (v : AV) (m1 : Mem) (h : ∀ cf, hstep Γ (Γ.fk f) cf ops d l ⟨t, m⟩ = hmatch dst (H m)) (e : H m = some (v, m1)) (h2 : RS Γ f ops d (l.drop 1) ⟨putA' t dst v, m1⟩ L) : RS Γ f ops d l ⟨t, m⟩ L :=
  rs_hd (fun cf => by rw [h, e]; rfl) h2
def prepD (Γ : Ctx) (ops : Array Oper) (d : Bool) (l : List (Bool × Oper)) (s : St) : Option (FuncId × List AV × Bool) × Option Tmp := (prep Γ ops d l s, dstS l)
theorem rs_cp (g : FuncId) (bs : List AV) (ow : Bool) (dst : Option Tmp) (r : AV) (hp : prepD Γ ops d l ⟨t, m⟩ = (some (g, bs, ow), dst)) (hg : Gets Γ g bs r) (hn : (ow && !noCells r) = false) (h : RS Γ f ops d (l.drop 1) ⟨putA' t dst r, m⟩ L) : RS Γ f ops d l ⟨t, m⟩ L := by
  simp only [prepD, Prod.mk.injEq] at hp
  exact rs_call hp.1 hg hn (by rw [hp.2]; exact h)
end
theorem bne_of {a b : Bool} (h : (a == b) = false) : a ≠ b := fun e => by rw [e] at h; simp at h
theorem beq_yes {a b : Int} (h : (a == b) = true) : a = b := eq_of_beq h
theorem beq_no {a b : Int} (h : (a == b) = false) : a ≠ b := by simpa using h
theorem bne_yes {a b : Int} (h : (a != b) = true) : a ≠ b := by simpa using h
theorem bne_no {a b : Int} (h : (a != b) = false) : a = b := by simpa using h
theorem wrapU {n : Nat} (h : n < 18446744073709551616) : IntKind.wrap .u64 (n : Int) = (n : Int) := by
  unfold IntKind.wrap
  simp only [IntKind.bits, IntKind.signed]
  simp
  omega
theorem wrapW {n : Nat} (h : n < 4294967296) : IntKind.wrap .u32 (n : Int) = (n : Int) := by
  unfold IntKind.wrap
  simp only [IntKind.bits, IntKind.signed]
  simp
  omega
theorem wrapM {n : Nat} : IntKind.wrap .u32 (n : Int) = ((n % 4294967296 : Nat) : Int) := by
  unfold IntKind.wrap
  simp only [IntKind.bits, IntKind.signed]
  simp
theorem wrapI {n : Int} (h1 : -9223372036854775808 ≤ n) (h2 : n ≤ 9223372036854775807) : IntKind.wrap .i64 n = n := by
  unfold IntKind.wrap
  simp only [IntKind.bits, IntKind.signed]
  simp
  omega
theorem wrapIn {n : Nat} (h : n < 9223372036854775808) : IntKind.wrap .i64 (n : Int) = (n : Int) := wrapI (by omega) (by omega)
theorem addU {a b : Int} {A B : Nat} (ha : a = A) (hb : b = B) (h : A + B < 18446744073709551616) : IntKind.wrap .u64 (a + b) = ((A + B : Nat) : Int) := by subst ha hb; rw [← Int.natCast_add]; exact wrapU h
theorem mulU {a b : Int} {A B : Nat} (ha : a = A) (hb : b = B) (h : A * B < 18446744073709551616) : IntKind.wrap .u64 (a * b) = ((A * B : Nat) : Int) := by subst ha hb; rw [← Int.natCast_mul]; exact wrapU h
theorem quoU {a b : Int} {A B : Nat} (ha : a = A) (hb : b = B) (h : A < 18446744073709551616) : IntKind.wrap .u64 (Int.tdiv a b) = ((A / B : Nat) : Int) := by
  subst ha hb
  have h1 : A / B ≤ A := Nat.div_le_self A B
  rw [← Int.ofNat_tdiv]
  exact wrapU (by omega)
theorem addI {a b : Int} {A B : Nat} (ha : a = A) (hb : b = B) (h : A + B < 9223372036854775808) : IntKind.wrap .i64 (a + b) = ((A + B : Nat) : Int) := by subst ha hb; rw [← Int.natCast_add]; exact wrapIn h
theorem mulI {a b : Int} {A B : Nat} (ha : a = A) (hb : b = B) (h : A * B < 9223372036854775808) : IntKind.wrap .i64 (a * b) = ((A * B : Nat) : Int) := by subst ha hb; rw [← Int.natCast_mul]; exact wrapIn h
theorem subI {a b : Int} {A B : Nat} (ha : a = A) (hb : b = B) (h : B ≤ A ∧ A < 9223372036854775808) : IntKind.wrap .i64 (a - b) = ((A - B : Nat) : Int) := by subst ha hb; rw [← Int.natCast_sub h.1]; exact wrapIn (by omega)
theorem quoI {a b : Int} {A B : Nat} (ha : a = A) (hb : b = B) (h : A < 9223372036854775808) : IntKind.wrap .i64 (Int.tdiv a b) = ((A / B : Nat) : Int) := by
  subst ha hb
  have h1 : A / B ≤ A := Nat.div_le_self A B
  rw [← Int.ofNat_tdiv]
  exact wrapIn (by omega)
theorem remN {a b : Int} {A B : Nat} (ha : a = A) (hb : b = B) : Int.tmod a b = ((A % B : Nat) : Int) := by subst ha hb; exact (Int.ofNat_tmod A B).symm
theorem remU_at {m : Mem} {t : TypeId} {a p : Int} {A P : Nat} (ha : a = A) (hp : p = P) (h : P ≠ 0) : binA Try.cx m .rem t (intA .u64 a) (intA .u64 p) = some (intA .u64 ((A % P : Nat) : Int)) := by
  subst ha hp
  show (if (P : Int) = 0 then none else some (intA .u64 ((A : Int).tmod P))) = _
  rw [if_neg (by omega), Int.ofNat_tmod]
theorem quoU_at {m : Mem} {t : TypeId} {a p : Int} {A P : Nat} (ha : a = A) (hp : p = P) (h : P ≠ 0 ∧ A < 18446744073709551616) : binA Try.cx m .quo t (intA .u64 a) (intA .u64 p) = some (intA .u64 ((A / P : Nat) : Int)) := by
  have e := quoU (a := a) (b := p) ha hp h.2
  subst ha hp
  show (if (P : Int) = 0 then none else some (intA .u64 (IntKind.wrap .u64 ((A : Int).tdiv P)))) = _
  rw [if_neg (by omega), e]
theorem gets_some {Γ : Ctx} {g : FuncId} {fn : Func} {c : Code} {bs : List AV} {α : Type} (P : α → Prop) (r : α → AV) (hfn : Γ.fn g = some fn) (hb : fn.body = some c)
    (h : EvK Γ g c ⟨bs ++ List.replicate (fn.ntmps - bs.length) undefA, ⟨[], 0⟩⟩ fun o s => ∃ x, P x ∧ (o = .normal ∨ o = .ret) ∧ ∃ r0, resA Γ fn s = some r0 ∧ snapR s.m r0 = some (r x)) : ∃ x, P x ∧ Gets Γ g bs (r x) := by
  obtain ⟨n, o, s, h1, x, hx, ho, r0, h2, h3⟩ := h
  exact ⟨x, hx, gets_of hfn hb ⟨n, o, s, h1, ho, r0, h2, h3⟩⟩
def wd (l : List Nat) : List D := l.map fun (n : Nat) => .v (.int .u32 (n : Int))
def wa (l : List Nat) : List AV := l.map fun (n : Nat) => intA .u32 (n : Int)
def Ws (l : List Nat) (x : D) : Prop := (∃ b, x = .sl b l.length (wd l)) ∨ (l = [] ∧ x = .v (.slice none 0 0))
theorem ws_nil : Ws [] (.v (.slice none 0 0)) := .inr ⟨rfl, rfl⟩
theorem ws_sl (b : Bool) (l : List Nat) : Ws l (.sl b l.length (wd l)) := .inl ⟨b, rfl⟩
theorem len_ws {m : Mem} {l : List Nat} {x : D} (h : Ws l x) : lenA Try.cx 32 m (.d x) = some l.length := by
  rcases h with ⟨b, rfl⟩ | ⟨rfl, rfl⟩ <;> kernel_rfl
theorem wd_len (l : List Nat) : (wd l).length = l.length := by simp [wd]
theorem wa_len (l : List Nat) : (wa l).length = l.length := by simp [wa]
theorem natJ (k : Nat) : natOf (J (k : Int)) = some k := by simp [natOf, intA, J]
theorem idx_ws {m : Mem} {l : List Nat} {x : D} {i : Int} {k : Nat} (h : Ws l x) (hi : i = k) (hk : k < l.length) : indexAddrA Try.cx 32 m (.d x) (J i) = some (.rp [.v (.int .u32 (l.getD k 0 : Nat))]) := by
  subst hi
  rcases h with ⟨b, rfl⟩ | ⟨rfl, rfl⟩
  · have e : ∀ y, indexAddrA Try.cx 32 m (.d (.sl b l.length (wd l))) y = match natOf y with
      | none => none
      | some k => if k < l.length ∧ (wd l).length = l.length * 1 then some (.rp (((wd l).drop (k * 1)).take 1)) else none := fun y => by kernel_rfl
    rw [e, natJ]
    simp only [wd_len, Nat.mul_one, hk, and_self, if_true]
    have h2 : ((wd l).drop k).take 1 = [.v (.int .u32 (l.getD k 0 : Nat))] := by
      rw [List.take_one, List.head?_drop]
      simp only [wd, List.getElem?_map, List.getD_eq_getElem?_getD, List.getElem?_eq_getElem hk]
      rfl
    rw [h2]
  · exact absurd hk (Nat.not_lt_zero _)
theorem cut_ws {m : Mem} {l : List Nat} {x : D} {i : Int} {k : Nat} (h : Ws l x) (hi : i = k) (hk : k ≤ l.length) : ∃ y, Ws (l.take k) y ∧ sliceA Try.cx 32 m (.d x) none (some (J i)) none = some (.d y) := by
  subst hi
  have hb : ∀ most, boundA (J (k : Int)) most = if k ≤ most then some k else none := fun most => by simp [boundA, intA, J]
  rcases h with ⟨b, rfl⟩ | ⟨rfl, rfl⟩
  · have e : ∀ y, sliceA Try.cx 32 m (.d (.sl b l.length (wd l))) none (some y) none = if (wd l).length = l.length * 1 then (match bounds l.length l.length (if b then some l.length else none) none (some y) none with
        | some (lo, r, c) => if lo = r then some (.d (.sl (c == some r) 0 [])) else some (.d (.sl (c == some r) (r - lo) (((wd l).drop (lo * 1)).take ((r - lo) * 1))))
        | none => none) else none := fun y => by kernel_rfl
    rw [e]
    simp only [wd_len, Nat.mul_one, if_true, bounds, hb, hk]
    by_cases h0 : 0 = k
    · rw [if_pos h0]
      subst h0
      exact ⟨_, ws_sl _ [], rfl⟩
    · rw [if_neg h0]
      refine ⟨_, ?_, rfl⟩
      have e1 : (wd l).take k = wd (l.take k) := by simp [wd, List.map_take]
      have e2 : k = (l.take k).length := by simp [Nat.min_eq_left hk]
      simp only [Nat.sub_zero, List.drop_zero, e1]
      conv => arg 2; arg 2; rw [e2]
      exact .inl ⟨_, rfl⟩
  · have hk0 : k = 0 := by simpa using hk
    subst hk0
    refine ⟨_, ws_nil, ?_⟩
    kernel_rfl
theorem row_at {m : Mem} {h g : Nat} {cs : List AV} {s : Ow} {kid : Option (Nat × Nat)} (hr : m.b[h]? = some (.row cs g s kid)) : row? m h g = some cs := by simp [row?, hr]
theorem load_own {m : Mem} {h g k : Nat} {l : List Nat} (hr : row? m h g = some (wa l)) (hk : k < l.length) : loadA Try.cx 22 m (.ptr h g k) = some (intA .u32 ((l.getD k 0 : Nat) : Int)) := by
  have e : loadA Try.cx 22 m (.ptr h g k) = match row? m h g with
    | some cs => asVal Try.ti22 (cut cs k 1)
    | none => none := by kernel_rfl
  rw [e, hr]
  have h2 : cut (wa l) k 1 = [intA .u32 ((l.getD k 0 : Nat) : Int)] := by
    rw [cut, List.take_one, List.head?_drop]
    simp only [wa, List.getElem?_map, List.getD_eq_getElem?_getD, List.getElem?_eq_getElem hk]
    rfl
  simp only [h2]
  rfl
theorem over_set : ∀ (cs : List AV) (k : Nat) (x : AV), k < cs.length → over cs k [x] = cs.set k x
  | [], k, x, h => absurd h (Nat.not_lt_zero _)
  | c :: cs, 0, x, _ => rfl
  | c :: cs, k + 1, x, h => by simp only [over, List.set_cons_succ]; rw [over_set cs k x (Nat.lt_of_succ_lt_succ h)]
theorem store_own {m : Mem} {h g k : Nat} {l : List Nat} {v : Nat} (hr : m.b[h]? = some (.row (wa l) g .ow none)) (hk : k < l.length) : storeA Try.cx 22 m (.ptr h g k) (intA .u32 (v : Int)) = some ⟨m.b.set h (.row (wa (l.set k v)) g .ow none), m.n⟩ := by
  have e : storeA Try.cx 22 m (.ptr h g k) (intA .u32 (v : Int)) = match own? m h g with
    | some (cs, kid) => if k + 1 ≤ cs.length then some (m.write h g kid (over cs k [intA .u32 (v : Int)])) else none
    | none => none := by kernel_rfl
  have ho : own? m h g = some (wa l, none) := by simp [own?, hr]
  rw [e, ho]
  have h1 : k + 1 ≤ (wa l).length := by rw [wa_len]; omega
  simp only [h1, if_true, Mem.write, kill]
  rw [over_set _ _ _ (by rw [wa_len]; exact hk)]
  have h2 : (wa l).set k (intA .u32 (v : Int)) = wa (l.set k v) := by simp [wa, List.map_set]
  rw [h2]
theorem snap_wa (m : Mem) (k : Nat) : ∀ l, mapO (snapD m (k + 1)) (wa l) = some (wd l)
  | [] => rfl
  | n :: l => by
    have h := snap_wa m k l
    show mapO _ (intA .u32 (n : Int) :: wa l) = _
    have e : ∀ x : Int, snapD m (k + 1) (intA .u32 x) = some (.v (.int .u32 x)) := fun _ => rfl
    simp only [mapO, e, h]
    rfl
theorem snap_own {m : Mem} {h g n : Nat} {cap : Option Nat} {l : List Nat} (hr : row? m h g = some (wa l)) (hn : n = l.length) : snapA m (.own h g 0 n 1 cap) = some (.d (.sl false l.length (wd l))) := by
  subst hn
  have ht : cut (wa l) 0 (l.length * 1) = wa l := List.take_of_length_le (by simp [wa_len])
  have h1 : 0 + l.length * 1 ≤ (wa l).length := by rw [wa_len]; omega
  have e : snapD m depth (.own h g 0 l.length 1 cap) = some (.sl false l.length (wd l)) := by
    show snapD _ 8 _ = _
    unfold snapD
    simp only [hr, h1, if_true, ht, snap_wa, Option.map_some]
  show (snapD m depth (.own h g 0 l.length 1 cap)).map AV.d = _
  rw [e]
  rfl
theorem mapO_one {α β : Type} {f : α → Option β} {x : α} {y : β} (h : f x = some y) : mapO f [x] = some [y] := by simp [mapO, h]
def argsA (l : List (Bool × Oper)) (s : St) : Option (List AV) := match l with
  | (_, o) :: _ => (calleeOf s.t o).map (·.2)
  | [] => none
theorem rs_frz {Γ : Ctx} {f : FuncId} {ops : Array Oper} {d : Bool} {l : List (Bool × Oper)} {s : St} {L : St → Prop} {g : FuncId} {bs : List AV} {ow : Bool} {r : AV} (hp : prep Γ ops d l s = some (g, bs, ow)) (hg : Gets Γ g bs r)
    (h : ∀ m1, Ext s.m m1 → (∀ av, argsA l s = some av → m1 = av.foldl frzA s.m ∨ m1 = s.m) → RS Γ f ops d (l.drop 1) ⟨putA' s.t (dstS l) r, m1⟩ L) : RS Γ f ops d l s L := by
  cases l with
  | nil => cases hp
  | cons p l =>
    obtain ⟨wk, o⟩ := p
    obtain ⟨n, r0, m', h1, h2⟩ := hg
    simp only [prep] at hp
    split at hp
    · rename_i hw
      cases hc : isCall o with
      | false => rw [hc] at hp; cases hp
      | true =>
        rw [hc] at hp
        simp only [cond_true] at hp
        split at hp
        · rename_i g' av hcal
          have hfz : ∀ g' : FuncId, mapO (snapA s.m) av = some bs → Ext s.m (if av.any owns && !noCells r then av.foldl frzA s.m else s.m) := by
            intro g' hb
            refine (pure_fz (cf := fun _ _ _ => some (r0, m')) (may := true) (g := g') (av := av) (r := r) ?_).ext
            unfold pureCall
            rw [hb]
            simp only [h2]
            split <;> simp
          have key : ∃ m1, (mapO (snapA s.m) av = some bs → Ext s.m m1) ∧ (m1 = av.foldl frzA s.m ∨ m1 = s.m) ∧ ∀ cf : CF, cf g bs ⟨[], 0⟩ = some (r0, m') → stepOp Γ (Γ.fk f) cf ops d wk o s = some (r, m1) := by
            refine ⟨if av.any owns && !noCells r then av.foldl frzA s.m else s.m, hfz g', by split <;> first | exact .inl rfl | exact .inr rfl, fun cf hcf => ?_⟩
            have hpure : ∀ g' , mapO (snapA s.m) av = some bs → g' = g → pureCall cf true g' av s.m = some (r, if av.any owns && !noCells r then av.foldl frzA s.m else s.m) := by
              intro g' hb he
              subst he
              unfold pureCall
              rw [hb]
              simp only [hcf, h2]
              split <;> simp
            unfold stepOp
            rw [hw]
            simp only [hc, if_true, hcal]
            cases d with
            | true =>
              cases wk with
              | false =>
                simp only [Bool.not_false, Bool.and_self, cond_true] at hp ⊢
                cases hf : isFresh Γ o with
                | true => rw [hf] at hp; cases hp
                | false =>
                  rw [hf] at hp
                  simp only [Bool.not_false, cond_true] at hp
                  simp only [Bool.false_eq_true, if_false]
                  split at hp
                  · rename_i hbs
                    simp only [Option.some.injEq, Prod.mk.injEq] at hp
                    obtain ⟨rfl, rfl, rfl⟩ := hp
                    exact hpure _ hbs rfl
                  · cases hp
              | true =>
                simp only [Bool.not_true, Bool.and_false, cond_false] at hp ⊢
                unfold callA
                split at hp
                · rename_i hmd
                  rw [hmd]
                  cases hh : av.any hnd with
                  | true => rw [hh] at hp; cases hp
                  | false =>
                    rw [hh] at hp
                    simp only [Bool.not_false, cond_true] at hp
                    simp only [Bool.false_eq_true, if_false]
                    split at hp
                    · rename_i hbs
                      simp only [Option.some.injEq, Prod.mk.injEq] at hp
                      obtain ⟨rfl, rfl, rfl⟩ := hp
                      exact hpure _ hbs rfl
                    · cases hp
                · cases hp
            | false =>
              simp only [Bool.false_and, cond_false] at hp ⊢
              unfold callA
              split at hp
              · rename_i hmd
                rw [hmd]
                cases hh : av.any hnd with
                | true => rw [hh] at hp; cases hp
                | false =>
                  rw [hh] at hp
                  simp only [Bool.not_false, cond_true] at hp
                  simp only [Bool.false_eq_true, if_false]
                  split at hp
                  · rename_i hbs
                    simp only [Option.some.injEq, Prod.mk.injEq] at hp
                    obtain ⟨rfl, rfl, rfl⟩ := hp
                    exact hpure _ hbs rfl
                  · cases hp
              · cases hp
          obtain ⟨m1, hext, hav, hm1⟩ := key
          have hbs0 : mapO (snapA s.m) av = some bs := by
            cases d with
            | true =>
              cases wk with
              | false =>
                simp only [Bool.not_false, Bool.and_self, cond_true] at hp
                cases hf : isFresh Γ o with
                | true => rw [hf] at hp; cases hp
                | false =>
                  rw [hf] at hp
                  simp only [Bool.not_false, cond_true] at hp
                  split at hp
                  · rename_i hbs
                    simp only [Option.some.injEq, Prod.mk.injEq] at hp
                    rw [hbs, hp.2.1]
                  · cases hp
              | true =>
                simp only [Bool.not_true, Bool.and_false, cond_false] at hp
                split at hp
                · cases hh : av.any hnd with
                  | true => rw [hh] at hp; cases hp
                  | false =>
                    rw [hh] at hp
                    simp only [Bool.not_false, cond_true] at hp
                    split at hp
                    · rename_i hbs
                      simp only [Option.some.injEq, Prod.mk.injEq] at hp
                      rw [hbs, hp.2.1]
                    · cases hp
                · cases hp
            | false =>
              simp only [Bool.false_and, cond_false] at hp
              split at hp
              · cases hh : av.any hnd with
                | true => rw [hh] at hp; cases hp
                | false =>
                  rw [hh] at hp
                  simp only [Bool.not_false, cond_true] at hp
                  split at hp
                  · rename_i hbs
                    simp only [Option.some.injEq, Prod.mk.injEq] at hp
                    rw [hbs, hp.2.1]
                  · cases hp
              · cases hp
          obtain ⟨n', s', h3, h4⟩ := h m1 (hext hbs0) fun av2 h2 => by
            simp only [argsA, hcal, Option.map_some, Option.some.injEq] at h2
            rw [← h2]; exact hav
          have e1 := run_le Γ (Nat.le_max_left n n') _ _ _ _ h1
          refine ⟨max n n', s', ?_, h4⟩
          simp only [runS, hm1 _ e1]
          exact runS_le (run_le Γ (Nat.le_max_right n n')) _ _ _ h3
        · cases hp
    · cases hp
end Go.Proofs.Ytgkjdfojogemhaa.W
