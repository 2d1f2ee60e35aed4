/-
  The abstract machine: its values, its memory, its steps, its run. Conditions: none.
-/
import GoSem.Step
import Derived.Calls
set_option linter.unusedSimpArgs false
set_option linter.unusedVariables false
namespace Go.Am

/-- Data by value: a plain value, or a slice whose cells never change. -/
inductive D where
  | v (x : Value)
  | sl (tight : Bool) (len : Nat) (cells : List D)

/-- Abstract values. `own`: a slice into a block of the machine's memory; `rp`: a pointer to cells that never change. -/
inductive AV where
  | d (x : D)
  | rp (cells : List D)
  | own (h g off len e : Nat) (cap : Option Nat)
  | ptr (h g off : Nat)
  | fn (f : FuncId) (caps : List AV)
  | ag (cells : List AV)
  | tu (vs : List AV)
  | mp (h g : Nat)

/-- `ow`: its owner may write it; `fz`: it never changes; `kd p`: what an append to block p gave while p is kept: it is read until p is written or appended to again. -/
inductive Ow where
  | ow
  | fz
  | kd (p : Nat)

inductive Blk where
  | row (cells : List AV) (gen : Nat) (s : Ow) (kid : Option (Nat × Nat))
  | map (es : List (Value × AV)) (gen : Nat)
  | dead

structure Mem where
  b : List Blk
  n : Nat

structure St where
  t : List AV
  m : Mem

inductive Out where
  | normal
  | exit (id : Nat)
  | ret

/-- How a callee gets its arguments: `pure`: all by value, its own memory is gone behind the call; `hand`: as they are, its own blocks are gone; `fresh`: by value, the slice that it returns is the caller's to write; `leak`: as they are, its blocks stay. -/
inductive Md where
  | pure
  | hand
  | fresh
  | leak

/-- What the machine must know of a type. -/
inductive Kd where
  | other
  | int (k : IntKind)
  | bool
  | str
  | slice (e : TypeId)
  | array (n : Nat) (e : TypeId)
  | struct (fs : List (Nat × Nat × TypeId))   -- offset, size, type
  | map (k e : TypeId)

structure TI where
  kd : Kd
  agg : Bool
  size : Nat
  bytes : Nat
  zero : List Value
  flat : Bool     -- the cells of a value of this type are compared one by one, all of them bools, integers, strings

structure Ctx where
  P : Program
  ty : TypeId → Option TI
  fn : FuncId → Option Func
  md : FuncId → Md
  rk : FuncId → Nat → Option (List (Nat × Bool))
  fk : FuncId → Nat → Bool

/-- A table: a search tree. -/
inductive BT (α : Type) where
  | nil
  | node (l : BT α) (k : Nat) (v : α) (r : BT α)

def BT.get {α : Type} : BT α → Nat → Option α
  | .nil, _ => none
  | .node l k v r, n => bif Nat.blt n k then l.get n else bif Nat.blt k n then r.get n else some v

def BT.All {α : Type} (p : Nat → α → Prop) : BT α → Prop
  | .nil => True
  | .node l k v r => l.All p ∧ p k v ∧ r.All p

theorem BT.All.get {α : Type} {p : Nat → α → Prop} : ∀ {t : BT α}, t.All p → ∀ {n : Nat} {a : α}, t.get n = some a → p n a
  | .nil, _, _, _, h => by cases h
  | .node l k v r, ⟨hl, hk, hr⟩, n, a, h => by
    simp only [BT.get] at h
    cases h1 : Nat.blt n k with
    | true => rw [h1] at h; exact hl.get h
    | false =>
      rw [h1] at h
      cases h2 : Nat.blt k n with
      | true => rw [h2] at h; exact hr.get h
      | false =>
        rw [h2] at h
        simp only [cond_false, Option.some.injEq] at h
        have e : n = k := by
          have a1 : ¬ n < k := by intro hh; rw [(Nat.blt_eq : _ = _).mpr hh] at h1; cases h1
          have a2 : ¬ k < n := by intro hh; rw [(Nat.blt_eq : _ = _).mpr hh] at h2; cases h2
          omega
        subst e; subst h; exact hk

def undefA : AV := .d (.v (.tuple #[]))

def ofValue : Value → AV
  | .agg cs => .ag (cs.toList.map fun c => .d (.v c))
  | .func (.func f) a b => if a.size = 0 ∧ b.size = 0 then .fn f [] else .d (.v (.func (.func f) a b))
  | v => .d (.v v)

/-- The cells of a value. -/
def cellsA : AV → Option (List AV)
  | .ag cs => some cs
  | .d (.v (.agg _)) => none
  | x => some [x]

/-- May the value be stored into one cell? -/
def cellOk : AV → Bool
  | .d (.v (.agg _)) | .d (.v (.tuple _)) | .ag _ | .tu _ => false
  | _ => true

def plainCells : List AV → Option (List Value)
  | [] => some []
  | .d (.v x) :: l => (plainCells l).map (x :: ·)
  | _ :: _ => none

/-- A value without memory, as the model has it. -/
def plain : AV → Option Value
  | .d (.v x) => some x
  | .ag cs => (plainCells cs).map fun l => .agg l.toArray
  | .tu cs => (plainCells cs).map fun l => .tuple l.toArray
  | _ => none

/-- The result of a computation that asks nothing of memory. -/
def pureRun (P : Program) {α : Type} : Sem α → Option α
  | .pure a => some a
  | .program k => pureRun P (k P)
  | .mark _ k => pureRun P k
  | _ => none

def nth : List AV → Nat → AV
  | [], _ => undefA
  | x :: _, 0 => x
  | _ :: l, n + 1 => nth l n

def evalA (t : List AV) : Operand → AV
  | .tmp i => nth t i
  | .const v => ofValue v
  | .global g => .d (.v (.pointer (some ⟨g, 0, none⟩)))
  | .func f => .fn f []

/-- The cells of a block, to be read. -/
def row? (m : Mem) (h g : Nat) : Option (List AV) :=
  match m.b[h]? with
  | some (.row cs g' _ _) => if g' = g then some cs else none
  | _ => none

/-- The cells of a block, to be written. -/
def own? (m : Mem) (h g : Nat) : Option (List AV × Option (Nat × Nat)) :=
  match m.b[h]? with
  | some (.row cs g' .ow kid) => if g' = g then some (cs, kid) else none
  | _ => none

def Mem.push (m : Mem) (cs : List AV) : Mem := ⟨m.b ++ [.row cs m.n .ow none], m.n + 1⟩
def Mem.pushMap (m : Mem) : Mem := ⟨m.b ++ [.map [] m.n], m.n + 1⟩

/-- What was appended to a block is forgotten. -/
def kill (b : List Blk) : Option (Nat × Nat) → List Blk
  | none => b
  | some (k, g) => match b[k]? with
    | some (.row _ g' _ _) => if g' = g then b.set k .dead else b
    | _ => b

def Mem.write (m : Mem) (h g : Nat) (kid : Option (Nat × Nat)) (cs : List AV) : Mem := ⟨(kill m.b kid).set h (.row cs g .ow none), m.n⟩

/-- The cells with some of them, from a place on, written over. -/
def over : List AV → Nat → List AV → List AV
  | cs, 0, xs => xs ++ cs.drop xs.length
  | [], _ + 1, _ => []
  | c :: cs, n + 1, xs => c :: over cs n xs

def natOf : AV → Option Nat
  | .d (.v (.int _ (.ofNat n))) => some n
  | _ => none

def intOf? : AV → Option (IntKind × Int)
  | .d (.v (.int k n)) => some (k, n)
  | _ => none

def boolA (b : Bool) : AV := .d (.v (.bool b))
def intA (k : IntKind) (n : Int) : AV := .d (.v (.int k n))

def intBin (op : BinOp) (k : IntKind) (a b : Int) : Option AV :=
  match op with
  | .add => some (intA k (k.wrap (a + b)))
  | .sub => some (intA k (k.wrap (a - b)))
  | .mul => some (intA k (k.wrap (a * b)))
  | .quo => if b = 0 then none else some (intA k (k.wrap (a.tdiv b)))
  | .rem => if b = 0 then none else some (intA k (a.tmod b))
  | .eql => some (boolA (a == b))
  | .neq => some (boolA (a != b))
  | .lss => some (boolA (decide (a < b)))
  | .leq => some (boolA (decide (a ≤ b)))
  | .gtr => some (boolA (decide (a > b)))
  | .geq => some (boolA (decide (a ≥ b)))
  | .and => some (intA k (k.wrap (BitVec.ofInt k.bits a &&& BitVec.ofInt k.bits b).toNat))
  | .or => some (intA k (k.wrap (BitVec.ofInt k.bits a ||| BitVec.ofInt k.bits b).toNat))
  | .xor => some (intA k (k.wrap (BitVec.ofInt k.bits a ^^^ BitVec.ofInt k.bits b).toNat))
  | .andNot => some (intA k (k.wrap (BitVec.ofInt k.bits a &&& ~~~ (BitVec.ofInt k.bits b)).toNat))
  | _ => none

def shiftA (op : BinOp) (k : IntKind) (a b : Int) : Option AV :=
  if b < 0 then none else
  match op with
  | .shl => some (intA k (k.wrap (a * 2 ^ min b.toNat k.bits)))
  | .shr => some (intA k (a.fdiv (2 ^ min b.toNat k.bits)))
  | _ => none

def eqCell : Value → Value → Option Bool
  | .int k a, .int k' b => if k = k' then some (a == b) else none
  | _, _ => none

def eqCells : List AV → List AV → Option Bool
  | [], [] => some true
  | .d (.v x) :: l, .d (.v y) :: r => match eqCell x y, eqCells l r with
    | some a, some b => some (a && b)
    | _, _ => none
  | _, _ => none

def binA (Γ : Ctx) (m : Mem) (op : BinOp) (t : TypeId) (x y : AV) : Option AV :=
  match x, y with
  | .d (.v (.int k a)), .d (.v (.int k' b)) =>
    match op with
    | .shl | .shr => shiftA op k a b
    | _ => if k = k' then intBin op k a b else none
  | .d (.v (.bool a)), .d (.v (.bool b)) =>
    match Γ.ty t with
    | some { kd := .bool, .. } =>
      match op with
      | .eql => some (boolA (a == b))
      | .neq => some (boolA (!(a == b)))
      | _ => none
    | _ => none
  | .d (.v (.string a)), .d (.v (.string b)) => (pureRun Γ.P (Op.stringOp op a b)).map fun v => .d (.v v)
  | .ag xs, .ag ys =>
    match Γ.ty t with
    | some { flat := true, size, .. } =>
      if xs.length = size ∧ ys.length = size then
        match op with
        | .eql => (eqCells xs ys).map boolA
        | .neq => (eqCells xs ys).map fun b => boolA (!b)
        | _ => none
      else none
    | _ => none
  | x, .d (.v (.slice none _ _)) =>
    match Γ.ty t with
    | some { kd := .slice _, .. } =>
      match x, op with
      | .d (.sl ..), .eql => some (boolA false)
      | .d (.sl ..), .neq => some (boolA true)
      | .d (.v (.slice none _ _)), .eql => some (boolA true)
      | .d (.v (.slice none _ _)), .neq => some (boolA false)
      | .own h g _ _ _ _, .eql => if (row? m h g).isSome then some (boolA false) else none
      | .own h g _ _ _ _, .neq => if (row? m h g).isSome then some (boolA true) else none
      | _, _ => none
    | _ => none
  | _, _ => none

def unA (op : UnOp) (x : AV) : Option AV :=
  match op, x with
  | .neg, .d (.v (.int k n)) => some (intA k (k.wrap (0 - n)))
  | .xor, .d (.v (.int k n)) => some (intA k (k.wrap (BitVec.ofInt k.bits (if k.signed then -1 else k.max) ^^^ BitVec.ofInt k.bits n).toNat))
  | .not, .d (.v (.bool b)) => some (boolA !b)
  | _, _ => none

/-- The cells of a slice, as data: frozen out of memory. `n`: depth. -/
def cut (cells : List AV) (off k : Nat) : List AV := (cells.drop off).take k

def mapO {α β : Type} (f : α → Option β) : List α → Option (List β)
  | [] => some []
  | x :: l => match f x with
    | some a => match mapO f l with
      | some b => some (a :: b)
      | none => none
    | none => none

/-- A value by value: what it holds in memory, copied. -/
def snapD (m : Mem) : Nat → AV → Option D
  | 0, _ => none
  | n + 1, x => match x with
    | .d x => some x
    | .own h g off len e _ => match row? m h g with
      | some cs => if off + len * e ≤ cs.length then (mapO (snapD m n) (cut cs off (len * e))).map (.sl false len) else none
      | none => none
    | _ => none

def depth : Nat := 8

def snapC (m : Mem) : AV → Option AV
  | .rp c => some (.rp c)
  | .fn f [] => some (.fn f [])
  | x => (snapD m depth x).map .d

def snapA (m : Mem) : AV → Option AV
  | .ag cs => (mapO (snapC m) cs).map .ag
  | .fn f cs => (mapO (snapC m) cs).map (.fn f)
  | x => snapC m x

def snapR (m : Mem) : AV → Option AV
  | .tu cs => (mapO (snapA m) cs).map .tu
  | x => snapA m x

/-- Does a value point into the machine's memory, other than as a slice? -/
def hnd1 : AV → Bool
  | .ptr .. | .mp .. | .fn _ (_ :: _) => true
  | _ => false

def hnd : AV → Bool
  | .fn _ cs | .ag cs => cs.any hnd1
  | x => hnd1 x

def own1 : AV → Bool
  | .own .. => true
  | _ => false

def owns : AV → Bool
  | .ag cs | .fn _ cs => cs.any own1
  | x => own1 x

/-- No slice with cells in it. -/
def noCell1 : AV → Bool
  | .d (.sl _ 0 []) => true
  | .d (.sl ..) => false
  | .d (.v _) => true
  | .fn _ [] => true
  | _ => false

def noCellA : AV → Bool
  | .ag cs => cs.all noCell1
  | x => noCell1 x

def noCells : AV → Bool
  | .tu cs => cs.all noCellA
  | x => noCellA x

def frzO (b : List Blk) (h : Nat) : List Blk :=
  match b[h]? with
  | some (.row cs g .ow kid) => b.set h (.row cs g .fz kid)
  | _ => b

def frz1 (b : List Blk) (h : Nat) : List Blk :=
  match b[h]? with
  | some (.row cs g .ow kid) => b.set h (.row cs g .fz kid)
  | some (.row cs g (.kd p) kid) => frzO (b.set h (.row cs g .fz kid)) p
  | _ => b

/-- The blocks that a value reaches are frozen. -/
def frz : Nat → Mem → AV → Mem
  | 0, m, _ => m
  | n + 1, m, x => match x with
    | .own h g _ _ _ _ => match m.b[h]? with
      | some (.row cs g' _ _) => if g' = g then cs.foldl (frz n) ⟨frz1 m.b h, m.n⟩ else m
      | _ => m
    | _ => m

def frzA (m : Mem) : AV → Mem
  | .ag cs | .fn _ cs => cs.foldl (frz depth) m
  | x => frz depth m x

def bytesA : List UInt8 → List AV
  | [] => []
  | b :: l => .d (.v (.int .u8 b.toNat)) :: bytesA l

/-- What a slice or a string holds, `e` cells an element: the cells and how many elements. -/
def content (m : Mem) (e : Nat) : AV → Option (List AV × Nat)
  | .d (.sl _ len cells) => if cells.length = len * e then some (cells.map .d, len) else none
  | .d (.v (.slice none 0 0)) => some ([], 0)
  | .d (.v (.string s)) => if e = 1 then some (bytesA s.data.toList, s.size) else none
  | .own h g off len e' _ => if e' = e then match row? m h g with
      | some cs => if off + len * e ≤ cs.length then some (cut cs off (len * e), len) else none
      | none => none
    else none
  | _ => none

def zeroA (i : TI) : List AV := i.zero.map fun x => .d (.v x)
def zerosA (i : TI) : Nat → List AV
  | 0 => []
  | n + 1 => zeroA i ++ zerosA i n

def elemOf (Γ : Ctx) (t : TypeId) : Option (TypeId × TI) :=
  match Γ.ty t with
  | some { kd := .slice e, .. } => (Γ.ty e).map fun i => (e, i)
  | _ => none

/-- 2^47 bytes. -/
def room : Nat := 140737488355328

/-- append to a slice that is a block's own. `fk`: is the old slice kept? -/
def appendOwn (fk : Bool) (bytes : Nat) (m : Mem) (xs : List AV) (n : Nat) (h g off len e : Nat) (cap : Option Nat) : Option (AV × Mem) :=
  match row? m h g with
  | none => none
  | some cs =>
    if off + len * e ≤ cs.length ∧ (len + n) * bytes ≤ room ∧ len + n ≤ room then
      match cap with
      | some c =>
        if len + n ≤ c then
          if n = 0 then some (.own h g off len e cap, m) else
          match own? m h g with
          | some (_, kid) => if off + (len + n) * e ≤ cs.length ∧ xs.all cellOk = true then some (.own h g off (len + n) e cap, m.write h g kid (over cs (off + len * e) xs)) else none
          | none => none
        else some (.own m.b.length m.n 0 (len + n) e none, m.push (cut cs off (len * e) ++ xs))
      | none =>
        if n = 0 then some (.own h g off len e cap, m) else
        match own? m h g with
        | none => none
        | some (_, kid) =>
          if xs.all cellOk = false then none else
          if off + (len + n) * e ≤ cs.length then
            some (.own h g off (len + n) e none, m.write h g kid (over cs (off + len * e) xs))
          else if fk then
            if off + len * e = cs.length then
              some (.own m.b.length m.n 0 (len + n) e none, ⟨(kill m.b kid).set h (.row cs g .ow (some (m.b.length, m.n))) ++ [.row (cut cs off (len * e) ++ xs) m.n (.kd h) none], m.n + 1⟩)
            else none
          else some (.own h m.n 0 (len + n) e none, ⟨(kill m.b kid).set h (.row (cut cs off (len * e) ++ xs) m.n .ow none), m.n + 1⟩)
    else none

def appendTo (fk : Bool) (i : TI) (m : Mem) (s : AV) (xs : List AV) (n : Nat) : Option (AV × Mem) :=
  match s with
  | .d (.v (.slice none 0 0)) =>
    if n = 0 then some (s, m) else
    if n * i.bytes ≤ room ∧ n ≤ room then some (.own m.b.length m.n 0 n i.size none, m.push xs) else none
  | .d (.sl tight len cells) =>
    if n = 0 then some (s, m) else
    if tight && decide (cells.length = len * i.size) && decide ((len + n) * i.bytes ≤ room ∧ len + n ≤ room) then
      some (.own m.b.length m.n 0 (len + n) i.size none, m.push (cells.map .d ++ xs)) else none
  | .own h g off len e cap => if e = i.size then appendOwn fk i.bytes m xs n h g off len e cap else none
  | _ => none

def appendA (Γ : Ctx) (fk : Bool) (ts : Array TypeId) (m : Mem) (s x : AV) : Option (AV × Mem) :=
  match ts[0]?, ts[1]? with
  | some t0, some t1 => match elemOf Γ t0, Γ.ty t1 with
    | some (_, i), some j =>
      if i.size = 0 then none else
      match j.kd with
      | .slice _ | .str =>
        match content m i.size x with
        | none => none
        | some (xs, n) => appendTo fk i m s xs n
      | _ => none
    | _, _ => none
  | _, _ => none

def boundA (x : AV) (most : Nat) : Option Nat :=
  match x with
  | .d (.v (.int _ (.ofNat n))) => if n ≤ most then some n else none
  | _ => none

/-- low, high and capacity of a slice expression; `cap`: what is known of the capacity; `most`: what it surely is at least. -/
def bounds (len : Nat) (most : Nat) (cap : Option Nat) (lo hi mx : Option AV) : Option (Nat × Nat × Option Nat) :=
  match mx with
  | some v => match boundA v most, hi with
    | some m, some h => match boundA h m with
      | some h => match lo with
        | some l => (boundA l h).map fun l => (l, h, some m)
        | none => some (0, h, some m)
      | none => none
    | _, _ => none
  | none =>
    match (match hi with | some h => boundA h most | none => some len) with
    | some h => match lo with
      | some l => (boundA l h).map fun l => (l, h, cap)
      | none => some (0, h, cap)
    | none => none

def emptyA : AV := .d (.sl true 0 [])
def bareA : AV := .d (.sl false 0 [])

def sliceA (Γ : Ctx) (t : TypeId) (m : Mem) (x : AV) (lo hi mx : Option AV) : Option AV :=
  match Γ.ty t with
  | some { kd := .array n e, .. } =>
    match x, Γ.ty e with
    | .ptr h g off, some i => match row? m h g with
      | some cs => if i.size = 0 then none else if off + n * i.size ≤ cs.length then
          match bounds n n (some n) lo hi mx with
          | some (l, r, some c) => if c = l then some emptyA else some (.own h g (off + l * i.size) (r - l) i.size (some (c - l)))
          | _ => none
        else none
      | none => none
    | _, _ => none
  | some { kd := .slice e, .. } =>
    match Γ.ty e with
    | some i =>
      if i.size = 0 then none else
      match x with
      | .d (.v (.slice none 0 0)) => match bounds 0 0 (some 0) lo hi mx with
        | some _ => some x
        | none => none
      | .d (.sl tight len cells) =>
        if cells.length = len * i.size then
          match bounds len len (if tight then some len else none) lo hi mx with
          | some (l, r, c) =>
            if l = r then some (.d (.sl (c == some r) 0 [])) else
            some (.d (.sl (c == some r) (r - l) (((cells.drop (l * i.size)).take ((r - l) * i.size)))))
          | none => none
        else none
      | .own h g off len e cap =>
        match row? m h g with
        | some cs =>
          if e = i.size ∧ off + len * e ≤ cs.length then
            match bounds len (min ((cs.length - off) / e) (cap.getD cs.length)) cap lo hi mx with
            | some (l, r, some c) => if c = l then some emptyA else some (.own h g (off + l * e) (r - l) e (some (c - l)))
            | some (l, r, none) => if l = r then some bareA else some (.own h g (off + l * e) (r - l) e none)
            | none => none
          else none
        | none => none
      | _ => none
    | none => none
  | some { kd := .str, .. } =>
    match x with
    | .d (.v (.string s)) => if mx.isSome then none else match bounds s.size s.size none lo hi none with
      | some (l, r, _) => some (.d (.v (.string (s.extract l r))))
      | none => none
    | _ => none
  | _ => none

def indexAddrA (Γ : Ctx) (t : TypeId) (m : Mem) (x i : AV) : Option AV :=
  match natOf i with
  | none => none
  | some k =>
    match Γ.ty t with
    | some { kd := .array n e, .. } =>
      match Γ.ty e with
      | some j => if k < n then match x with
          | .ptr h g off => if (row? m h g).isSome then some (.ptr h g (off + k * j.size)) else none
          | .rp cells => if n * j.size ≤ cells.length then some (.rp ((cells.drop (k * j.size)).take j.size)) else none
          | _ => none
        else none
      | none => none
    | some { kd := .slice e, .. } =>
      match Γ.ty e with
      | some j => match x with
        | .own h g off len e' _ => if k < len ∧ e' = j.size ∧ (row? m h g).isSome then some (.ptr h g (off + k * j.size)) else none
        | .d (.sl _ len cells) => if k < len ∧ cells.length = len * j.size then some (.rp ((cells.drop (k * j.size)).take j.size)) else none
        | _ => none
      | none => none
    | _ => none

/-- Some cells as a value of a type. -/
def asVal (i : TI) (cs : List AV) : Option AV :=
  if cs.length = i.size then
    if i.agg then some (.ag cs) else match cs with
      | [c] => some c
      | _ => none
  else none

def loadA (Γ : Ctx) (t : TypeId) (m : Mem) (x : AV) : Option AV :=
  match Γ.ty t with
  | none => none
  | some i => match x with
    | .ptr h g off => match row? m h g with
      | some cs => asVal i (cut cs off i.size)
      | none => none
    | .rp cells => asVal i ((cells.take i.size).map .d)
    | _ => none

def storeA (Γ : Ctx) (t : TypeId) (m : Mem) (a x : AV) : Option Mem :=
  match Γ.ty t, cellsA x, a with
  | some i, some xs, .ptr h g off =>
    if xs.length = i.size ∧ xs.all cellOk = true then
      match own? m h g with
      | some (cs, kid) => if off + i.size ≤ cs.length then some (m.write h g kid (over cs off xs)) else none
      | none => none
    else none
  | _, _, _ => none

def partA (i : TI) (cs : List AV) (off : Nat) : Option AV := asVal i (cut cs off i.size)

def fillA (place : Nat → Option (Nat × Nat)) (t : List AV) : List AV → List (Nat × Operand) → Option (List AV)
  | cs, [] => some cs
  | cs, (i, x) :: l => match place i, cellsA (evalA t x) with
    | some (off, size), some xs => if xs.length = size ∧ off + size ≤ cs.length then fillA place t (over cs off xs) l else none
    | _, _ => none

def placeOf (Γ : Ctx) (i : TI) : Option (Nat → Option (Nat × Nat)) :=
  match i.kd with
  | .struct fs => some fun k => (fs[k]?).map fun p => (p.1, p.2.1)
  | .array _ e => match Γ.ty e with
    | some j => some fun k => some (k * j.size, j.size)
    | none => none
  | _ => none

def lenA (Γ : Ctx) (t : TypeId) (m : Mem) (x : AV) : Option Nat :=
  match Γ.ty t with
  | some { kd := .array n _, .. } => some n
  | some { kd := .str, .. } => match x with
    | .d (.v (.string s)) => some s.size
    | _ => none
  | some { kd := .slice _, .. } => match x with
    | .d (.sl _ len _) => some len
    | .d (.v (.slice none n _)) => some n
    | .own h g _ len _ _ => if (row? m h g).isSome then some len else none
    | _ => none
  | some { kd := .map .., .. } => match x with
    | .d (.v (.map none)) => some 0
    | .mp h g => match m.b[h]? with
      | some (.map es g') => if g' = g then some es.length else none
      | _ => none
    | _ => none
  | _ => none

def foldInt (f : Int → Int → Int) : List AV → Option AV
  | .d (.v (.int k n)) :: l => (go k n l).map (intA k)
  | _ => none
where
  go (k : IntKind) (n : Int) : List AV → Option Int
    | [] => some n
    | .d (.v (.int _ b)) :: l => go k (f n b) l
    | _ :: _ => none

def strBytes : List AV → Option (List UInt8)
  | [] => some []
  | .d (.v (.int .u8 n)) :: l => (strBytes l).map (UInt8.ofNat n.toNat :: ·)
  | _ :: _ => none

def convertA (Γ : Ctx) (src dst : TypeId) (m : Mem) (x : AV) : Option AV :=
  match Γ.ty src, Γ.ty dst with
  | some i, some j => match j.kd, x with
    | .int k, .d (.v (.int _ n)) => some (intA k (k.wrap n))
    | .str, .d (.v (.string s)) => some (.d (.v (.string s)))
    | .str, x => match i.kd with
      | .slice e => match Γ.ty e with
        | some { kd := .int .u8, .. } => match content m 1 x with
          | some (cs, _) => match x with
            | .d (.v (.string _)) => none
            | _ => (strBytes cs).map fun l => .d (.v (.string ⟨l.toArray⟩))
          | none => none
        | _ => none
      | _ => none
    | _, _ => none
  | _, _ => none

def copyA (Γ : Ctx) (ts : Array TypeId) (m : Mem) (dst src : AV) : Option (AV × Mem) :=
  match (match ts[0]? with | some t0 => elemOf Γ t0 | none => none) with
  | some (_, i) => if i.size = 0 then none else match content m i.size src with
    | some (xs, n) => match dst with
      | .own h g off len e _ => match own? m h g with
        | some (cs, kid) =>
          if e = i.size ∧ off + len * e ≤ cs.length ∧ xs.all cellOk = true then
            some (intA .i64 (min n len), m.write h g kid (over cs off (xs.take (min n len * e))))
          else none
        | none => none
      | .d (.v (.slice none 0 0)) => some (intA .i64 0, m)
      | .d (.sl _ 0 _) => some (intA .i64 0, m)
      | _ => none
    | none => none
  | none => none

def clearA (Γ : Ctx) (ts : Array TypeId) (m : Mem) (x : AV) : Option Mem :=
  match (match ts[0]? with | some t0 => elemOf Γ t0 | none => none) with
  | some (_, i) => match x with
    | .d (.v (.slice none _ _)) => some m
    | .d (.sl _ 0 _) => some m
    | .own h g off len e _ => if len = 0 then (if (row? m h g).isSome then some m else none) else match own? m h g with
      | some (cs, kid) =>
        if e = i.size ∧ off + len * e ≤ cs.length then some (m.write h g kid (over cs off (zerosA i len))) else none
      | none => none
    | _ => none
  | none => none

def keyEq : Value → Value → Option Bool
  | .int k a, .int k' b => if k = k' then some (a == b) else none
  | .string a, .string b => some (a == b)
  | _, _ => none

def findA (k : Value) : List (Value × AV) → Option (Option AV)
  | [] => some none
  | (x, v) :: l => match keyEq k x with
    | some true => some (some v)
    | some false => findA k l
    | none => none

def putA (k : Value) (v : AV) : List (Value × AV) → Option (List (Value × AV))
  | [] => some [(k, v)]
  | (x, u) :: l => match keyEq k x with
    | some true => some ((k, v) :: l)
    | some false => (putA k v l).map ((x, u) :: ·)
    | none => none

def keyFits (Γ : Ctx) (t : TypeId) : Value → Bool
  | .int k _ => match Γ.ty t with
    | some { kd := .int k', .. } => decide (k = k')
    | _ => false
  | .string _ => match Γ.ty t with
    | some { kd := .str, .. } => true
    | _ => false
  | _ => false

def entriesA (m : Mem) (x : AV) : Option (List (Value × AV)) :=
  match x with
  | .d (.v (.map none)) => some []
  | .mp h g => match m.b[h]? with
    | some (.map es g') => if g' = g then some es else none
    | _ => none
  | _ => none

def lookupA (Γ : Ctx) (t : TypeId) (m : Mem) (x k : AV) (ok : Bool) : Option AV :=
  match Γ.ty t, k with
  | some { kd := .map kt et, .. }, .d (.v k) =>
    if keyFits Γ kt k then
      match Γ.ty et with
      | some i =>
        match entriesA m x with
        | some es => match findA k es with
          | some (some v) => some (if ok then .tu [v, boolA true] else v)
          | some none => match (if i.agg then some (.ag (zeroA i)) else match i.zero with | [z] => some (.d (.v z)) | _ => none) with
            | some z => some (if ok then .tu [z, boolA false] else z)
            | none => none
          | none => none
        | none => none
      | none => none
    else none
  | _, _ => none

def mapSetA (Γ : Ctx) (t : TypeId) (m : Mem) (x k v : AV) : Option Mem :=
  match Γ.ty t, k, x with
  | some { kd := .map kt _, .. }, .d (.v k), .mp h g =>
    if keyFits Γ kt k then
      match m.b[h]? with
      | some (.map es g') => if g' = g then (putA k v es).map fun es => ⟨m.b.set h (.map es g), m.n⟩ else none
      | _ => none
    else none
  | _, _, _ => none

end Go.Am

namespace Go.Am

/-- What one operation other than a call of a Go function gives, and the memory behind it. `none` in the first place: it gives nothing. -/
def opA (Γ : Ctx) (fk : Nat → Bool) (t : List AV) (m : Mem) (o : Oper) : Option (AV × Mem) :=
  let v (x : Option AV) : Option (AV × Mem) := match x with | some a => some (a, m) | none => none
  let u (x : Option Mem) : Option (AV × Mem) := match x with | some m => some (undefA, m) | none => none
  match o.op with
  | .move x | .assign x => some (evalA t x, m)
  | .pick c a b => match evalA t c with
    | .d (.v (.bool c)) => some (if c then evalA t a else evalA t b, m)
    | _ => none
  | .alloc e => match Γ.ty e with
    | some i => some (.ptr m.b.length m.n 0, m.push (zeroA i))
    | none => none
  | .box _ x => match cellsA (evalA t x) with
    | some cs => some (.ptr m.b.length m.n 0, m.push cs)
    | none => none
  | .build ty parts => match Γ.ty ty with
    | some i => match placeOf Γ i with
      | some place => v ((fillA place t (zeroA i) parts.toList).map .ag)
      | none => none
    | none => none
  | .buildSlice ty len parts => match elemOf Γ ty with
    | some (_, i) =>
      if i.size = 0 ∨ len * i.size > 16777216 then none else
      match fillA (fun k => some (k * i.size, i.size)) t (zerosA i len) parts.toList with
      | some cs => some (.own m.b.length m.n 0 len i.size (some len), m.push cs)
      | none => none
    | none => none
  | .load ty a => v (loadA Γ ty m (evalA t a))
  | .store ty a x => u (storeA Γ ty m (evalA t a) (evalA t x))
  | .nilCheck x => match evalA t x with
    | .ptr h g off => if (row? m h g).isSome then some (.ptr h g off, m) else none
    | .rp c => some (.rp c, m)
    | .fn f cs => some (.fn f cs, m)
    | _ => none
  | .binOp op ty x y _ => v (binA Γ m op ty (evalA t x) (evalA t y))
  | .unOp op _ x => v (unA op (evalA t x))
  | .convert src dst x => v (convertA Γ src dst m (evalA t x))
  | .makeFunc fn first caps => match fn with
    | .func f => if first.size = 0 then some (.fn f (caps.toList.map (evalA t)), m) else none
    | _ => none
  | .makeMap ty r => match r with
    | none => some (.mp m.b.length m.n, m.pushMap)
    | some x => match evalA t x, Γ.ty ty with
      | .d (.v (.int _ _)), some { kd := .map .., .. } => some (.mp m.b.length m.n, m.pushMap)
      | _, _ => none
  | .makeSlice ty l c => match elemOf Γ ty, natOf (evalA t l), natOf (evalA t c) with
    | some (_, i), some l, some c =>
      if i.size = 0 then none else
      if l ≤ c ∧ c * i.bytes ≤ room ∧ c ≤ room then some (.own m.b.length m.n 0 l i.size (some c), m.push (zerosA i c)) else none
    | _, _, _ => none
  | .slice ty x lo hi mx => v (sliceA Γ ty m (evalA t x) (lo.map (evalA t)) (hi.map (evalA t)) (mx.map (evalA t)))
  | .fieldAddr ty x f => match Γ.ty ty with
    | some { kd := .struct fs, .. } => match fs[f]?, evalA t x with
      | some (off', size, _), .ptr h g off => if size = 0 then none else if (row? m h g).isSome then some (.ptr h g (off + off'), m) else none
      | some (off', size, _), .rp cells => if size = 0 then none else if off' + size ≤ cells.length then some (.rp ((cells.drop off').take size), m) else none
      | _, _ => none
    | _ => none
  | .field ty x f => match Γ.ty ty with
    | some { kd := .struct fs, .. } => match fs[f]?, evalA t x with
      | some (off, _, ft), .ag cs => match Γ.ty ft with
        | some j => v (partA j cs off)
        | none => none
      | _, _ => none
    | _ => none
  | .indexAddr ty x i => v (indexAddrA Γ ty m (evalA t x) (evalA t i))
  | .index ty x i => match natOf (evalA t i) with
    | none => none
    | some k => match Γ.ty ty, evalA t x with
      | some { kd := .array n e, .. }, .ag cs => match Γ.ty e with
        | some j => if k < n then v (partA j cs (k * j.size)) else none
        | none => none
      | some { kd := .str, .. }, .d (.v (.string s)) => match s[k]? with
        | some b => some (.d (.v (.int .u8 b.toNat)), m)
        | none => none
      | _, _ => none
  | .lookup ty x k ok => v (lookupA Γ ty m (evalA t x) (evalA t k) ok)
  | .mapUpdate ty x k y => u (mapSetA Γ ty m (evalA t x) (evalA t k) (evalA t y))
  | .extract x i => match evalA t x with
    | .tu vs => v (vs[i]?)
    | _ => none
  | .call c => match c.callee with
    | .builtin b => match b, c.args.toList with
      | .len, [x] => match c.argTypes[0]? with
        | some ty => match lenA Γ ty m (evalA t x) with
          | some n => some (intA .i64 n, m)
          | none => none
        | none => none
      | .append, [s, x] => appendA Γ (fk (o.dst.getD 0)) c.argTypes m (evalA t s) (evalA t x)
      | .copy, [a, b] => copyA Γ c.argTypes m (evalA t a) (evalA t b)
      | .clear, [x] => u (clearA Γ c.argTypes m (evalA t x))
      | .max, xs => v (foldInt (fun x y => if y > x then y else x) (xs.map (evalA t)))
      | .min, xs => v (foldInt (fun x y => if y < x then y else x) (xs.map (evalA t)))
      | _, _ => none
    | _ => none
  | _ => none

/-- A region in which Go leaves the order open: its slices of literals are by value. -/
def opD (Γ : Ctx) (fk : Nat → Bool) (t : List AV) (m : Mem) (o : Oper) : Option (AV × Mem) :=
  match o.op with
  | .buildSlice ty len parts => match elemOf Γ ty with
    | some (_, i) =>
      if i.size = 0 ∨ len * i.size > 16777216 then none else
      match fillA (fun k => some (k * i.size, i.size)) t (zerosA i len) parts.toList with
      | some cs => match mapO (fun c => match c with | .d x => some x | _ => none) cs with
        | some ds => some (.d (.sl true len ds), m)
        | none => none
      | none => none
    | none => none
  | _ => opA Γ fk t m o

def calleeOf (t : List AV) (o : Oper) : Option (FuncId × List AV) :=
  match o.op with
  | .call c => match c.callee with
    | .value f => match evalA t f with
      | .fn g caps => some (g, c.args.toList.map (evalA t) ++ caps)
      | _ => none
    | _ => none
  | _ => none

def isCall (o : Oper) : Bool :=
  match o.op with
  | .call c => match c.callee with
    | .value _ => true
    | _ => false
  | _ => false

def isAlloc (o : Oper) : Bool :=
  match o.op with
  | .alloc _ => true
  | _ => false

abbrev CF := FuncId → List AV → Mem → Option (AV × Mem)

/-- A call by value: the callee sees no memory of the caller's. `may`: may blocks of the caller's be frozen? -/
def pureCall (cf : CF) (may : Bool) (g : FuncId) (av : List AV) (m : Mem) : Option (AV × Mem) :=
  match mapO (snapA m) av with
  | none => none
  | some bs => match cf g bs ⟨[], 0⟩ with
    | none => none
    | some (r, m') => match snapR m' r with
      | none => none
      | some r => if av.any owns && !noCells r then (if may then some (r, av.foldl frzA m) else none) else some (r, m)

def isD : AV → Bool
  | .d _ => true
  | _ => false

/-- A call by value whose result, a slice of a new block, is the caller's to write. -/
def freshCall (cf : CF) (g : FuncId) (av : List AV) (m : Mem) : Option (AV × Mem) :=
  match mapO (snapA m) av with
  | none => none
  | some bs => match cf g bs ⟨[], 0⟩ with
    | some (.own h gg off len e cap, mc) => match own? mc h gg with
      | some (cs, _) =>
        if cs.all isD = true then
          let m1 := if av.any owns && !cs.all noCell1 then av.foldl frzA m else m
          some (.own m1.b.length m1.n off len e cap, m1.push cs)
        else none
      | none => none
    | _ => pureCall cf true g av m

def callA (Γ : Ctx) (cf : CF) (g : FuncId) (av : List AV) (m : Mem) : Option (AV × Mem) :=
  match Γ.md g with
  | .leak => cf g av m
  | .fresh => freshCall cf g av m
  | .hand => match cf g av m with
    | some (r, m') => some (r, ⟨m'.b.take m.b.length, m'.n⟩)
    | none => none
  | .pure =>
    if av.any hnd then cf g av m else pureCall cf true g av m

/-- May the operation run? -/
def wantedA (ops : Array Oper) (t : List AV) (o : Oper) : Option Bool :=
  match o.guard with
  | none => some true
  | some (j, want) => match ops[j]? with
    | some p => match p.dst with
      | some d => if d < t.length then match nth t d with
          | .d (.v (.bool b)) => some (b == want)
          | .d (.v (.tuple _)) => some false
          | _ => none
        else none
      | none => none
    | none => none

def putA' (t : List AV) (dst : Option Tmp) (v : AV) : List AV :=
  match dst with
  | some d => t.set d v
  | none => t

/-- Is it a call of a function whose result is the caller's to write? -/
def isFresh (Γ : Ctx) (o : Oper) : Bool :=
  match o.op with
  | .call c => match c.callee with
    | .value (.func f) => match Γ.md f with
      | .fresh => true
      | _ => false
    | _ => false
  | _ => false

/-- One operation of a region. `draw`: Go leaves the order open; `wk`: the call may do whatever calls do. -/
def stepOp (Γ : Ctx) (fk : Nat → Bool) (cf : CF) (ops : Array Oper) (draw wk : Bool) (o : Oper) (s : St) : Option (AV × Mem) :=
  match wantedA ops s.t o with
  | none => none
  | some false => some (undefA, s.m)
  | some true =>
    if isCall o then match calleeOf s.t o with
      | some (g, av) => match draw with
        | true => match wk with
          | true => callA Γ cf g av s.m
          | false => if isFresh Γ o then freshCall cf g av s.m else pureCall cf true g av s.m
        | false => callA Γ cf g av s.m
      | none => none
    else match draw with
      | true => opD Γ fk s.t s.m o
      | false => opA Γ fk s.t s.m o

/-- The operations of a region. -/
def runOps (Γ : Ctx) (fk : Nat → Bool) (cf : CF) (ops : Array Oper) : List Oper → St → Option St
  | [], s => some s
  | o :: l, s => match stepOp Γ fk cf ops false false o s with
    | some (r, m) => runOps Γ fk cf ops l ⟨putA' s.t o.dst r, m⟩
    | none => none

/-- Some blocks are to stay as they are: what else an operation may do. A load that is marked adds its block. -/
def protA (wk : Bool) (o : Oper) (H : List Nat) (s : St) : Option (List Nat) :=
  match o.op with
  | .load _ a => match wk with
    | true => match evalA s.t a with
      | .ptr h _ _ => some (h :: H)
      | _ => some H
    | false => some H
  | .store _ a _ => match H with
    | [] => some []
    | x :: H => match evalA s.t a with
      | .ptr h g _ => match own? s.m h g with
        | some (_, none) => bif (x :: H).any (Nat.beq h) then none else some (x :: H)
        | _ => none
      | _ => none
  | .move _ | .assign _ | .pick .. | .unOp .. | .build .. | .field .. | .extract .. | .makeFunc .. | .index .. | .buildSlice .. => some H
  | .lookup .. | .slice .. | .indexAddr .. | .fieldAddr .. | .nilCheck .. | .convert .. | .binOp .. | .alloc _ => some H
  | .call c => match H with
    | [] => some []
    | x :: H => match c.callee with
      | .builtin .len | .builtin .max | .builtin .min => some (x :: H)
      | .value _ => bif wk then none else some (x :: H)
      | _ => none
  | _ => match H with
    | [] => some []
    | _ => none

/-- The operations of a region whose order Go leaves open, in one order. -/
def runD (Γ : Ctx) (fk : Nat → Bool) (cf : CF) (ops : Array Oper) : List (Nat × Bool) → List Nat → St → Option St
  | [], _, s => some s
  | (i, wk) :: l, H, s => match ops[i]? with
    | some o => match protA wk o H s with
      | some H' => match stepOp Γ fk cf ops true wk o s with
        | some (r, m) => runD Γ fk cf ops l H' ⟨putA' s.t o.dst r, m⟩
        | none => none
      | none => none
    | none => none

def region (Γ : Ctx) (cf : CF) (f : FuncId) (id : Nat) (ops : Array Oper) (draw : Bool) (s : St) : Option St :=
  if draw then
    match Γ.rk f id with
    | some pi => runD Γ (Γ.fk f) cf ops pi [] s
    | none => none
  else runOps Γ (Γ.fk f) cf ops ops.toList s

abbrev EX := FuncId → Code → St → Option (Out × St)

def inner (Γ : Ctx) (cf : CF) (again : EX) (f : FuncId) : Code → St → Option (Out × St)
  | .skip, s => some (.normal, s)
  | .region id ops draw, s => match region Γ cf f id ops draw s with
    | some s => some (.normal, s)
    | none => none
  | .seq a b, s => match inner Γ cf again f a s with
    | some (.normal, s) => inner Γ cf again f b s
    | r => r
  | .cond c a b, s => match evalA s.t c with
    | .d (.v (.bool true)) => inner Γ cf again f a s
    | .d (.v (.bool false)) => inner Γ cf again f b s
    | _ => none
  | .block id a, s => match inner Γ cf again f a s with
    | some (.exit id', s) => if id' = id then some (.normal, s) else some (.exit id', s)
    | r => r
  | .loop a, s => match inner Γ cf again f a s with
    | some (.normal, s) => again f (.loop a) s
    | r => r
  | .scope a, s => inner Γ cf again f a s
  | .exit id, s => some (.exit id, s)
  | .label _, s => some (.normal, s)
  | .ret, s => some (.ret, s)
  | _, _ => none

def resOne (Γ : Ctx) (s : St) : ResultVar → Option AV
  | .tmp t => some (nth s.t t)
  | .cell a t => loadA Γ t s.m (nth s.t a)

def resA (Γ : Ctx) (fn : Func) (s : St) : Option AV :=
  match mapO (resOne Γ s) fn.results.toList with
  | some [v] => some v
  | some vs => some (.tu vs)
  | none => none

def callF (Γ : Ctx) (ex : EX) : CF := fun g av m =>
  match Γ.fn g with
  | none => none
  | some fn => match fn.body with
    | none => none
    | some c => match ex g c ⟨av ++ List.replicate (fn.ntmps - av.length) undefA, m⟩ with
      | some (.normal, s) | some (.ret, s) => match resA Γ fn s with
        | some r => some (r, s.m)
        | none => none
      | _ => none

def ex (Γ : Ctx) : Nat → EX
  | 0 => fun _ _ _ => none
  | n + 1 => inner Γ (callF Γ (ex Γ n)) (ex Γ n)

def run (Γ : Ctx) (n : Nat) : CF := callF Γ (ex Γ n)

end Go.Am
