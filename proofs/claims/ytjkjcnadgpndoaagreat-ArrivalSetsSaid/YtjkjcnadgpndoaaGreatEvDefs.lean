/- An evaluator of the model's own code on abstract values: definitions alone. Slices that are only read are lists; what a call makes for itself lies in an abstract heap. Conditions: none; nothing is claimed here. -/
import Derived.Orders
import Derived.KernelRfl
namespace Go.Proofs.YtjkjcnadgpndoaaGreat.Ev
open Go

/-- An abstract value. 'hp': the address of a cell of one of the call's own blocks (its number, its size, the place); 'lp': the address of a cell of a row that nobody writes (was it made in this call? its cells, the place). A slice's base is such an address. -/
inductive V where
  | undef
  | bool (b : Bool)
  | int (k : IntKind) (n : Int)
  | str (s : ByteArray)
  | nil
  | hp (id gen off : Nat)
  | lp (own : Bool) (cs : List V) (off : Nat)
  | slice (a : V) (len cap : Nat) (tail : Bool)
  | map (r : Option Nat)
  | func (f : FuncId) (cs : List V)
  | nilFunc
  | nilIface
  | agg (cs : List V)
  | tuple (vs : List V)
  | yld (id : Nat)
instance : Inhabited V := ⟨.undef⟩

/-- What lies in a place of an abstract heap. -/
inductive Slot where
  | fresh
  | dead
  | own (cs : List V) (esz : Nat)
  | imap (kk vk : IntKind) (es : List (Int × Int))
  | gmap (es : List (V × V))
  | miter (mid n : Nat) (seen : List Nat)
  | loop (st : LoopState)
structure H where
  next : Nat
  m : Nat → Slot
def H.empty : H := ⟨0, fun _ => .fresh⟩
def H.put (h : H) (id : Nat) (s : Slot) : H := { h with m := fun i => bif Nat.beq i id then s else h.m i }
/-- A new block of the call's own at the next number. -/
def H.new (h : H) (cs : List V) (esz : Nat) : H := { next := h.next + 1, m := fun i => bif Nat.beq i h.next then .own cs esz else h.m i }
/-- No row of cells: a map, or the record of a range over a function. -/
def Slot.isObj : Slot → Bool
  | .imap .. | .gmap _ | .miter .. | .loop _ => true
  | _ => false
def H.newS (h : H) (s : Slot) : H := { next := h.next + 1, m := fun i => bif Nat.beq i h.next then s else h.m i }
/-- A round begins, it ends, the loop ends. -/
def H.begin (h : H) (id : Nat) : Option H :=
  match h.m id with
  | .loop .ready => some (h.put id (.loop .busy))
  | _ => none
def H.endR (h : H) (id : Nat) : Option H :=
  match h.m id with
  | .loop .busy => some (h.put id (.loop .ready))
  | _ => none
def H.endL (h : H) (id : Nat) : Option H :=
  match h.m id with
  | .loop .ready => some (h.put id (.loop .exhausted))
  | _ => none
def H.reserve (h : H) (n : Nat) : H := { h with next := h.next + n }
/-- The cells of an address's row, from the address on. -/
def H.from (h : H) : V → Option (List V)
  | .lp _ cs off => some (cs.drop off)
  | .hp id gen off => match h.m id with
    | .own cs _ => if cs.length = gen then some (cs.drop off) else none
    | _ => none
  | _ => none
def H.rd (h : H) (a : V) : Option V := (h.from a).bind fun cs => cs.head?
def H.rds (h : H) (a : V) (n : Nat) : Option (List V) := (h.from a).bind fun cs => if n ≤ cs.length ∧ n ≠ 0 then some (cs.take n) else none
/-- Some cells over those from a place on. -/
def splice (cs : List V) (off : Nat) (vs : List V) : List V := cs.take off ++ vs ++ cs.drop (off + vs.length)
def H.wrs (h : H) (a : V) (vs : List V) : Option H :=
  match a with
  | .hp id gen off => match h.m id with
    | .own cs e => if cs.length = gen ∧ off + vs.length ≤ cs.length then some (h.put id (.own (splice cs off vs) e)) else none
    | _ => none
  | _ => none
def H.wr (h : H) (a v : V) : Option H := h.wrs a [v]
def V.add : V → Nat → V
  | .hp id gen off, n => .hp id gen (off + n)
  | .lp f cs off, n => .lp f cs (off + n)
  | v, _ => v
/-- Is it an address of a cell (not nil)? -/
def V.nn : V → Bool
  | .hp .. => true
  | .lp _ cs _ => !cs.isEmpty
  | _ => false
/-- A row of no cells: its address may be nil. -/
def V.mayNil : V → Bool
  | .lp _ cs _ => cs.isEmpty
  | _ => false

/-- Is it an address of a cell, or a function? -/
def V.nnf : V → Bool
  | .hp .. | .func .. | .yld _ => true
  | .lp _ cs _ => !cs.isEmpty
  | _ => false
/-- Is it one cell? -/
def V.isCell : V → Bool
  | .agg _ | .tuple _ | .undef => false
  | _ => true

/-- A slice, taken apart. -/
structure SV where
  a : V
  len : Nat
  cap : Nat
  tail : Bool

/-- 'row': a slice by its elements (at the doors of functions on rows alone). -/
inductive Leaf where
  | int (k : IntKind)
  | bool | str | ptr | slice | map | dyn | tok
  | row (ls : List Leaf)
mutual
@[reducible] def Leaf.C : Leaf → Type
  | .int _ => Int
  | .bool => Bool
  | .str => ByteArray
  | .ptr => V
  | .slice => SV
  | .map => Option Nat
  | .dyn => V
  | .tok => Unit
  | .row ls => List (LT ls)
/-- Several leaves side by side. -/
@[reducible] def LT : List Leaf → Type
  | [] => Unit
  | [l] => l.C
  | l :: l' :: ls => l.C × LT (l' :: ls)
end
def Leaf.pack : (l : Leaf) → V → Option l.C
  | .int k, .int k' n => if k = k' then some n else none
  | .bool, .bool b => some b
  | .str, .str s => some s
  | .ptr, v => some v
  | .slice, .slice a l c t => some ⟨a, l, c, t⟩
  | .map, .map r => some r
  | .dyn, v => some v
  | .tok, .undef => some ()
  | _, _ => none
def Leaf.un : (l : Leaf) → l.C → V
  | .int k, n => .int k n
  | .bool, b => .bool b
  | .str, s => .str s
  | .ptr, a => a
  | .slice, s => .slice s.a s.len s.cap s.tail
  | .map, r => .map r
  | .dyn, v => v
  | .tok, _ => .undef
  | .row _, _ => .undef

def LT.pack : (ls : List Leaf) → List V → Option (LT ls)
  | [], [] => some ()
  | [l], [v] => l.pack v
  | l :: l' :: ls, v :: vs => (l.pack v).bind fun x => (LT.pack (l' :: ls) vs).bind fun y => some (x, y)
  | _, _ => none
def LT.un : (ls : List Leaf) → LT ls → List V
  | [], _ => []
  | [l], x => [l.un x]
  | l :: l' :: ls, x => l.un x.1 :: LT.un (l' :: ls) x.2

inductive Ty where
  | leaf (l : Leaf)
  | agg (ls : List Leaf)
abbrev Ty.C : Ty → Type
  | .leaf l => l.C
  | .agg ls => LT ls
def Ty.pack : (t : Ty) → V → Option t.C
  | .leaf l, v => l.pack v
  | .agg ls, .agg vs => LT.pack ls vs
  | .agg _, _ => none
def Ty.un : (t : Ty) → t.C → V
  | .leaf l, x => l.un x
  | .agg ls, x => .agg (LT.un ls x)
/-- Several values side by side. -/
abbrev TT : List Ty → Type
  | [] => Unit
  | [t] => t.C
  | t :: t' :: ts => t.C × TT (t' :: ts)
def TT.pack : (ts : List Ty) → List V → Option (TT ts)
  | [], [] => some ()
  | [t], [v] => t.pack v
  | t :: t' :: ts, v :: vs => (t.pack v).bind fun x => (TT.pack (t' :: ts) vs).bind fun y => some (x, y)
  | _, _ => none
def TT.un : (ts : List Ty) → TT ts → List V
  | [], _ => []
  | [t], x => [t.un x]
  | t :: t' :: ts, x => t.un x.1 :: TT.un (t' :: ts) x.2

/-- What a function gives: one value, or none or several. -/
inductive Res where
  | one (t : Ty)
  | many (ts : List Ty)
abbrev Res.C : Res → Type
  | .one t => t.C
  | .many ts => TT ts
def Res.pack : (r : Res) → V → Option r.C
  | .one t, v => t.pack v
  | .many ts, .tuple vs => TT.pack ts vs
  | .many _, _ => none
def Res.un : (r : Res) → r.C → V
  | .one t, x => t.un x
  | .many ts, x => .tuple (TT.un ts x)

/-! ### The shapes of types, off the program's own table -/

def leafOf : Value → Leaf
  | .int k _ => .int k
  | .bool _ => .bool
  | .string _ => .str
  | .pointer _ => .ptr
  | .slice .. => .slice
  | .map _ => .map
  | _ => .dyn
def zeroOf (P : Program) (t : TypeId) : Option Value := (P.info? t).bind (·.zero)
def sizeT (P : Program) (t : TypeId) : Option Nat := (P.info? t).map (·.size)
def bytesT (P : Program) (t : TypeId) : Option Nat := (P.info? t).map (·.bytes)
/-- Is it a struct's or an array's type? -/
def aggT (P : Program) (t : TypeId) : Option Bool :=
  match P.underlying t with
  | some (.struct _) => some true
  | some (.array ..) => some true
  | some _ => some false
  | none => none
def tyOf (P : Program) (t : TypeId) : Option Ty :=
  match aggT P t, zeroOf P t with
  | some true, some (.agg cs) => if sizeT P t = some cs.size then some (.agg (cs.toList.map leafOf)) else none
  | some true, _ => none
  | some false, some (.agg _) => none
  | some false, some z => some (.leaf (leafOf z))
  | _, _ => none
def resOf (P : Program) (t : TypeId) : Option Res :=
  match ((P.info? t).map (·.desc) : Option TypeDesc) with
  | some (.tuple es) => (es.toList.mapM (tyOf P)).map .many
  | _ => (tyOf P t).map .one
def ofConst : Value → V
  | .bool b => .bool b
  | .int k n => .int k n
  | .string s => .str s
  | .pointer none => .nil
  | .slice none 0 0 => .slice .nil 0 0 false
  | .map none => .map none
  | .nilFunc => .nilFunc
  | .nilIface => .nilIface
  | _ => .undef
/-- One cell: no struct, no array, no tuple. -/
def one : Value → Bool
  | .agg _ | .tuple _ => false
  | _ => true
def ofZero : Value → V
  | .agg cs => if cs.toList.all one then .agg (cs.toList.map ofConst) else .undef
  | v => ofConst v
def zeroCells (P : Program) (t : TypeId) : Option (List V) :=
  match zeroOf P t with
  | some z => if z.cells.toList.all one then some (z.cells.toList.map ofConst) else none
  | none => none
def V.cells : V → Option (List V)
  | .undef => none
  | .tuple _ => none
  | .agg cs => some cs
  | v => some [v]
def rdT (t : Ty) (h : H) (a : V) : Option t.C :=
  match t with
  | .leaf l => (h.rd a).bind l.pack
  | .agg ls => (h.rds a ls.length).bind (LT.pack ls)

/-- What package-level variables hold (their blocks, their cells), where the seat's rows list some. -/
def gls : List (Nat × Array Value) := []

/-! ### Tables of functions -/

/-- A function that is called: 'cps' hands its result on. 'quiet': it leaves the heap as it is. 'mono': a new block more does not matter. 'free': it may make blocks, and a block more, at a number that is kept for it, does not matter. 'loc': it is about the block of its first argument alone. -/
structure Entry where
  quiet : Bool
  cps : List V → H → {R : Type} → (V → H → Option R) → Option R
  mono : Bool := false
  hmono : mono = true → ∀ (args : List V) (h : H) (i : Nat) (s : Slot) (v : V) (h' : H), h.m i = .fresh → cps args h (fun v h => some (v, h)) = some (v, h') → cps args (h.put i s) (fun v h => some (v, h)) = some (v, h'.put i s) := by intro h; cases h
  free : Bool := false
  hfree : free = true → ∀ (args : List V) (h : H) (v : V) (h' : H), cps args h (fun v h => some (v, h)) = some (v, h') →
    h.next ≤ h'.next ∧ (∀ j, h.m j ≠ .fresh → h'.m j = h.m j) ∧ ∀ (i : Nat) (s : Slot), i < h.next → h.m i = .fresh → h'.m i = .fresh ∧ cps args (h.put i s) (fun v h => some (v, h)) = some (v, h'.put i s) := by intro h; cases h
  loc : Bool := false
  hloc : loc = true → ∀ (args : List V) (h : H) (v : V) (h' : H), cps args h (fun v h => some (v, h)) = some (v, h') →
    ∃ id g o l c t rest s, args = .slice (.hp id g o) l c t :: rest ∧ h.m id ≠ .fresh ∧ h' = h.put id s ∧ ∀ h₂ : H, h₂.m id = h.m id → cps args h₂ (fun v h => some (v, h)) = some (v, h₂.put id s) := by intro h; cases h
def Entry.none : Entry := { quiet := false, cps := fun _ _ _ _ => Option.none }
/-- Functions that are called as values; what 'yield' does; functions that are ranged over. -/
structure Dyn where
  fn : FuncId → Entry
  yl : Entry
  it : FuncId → Entry → Entry
structure Table where
  st : FuncId → Entry
  dy : Dyn
def Table.nil : Table := ⟨fun _ => Entry.none, ⟨fun _ => Entry.none, Entry.none, fun _ _ => Entry.none⟩⟩
def look : List (FuncId × Entry) → (FuncId → Entry) → FuncId → Entry
  | [], T => T
  | (f, e) :: l, T => fun g => bif Nat.beq g f then e else look l T g
def lookI : List (FuncId × (Entry → Entry)) → (FuncId → Entry → Entry) → FuncId → Entry → Entry
  | [], T => T
  | (f, e) :: l, T => fun g => bif Nat.beq g f then e else lookI l T g
/-- More functions: such as are called by name, and such as are called as values. -/
def tab (ls ld : List (FuncId × Entry)) (T : Table) : Table := ⟨look ls T.st, ⟨look ld T.dy.fn, T.dy.yl, T.dy.it⟩⟩
/-- More functions that are ranged over. -/
def tabI (l : List (FuncId × (Entry → Entry))) (T : Table) : Table := ⟨T.st, ⟨T.dy.fn, T.dy.yl, lookI l T.dy.it⟩⟩
def withY (T : Table) (Y : Entry) : Table := ⟨T.st, ⟨T.dy.fn, Y, T.dy.it⟩⟩
def Table.at (T : Table) : Operand → Dyn
  | .func _ => ⟨T.st, T.dy.yl, T.dy.it⟩
  | _ => T.dy
def callV (T : Dyn) (v : V) (args : List V) (h : H) {R : Type} (k : V → H → Option R) : Option R :=
  match v with
  | .func f cs => (T.fn f).cps (args ++ cs) h k
  | .yld id => T.yl.cps (.yld id :: args) h k
  | _ => none
/-- A call of a function that leaves the heap as it is. -/
def callQ (T : Dyn) (v : V) (args : List V) (h : H) {R : Type} (k : V → H → Option R) : Option R :=
  match v with
  | .func f cs => bif (T.fn f).quiet then (T.fn f).cps (args ++ cs) h k else none
  | _ => none
/-- A call of a function that may make blocks, and leaves all else as it is. -/
def callF (T : Dyn) (v : V) (args : List V) (h : H) {R : Type} (k : V → H → Option R) : Option R :=
  match v with
  | .func f cs => bif (T.fn f).free then (T.fn f).cps (args ++ cs) h k else none
  | _ => none
def callB (q y : Bool) (T : Dyn) (v : V) (args : List V) (h : H) {R : Type} (k : V → H → Option R) : Option R := bif q then callQ T v args h k else bif y then callF T v args h k else callV T v args h k
/-- A function that is ranged over is called. -/
def callIt {α : Type} (T : Dyn) (Y : Entry) (v : V) (args : List V) (h : H) (k : H → Option α) : Option α :=
  match v with
  | .func f cs => (T.it f Y).cps (args ++ cs) h fun _ h => k h
  | _ => none
/-- What 'yield' does, by a function of its arguments. -/
def mkY (ts : List Ty) (l : Nat) (f : TT ts → H → Option H) : Entry :=
  { quiet := false, cps := fun args h _ k => match args with
    | .yld id :: as => bif Nat.beq id l then (TT.pack ts as).bind fun x => (f x h).bind fun h' => k (.bool true) h' else none
    | _ => none }

/-! ### Operations -/

abbrev Env := Nat → V
def Env.set (env : Env) (t : Nat) (v : V) : Env := fun i => bif Nat.beq i t then v else env i
def ev (env : Env) : Operand → V
  | .tmp t => env t
  | .const v => ofZero v
  | .global _ => .undef
  | .func f => .func f []
def guardO {R : Type} (p : Prop) [Decidable p] (x : Option R) : Option R := if p then x else none
def bitsI (op : BinOp) (k : IntKind) (x y : Int) : Int :=
  let a := BitVec.ofInt k.bits x
  let b := BitVec.ofInt k.bits y
  k.wrap (match op with
    | .and => a &&& b
    | .or => a ||| b
    | .xor => a ^^^ b
    | _ => a &&& ~~~b).toNat
/-- Two rows of numbers, cell by cell. -/
def eqInts : List V → List V → Option Bool
  | [], [] => some true
  | [.int k a], [.int k' b] => if k = k' then some (decide (a = b)) else none
  | [.bool a], [.bool b] => some (a == b)
  | .int k a :: xs, .int k' b :: ys => if k = k' then (eqInts xs ys).map fun r => decide (a = b) && r else none
  | .bool a :: xs, .bool b :: ys => (eqInts xs ys).map fun r => (a == b) && r
  | _, _ => none
def intKindOf (P : Program) (t : TypeId) : Option IntKind :=
  match P.underlying t with
  | some (.int k) => some k
  | _ => none
def isBool (P : Program) (t : TypeId) : Bool :=
  match P.underlying t with
  | some .bool => true
  | _ => false
/-- A struct type all of whose fields are numbers and bools, none of them blank: which are bools. -/
def flatInts (P : Program) (t : TypeId) : Option (List Bool) :=
  match P.underlying t with
  | some (.struct fs) => bif !(P.stoodInHeld t) && (fs.toList.zipIdx.all fun (f, i) => f.offset == i && f.name != "_" && ((intKindOf P f.type).isSome || isBool P f.type)) then some (fs.toList.map fun f => isBool P f.type) else none
  | _ => none
def fits : List Bool → List V → Bool
  | [], [] => true
  | false :: bs, .int _ _ :: vs => fits bs vs
  | true :: bs, .bool _ :: vs => fits bs vs
  | _, _ => false
def isSlice (P : Program) (t : TypeId) : Option TypeId :=
  match P.underlying t with
  | some (.slice e) => some e
  | _ => none
def binInt (op : BinOp) (ka : IntKind) (a : Int) (kb : IntKind) (b : Int) {R : Type} (k : V → Option R) : Option R :=
  match op with
  | .shl => guardO (0 ≤ b) (k (.int ka (ka.wrap (a * 2 ^ (min b.toNat ka.bits)))))
  | .shr => guardO (0 ≤ b) (k (.int ka (a.fdiv (2 ^ (min b.toNat ka.bits)))))
  | _ => if ka = kb then
    match op with
    | .add => k (.int ka (ka.wrap (a + b)))
    | .sub => k (.int ka (ka.wrap (a - b)))
    | .mul => k (.int ka (ka.wrap (a * b)))
    | .quo => guardO (b ≠ 0) (k (.int ka (ka.wrap (a.tdiv b))))
    | .rem => guardO (b ≠ 0) (k (.int ka (a.tmod b)))
    | .and => k (.int ka (bitsI .and ka a b))
    | .or => k (.int ka (bitsI .or ka a b))
    | .xor => k (.int ka (bitsI .xor ka a b))
    | .andNot => k (.int ka (bitsI .andNot ka a b))
    | .eql => k (.bool (decide (a = b)))
    | .neq => k (.bool (!decide (a = b)))
    | .lss => k (.bool (decide (a < b)))
    | .leq => k (.bool (decide (a ≤ b)))
    | .gtr => k (.bool (decide (b < a)))
    | .geq => k (.bool (decide (b ≤ a)))
    | _ => none
    else none
def binStr (op : BinOp) (a b : ByteArray) {R : Type} (k : V → Option R) : Option R :=
  match op with
  | .eql => k (.bool (decide (a = b)))
  | .neq => k (.bool (!decide (a = b)))
  | .lss => k (.bool (Op.bytesLess a.toList b.toList))
  | .leq => k (.bool (Op.bytesLess a.toList b.toList || decide (a = b)))
  | .gtr => k (.bool (!(Op.bytesLess a.toList b.toList || decide (a = b))))
  | .geq => k (.bool (!Op.bytesLess a.toList b.toList))
  | _ => none
def binV (P : Program) (op : BinOp) (t : TypeId) (x y : V) {R : Type} (k : V → Option R) : Option R :=
  match x, y with
  | .int ka a, .int kb b => binInt op ka a kb b k
  | .str a, .str b => binStr op a b k
  | .bool a, .bool b => bif isBool P t then (match op with
      | .eql => k (.bool (a == b))
      | .neq => k (.bool (!(a == b)))
      | _ => none)
    else none
  | .slice a _ _ _, .slice .nil 0 0 false => bif (isSlice P t).isSome && !a.mayNil then (match op with
      | .eql => k (.bool (!a.nn))
      | .neq => k (.bool a.nn)
      | _ => none)
    else none
  | .agg xs, .agg ys => match flatInts P t with
    | some bs => bif fits bs xs && fits bs ys then (match op with
      | .eql => (eqInts xs ys).bind fun r => k (.bool r)
      | .neq => (eqInts xs ys).bind fun r => k (.bool (!r))
      | _ => none)
      else none
    | none => none
  | _, _ => none
def unV (op : UnOp) (x : V) {R : Type} (k : V → Option R) : Option R :=
  match op, x with
  | .neg, .int kd n => k (.int kd (kd.wrap (0 - n)))
  | .not, .bool b => k (.bool (!b))
  | .xor, .int kd n => k (.int kd (bitsI .xor kd (if kd.signed then -1 else kd.max) n))
  | _, _ => none
/-- The parts of a struct or an array over its zero. -/
def fillV (place : Nat → Option (Nat × Nat)) (cells : List V) : List (Nat × V) → Option (List V)
  | [] => some cells
  | (i, v) :: rest =>
    match place i, v.cells with
    | some (off, size), some cs => if cs.length = size ∧ off + cs.length ≤ cells.length then fillV place (splice cells off cs) rest else none
    | _, _ => none
def placeIn (P : Program) (t : TypeId) : Option (Nat → Option (Nat × Nat)) :=
  match P.underlying t with
  | some (.struct fs) => bif fs.toList.all fun f => (sizeT P f.type).isSome then some fun i => (fs[i]?).map fun f => (f.offset, (sizeT P f.type).getD 0) else none
  | some (.array _ e) => (sizeT P e).map fun s i => some (i * s, s)
  | _ => none
def repeatCells (z : List V) : Nat → List V
  | 0 => []
  | n + 1 => z ++ repeatCells z n
def evParts (env : Env) (ps : Array (Nat × Operand)) : List (Nat × V) := ps.toList.map fun p => (p.1, ev env p.2)
def fieldOff (P : Program) (t : TypeId) (f : Nat) : Option (Nat × TypeId) :=
  match P.underlying t with
  | some (.struct fs) => (fs[f]?).map fun g => (g.offset, g.type)
  | _ => none
/-- The part of a row of cells that is a value of a type. -/
def partV (P : Program) (t : TypeId) (cs : List V) (off : Nat) : Option V :=
  match tyOf P t, sizeT P t with
  | some (.leaf _), _ => cs[off]?
  | some (.agg _), some n => if off + n ≤ cs.length then some (.agg ((cs.drop off).take n)) else none
  | _, _ => none
/-- The cells of a value of a type. -/
def cellsT (P : Program) (t : TypeId) (v : V) {R : Type} (k : List V → Option R) : Option R :=
  match tyOf P t with
  | some (.leaf _) => guardO (v.isCell = true) (k [v])
  | some (.agg _) => match v with
    | .agg cs => k cs
    | _ => none
  | none => none
def minI (y x : Int) : Int := if y < x then y else x
def maxI (y x : Int) : Int := if y > x then y else x
def roomCells : Nat := 2 ^ 36
def newAt (h : H) (at_ : Option Nat) (cs : List V) (esz gen : Nat) {R : Type} (k : V → H → Option R) : Option R :=
  match at_ with
  | none => k (.hp h.next gen 0) (h.new cs esz)
  | some i => k (.hp i gen 0) (h.put i (.own cs esz))
/-- A slice's cells, as many as it has. -/
def cellsOf (h : H) (v : V) (esz : Nat) : Option (Nat × List V) :=
  match v with
  | .slice a len _ _ => if len = 0 then some (0, []) else (h.rds a (len * esz)).map fun cs => (len, cs)
  | _ => none
/-- How an append goes: to a slice of no room or to one of a literal (a new block), or to a block of the call's own that it fills. -/
def appendV (h : H) (at_ : Option Nat) (esz bytes : Nat) (s : V) (cs : List V) (n : Nat) {R : Type} (k : V → H → Option R) : Option R :=
  match s with
  | .slice a len cap tail =>
    if n = 0 then k (.slice a len cap tail) h else
    guardO (len + n ≤ roomCells ∧ bytes ≤ 2 ^ 11) (
    match a with
    | .hp id gen off => match h.m id with
      | .own old e =>
        if cap = 0 then (if tail = false ∧ len = 0 ∧ at_ = none then newAt h none cs esz (n * esz) fun p h' => k (.slice p n n true) h' else none)
        else if len + n ≤ cap then (h.wrs (.hp id gen (off + len * esz)) cs).bind fun h' => k (.slice a (len + n) cap tail) h'
        else if off = 0 ∧ tail = true ∧ old.length = gen ∧ e = esz ∧ cap * esz = gen ∧ len ≤ cap ∧ 0 < esz then
          k (.slice (.hp id ((len + n) * esz) 0) (len + n) (len + n) true) (h.put id (.own (old.take (len * esz) ++ cs) esz))
        else if tail = false ∧ at_ = none then (cellsOf h (.slice (.hp id gen off) len cap tail) esz).bind fun o => newAt h none (o.2 ++ cs) esz ((len + n) * esz) fun p h' => k (.slice p (len + n) (len + n) true) h'
        else none
      | _ => none
    | _ =>
      if cap = 0 ∧ tail = false ∧ len = 0 then
        newAt h at_ cs esz (n * esz) fun p h' => k (.slice p n n true) h'
      else if tail = false ∧ cap < len + n then
        (cellsOf h (.slice a len cap tail) esz).bind fun o => newAt h at_ (o.2 ++ cs) esz ((len + n) * esz) fun p h' => k (.slice p (len + n) (len + n) true) h'
      else none)
  | _ => none
def isArray (P : Program) (t : TypeId) : Option (Nat × TypeId) :=
  match P.underlying t with
  | some (.array n e) => some (n, e)
  | _ => none
def appendS (h : H) (at_ : Option Nat) (esz bytes : Nat) (s : SV) (cs : List V) (n : Nat) : Option (SV × H) :=
  appendV h at_ esz bytes (.slice s.a s.len s.cap s.tail) cs n fun v h' => match v with
    | .slice a l c t => some (⟨a, l, c, t⟩, h')
    | _ => none
/-- What an append appends: a slice's cells, or zero ones, as many as a number says. -/
def srcCells (P : Program) (u : TypeId) (z : List V) (bytes : Nat) (h : H) (x : V) (esz : Nat) : Option (Nat × List V) :=
  match isSlice P u with
  | some _ => cellsOf h x esz
  | none => match P.underlying u, x with
    | some (.int .i64), .int _ m => guardO (0 ≤ m ∧ m ≤ roomCells ∧ bytes ≤ 2 ^ 11) (some (m.toNat, repeatCells z m.toNat))
    | _, _ => none
def boundOr (v : Option V) (d : Nat) {R : Type} (k : Int → Option R) : Option R :=
  match v with
  | none => k d
  | some (.int _ n) => k n
  | some _ => none
def sliceV (size : Nat) (a : V) (len cap : Nat) (tail : Bool) (lo hi mx : Option V) {R : Type} (k : V → Option R) : Option R :=
  match mx with
  | none => boundOr lo 0 fun l => boundOr hi len fun r =>
      guardO (0 ≤ l ∧ l ≤ r ∧ r ≤ cap) (k (.slice (a.add (l.toNat * size)) (r.toNat - l.toNat) (cap - l.toNat) tail))
  | some mx => match hi with
    | none => none
    | some hi => boundOr lo 0 fun l => boundOr (some hi) 0 fun r => boundOr (some mx) 0 fun m =>
      guardO (0 ≤ l ∧ l ≤ r ∧ r ≤ m ∧ m ≤ cap) (k (.slice (a.add (l.toNat * size)) (r.toNat - l.toNat) (m.toNat - l.toNat) false))
/-- The cells from an address on, as many elements of zeros. -/
def clearH (h : H) (a : V) (z : List V) (len : Nat) : Option H := if len = 0 then some h else h.wrs a (repeatCells z len)
def builtinOp (P : Program) (b : Builtin) (argTypes : Array TypeId) (at_ : Option Nat) (args : List V) (h : H) {R : Type} (k : V → H → Option R) : Option R :=
  match b, args with
  | .len, [x] => match argTypes[0]? with
    | some t => match P.underlying t, x with
      | some (.slice _), .slice _ n _ _ => k (.int .i64 n) h
      | some .string, .str s => k (.int .i64 s.size) h
      | some (.array n _), _ => k (.int .i64 n) h
      | _, _ => none
    | none => none
  | .cap, [.slice _ _ c t] => match argTypes[0]? with
    | some u => bif (isSlice P u).isSome && !t then k (.int .i64 c) h else none
    | none => none
  | .min, [.int ka a, .int _ b] => k (.int ka (minI b a)) h
  | .max, [.int ka a, .int _ b] => k (.int ka (maxI b a)) h
  | .min, [.int ka a, .int _ b, .int _ c] => k (.int ka (minI c (minI b a))) h
  | .max, [.int ka a, .int _ b, .int _ c] => k (.int ka (maxI c (maxI b a))) h
  | .append, [s, x] => match argTypes[0]?, argTypes[1]? with
    | some t, some u => match isSlice P t with
      | some e => match sizeT P e, bytesT P e, zeroCells P e with
        | some esz, some bytes, some z => if z.length = esz then match s with
            | .slice a l cp t => (srcCells P u z bytes h x esz).bind fun c => (appendS h at_ esz bytes ⟨a, l, cp, t⟩ c.2 c.1).bind fun r => k (.slice r.1.a r.1.len r.1.cap r.1.tail) r.2
            | _ => none
          else none
        | _, _, _ => none
      | none => none
    | _, _ => none
  | .copy, [.slice a len _ _, x] => match argTypes[0]? with
    | some t => match isSlice P t with
      | some e => match sizeT P e with
        | some esz => (cellsOf h x esz).bind fun c =>
            if min c.1 len = 0 then k (.int .i64 0) h
            else (h.wrs a (c.2.take (min c.1 len * esz))).bind fun h' => k (.int .i64 (min c.1 len : Nat)) h'
        | none => none
      | none => none
    | none => none
  | .clear, [.slice a len _ _] => match argTypes[0]? with
    | some t => match isSlice P t with
      | some e => match zeroCells P e with
        | some z => (clearH h a z len).bind fun h' => k (.tuple []) h'
        | none => none
      | none => none
    | none => none
  | _, _ => none
/-- The result of a call, in the spelling of its type. -/
def retype (P : Program) (t : TypeId) (v : V) {R : Type} (k : V → Option R) : Option R :=
  match resOf P t with
  | some r => (r.pack v).bind fun x => k (r.un x)
  | none => none
/-- Two results, of the first of which nothing is known. -/
def retypeU (P : Program) (t : TypeId) (v : V) {R : Type} (k : V → Option R) : Option R :=
  match v, resOf P t with
  | .tuple [.undef, x], some (.many [_, t2]) => (t2.pack x).bind fun y => k (.tuple [.undef, t2.un y])
  | _, _ => none
def retypeB (b : Bool) (P : Program) (t : TypeId) (v : V) {R : Type} (k : V → Option R) : Option R := bif b then retypeU P t v k else retype P t v k
/-- Which row literals are made in the call's own memory (by the slot that gets them); all others are rows that nobody writes. -/
structure Ann where
  lits : List Nat
  conds : List (Nat × List Nat × List Ty × Option Nat × Option Nat)
  loops : List (Nat × List Nat × List Ty × List Nat × List Ty × Option Nat × Option Nat)
  regs : List (Nat × List Nat × List Ty)
  rnds : List (Nat × List Ty) := []
  apps : List Nat := []
  inr : Bool := false
  ros : List Nat := []
  rol : List Nat := []
  qd : List Nat := []
  yd : List Nat := []
  toks : List Nat := []
  ents : List (Nat × Ty × Ty) := []
/-- A map from numbers to numbers: the place of a key; its value. -/
def placeM (k : Int) : List (Int × Int) → Option Nat
  | [] => none
  | (a, _) :: es => if k = a then some 0 else (placeM k es).map (· + 1)
def getM (k : Int) : List (Int × Int) → Option Int
  | [] => none
  | (a, v) :: es => if k = a then some v else getM k es
def setM (k v : Int) : List (Int × Int) → List (Int × Int)
  | [] => [(k, v)]
  | (a, u) :: es => if k = a then (a, v) :: es else (a, u) :: setM k v es
def isMap (P : Program) (t : TypeId) : Option (IntKind × IntKind) :=
  match P.underlying t with
  | some (.map a b) => match P.underlying a, zeroOf P b with
    | some (.int kk), some (.int vk 0) => some (kk, vk)
    | _, _ => none
  | _ => none
def H.imap (h : H) (id : Nat) (kk vk : IntKind) : Option (List (Int × Int)) :=
  match h.m id with
  | .imap k v es => if k = kk ∧ v = vk then some es else none
  | _ => none
/-! Maps whose keys are numbers, texts or rows of numbers -/
def Leaf.keyEq : (l : Leaf) → l.C → l.C → Bool
  | .int _, a, b => decide (a = b)
  | .str, a, b => decide (a = b)
  | _, _, _ => false
def LT.keyEq : (ls : List Leaf) → LT ls → LT ls → Bool
  | [], _, _ => true
  | [l], a, b => l.keyEq a b
  | l :: l' :: ls, a, b => l.keyEq a.1 b.1 && LT.keyEq (l' :: ls) a.2 b.2
def Ty.keyEq : (t : Ty) → t.C → t.C → Bool
  | .leaf l, a, b => l.keyEq a b
  | .agg ls, a, b => LT.keyEq ls a b
def Leaf.isInt : Leaf → Bool
  | .int _ => true
  | _ => false
def keyTy (P : Program) (a : TypeId) : Option Ty :=
  match P.underlying a with
  | some (.int k) => some (.leaf (.int k))
  | some .string => some (.leaf .str)
  | some (.struct _) => match flatInts P a, tyOf P a with
    | some bs, some (.agg ls) => bif (bs.all fun b => !b) && Nat.beq bs.length ls.length && ls.all Leaf.isInt then some (.agg ls) else none
    | _, _ => none
  | _ => none
/-- A map's key type, its element type, and this one's zero. -/
def isGMap (P : Program) (t : TypeId) : Option (Ty × Ty × V) :=
  match P.underlying t with
  | some (.map a b) => match keyTy P a, tyOf P b, zeroOf P b with
    | some kt, some vt, some z => some (kt, vt, ofZero z)
    | _, _, _ => none
  | _ => none
def unG (kt vt : Ty) : List (V × V) → Option (List (kt.C × vt.C))
  | [] => some []
  | (a, b) :: es => (kt.pack a).bind fun x => (vt.pack b).bind fun y => (unG kt vt es).bind fun l => some ((x, y) :: l)
def upG (kt vt : Ty) (l : List (kt.C × vt.C)) : List (V × V) := l.map fun p => (kt.un p.1, vt.un p.2)
def H.gmap (h : H) (id : Nat) (kt vt : Ty) : Option (List (kt.C × vt.C)) :=
  match h.m id with
  | .gmap es => unG kt vt es
  | _ => none
def placeG (kt : Ty) {β : Type} (x : kt.C) : List (kt.C × β) → Option Nat
  | [] => none
  | p :: l => bif kt.keyEq x p.1 then some 0 else (placeG kt x l).map (· + 1)
/-- What a list has under a key, or the zero. -/
def valG (kt : Ty) {β : Type} (z : β) (x : kt.C) (l : List (kt.C × β)) : β × Bool :=
  match placeG kt x l with
  | some i => (((l[i]?).map (·.2)).getD z, true)
  | none => (z, false)
/-- What a map has under a key, or the zero. -/
def lookG (h : H) (id : Nat) (kt vt : Ty) (z : vt.C) (x : kt.C) : Option (vt.C × Bool) := (h.gmap id kt vt).map fun l => valG kt z x l
def putG (kt : Ty) {β : Type} (x : kt.C) (v : β) (l : List (kt.C × β)) : List (kt.C × β) :=
  match placeG kt x l with
  | some i => l.set i (x, v)
  | none => l ++ [(x, v)]
def setG (h : H) (id : Nat) (kt vt : Ty) (x : kt.C) (v : vt.C) : Option H :=
  (h.gmap id kt vt).map fun l => h.put id (.gmap (upG kt vt (putG kt x v l)))
/-- The entry with a key, made if there is none: its value, its number. -/
def entG (h : H) (id : Nat) (kt vt : Ty) (z : vt.C) (x : kt.C) : Option ((vt.C × Int) × H) :=
  (h.gmap id kt vt).map fun l => match placeG kt x l with
    | some i => ((((l[i]?).map (·.2)).getD z, (i : Int)), h)
    | none => ((z, (l.length : Int)), h.put id (.gmap (upG kt vt (l ++ [(x, z)]))))
/-- A value into an entry. -/
def atG (h : H) (id : Nat) (kt vt : Ty) (i : Int) (v : vt.C) : Option H :=
  (h.gmap id kt vt).bind fun l => guardO (0 ≤ i ∧ i < l.length) (some (h.put id (.gmap (upG kt vt (l.modify i.toNat fun p => (p.1, v))))))
/-! Ranges over maps -/
def getE {α : Type} (k : Nat) : List (Nat × α) → Option α
  | [] => none
  | (i, a) :: l => bif Nat.beq i k then some a else getE k l
mutual
def V.beq : V → V → Bool
  | .undef, .undef | .nil, .nil | .nilFunc, .nilFunc | .nilIface, .nilIface => true
  | .bool a, .bool b => a == b
  | .int k a, .int k' b => decide (k = k') && decide (a = b)
  | .str a, .str b => decide (a = b)
  | .hp a b c, .hp a' b' c' => decide (a = a') && decide (b = b') && decide (c = c')
  | .lp f cs o, .lp f' cs' o' => (f == f') && V.beqs cs cs' && decide (o = o')
  | .slice a l c t, .slice a' l' c' t' => V.beq a a' && decide (l = l') && decide (c = c') && (t == t')
  | .map r, .map r' => decide (r = r')
  | .func f cs, .func f' cs' => decide (f = f') && V.beqs cs cs'
  | .agg cs, .agg cs' => V.beqs cs cs'
  | .tuple cs, .tuple cs' => V.beqs cs cs'
  | .yld a, .yld b => decide (a = b)
  | _, _ => false
def V.beqs : List V → List V → Bool
  | [], [] => true
  | a :: l, b :: l' => V.beq a b && V.beqs l l'
  | _, _ => false
end
/-- The map stands as it stood, and so does the record of the range over it. -/
def rangeOK (h h' : H) (iid mid n : Nat) (seen : List Nat) : Bool :=
  (match h.m mid, h'.m mid with
  | .gmap es, .gmap es' => V.beqs (es.map (·.1)) (es'.map (·.1)) && V.beqs (es.map (·.2)) (es'.map (·.2))
  | _, _ => false) &&
  (match h'.m iid with
  | .miter m' n' s' => decide (m' = mid) && decide (n' = n) && decide (s' = seen)
  | _ => false)
/-- A record of a range over a map of which nothing has been seen: its number, the map's, how many entries there are. -/
def iterAt (h : H) (a : V) : Option (Nat × Nat × Nat) :=
  match a with
  | .hp iid 0 0 => match h.m iid with
    | .miter mid n [] => match h.m mid with
      | .gmap es => guardO (es.length = n ∧ n ≤ 2 ^ 40) (some (iid, mid, n))
      | _ => none
    | _ => none
  | _ => none
/-- The entry that came last. -/
def curG (h : H) (a : V) (kt vt : Ty) : Option (kt.C × vt.C) :=
  match a with
  | .hp iid 0 0 => match h.m iid with
    | .miter mid n seen => (seen.getLast?).bind fun i => (h.gmap mid kt vt).bind fun l => guardO (l.length = n) (l[i]?)
    | _ => none
  | _ => none
/-- Is it a call, of a function as a value, that may stand beside blocks that are made? -/
def ydOf (A : Ann) (dst : Option Tmp) : Operand → Bool
  | .func _ => false
  | _ => A.yd.any fun t => dst == some t
def stepOp (P : Program) (T : Table) (A : Ann) (o : Oper) (at_ : Option Nat) (env : Env) (h : H) {R : Type} (k : V → H → Option R) : Option R :=
  match o.op with
  | .move x | .assign x => k (ev env x) h
  | .pick c a b => match ev env c, ev env a, ev env b with
    | .bool c, .bool p, .bool q => k (.bool (cond c p q)) h
    | .bool c, va, vb => cond c (k va h) (k vb h)
    | _, _, _ => none
  | .alloc e => (zeroCells P e).bind fun z => newAt h at_ z z.length z.length k
  | .box e x => cellsT P e (ev env x) fun z => bif A.ros.any fun t => o.dst == some t then k (.lp true z 0) h else newAt h at_ z z.length z.length k
  | .build t ps => match zeroCells P t, placeIn P t with
    | some z, some place => (fillV place z (evParts env ps)).bind fun cs => k (.agg cs) h
    | _, _ => none
  | .buildSlice t n ps => match isSlice P t with
    | some e => match sizeT P e with
      | some esz => (if n * esz = 0 then some [] else (zeroCells P e).bind fun z => guardO (z.length = esz) (some (repeatCells z n))).bind fun c0 =>
        (fillV (fun i => some (i * esz, esz)) c0 (evParts env ps)).bind fun cs =>
          guardO (n * esz ≤ 2 ^ 20) (
          bif A.lits.any fun t => o.dst == some t then newAt h at_ cs esz cs.length fun p h' => k (.slice p n n false) h'
          else k (.slice (.lp true cs 0) n n false) h)
      | none => none
    | none => none
  | .load t a => match tyOf P t with
    | some ty => (rdT ty (bif A.rol.any fun t => o.dst == some t then H.empty else h) (ev env a)).bind fun x => k (ty.un x) h
    | none => none
  | .store t a x => match sizeT P t with
    | some n => cellsT P t (ev env x) fun vs => if vs.length = n then (h.wrs (ev env a) vs).bind fun h' => k (.tuple []) h' else none
    | none => none
  | .nilCheck x => guardO ((ev env x).nnf = true) (k (ev env x) h)
  | .binOp op t x y _ => binV P op t (ev env x) (ev env y) fun v => k v h
  | .unOp op _ x => unV op (ev env x) fun v => k v h
  | .convert src dst x => bif (P.underlying src).isNone then none else match intKindOf P dst, ev env x with
    | some kd, .int _ n => k (.int kd (kd.wrap n)) h
    | none, .str s => match P.underlying dst with
      | some .string => k (.str s) h
      | _ => none
    | _, _ => none
  | .makeFunc (.func f) first cs => match first.toList with
    | [] => k (.func f (cs.toList.map (ev env))) h
    | _ => none
  | .makeSlice t l c => match isSlice P t, ev env l, ev env c with
    | some e, .int .i64 l, .int .i64 c => match zeroCells P e, bytesT P e, sizeT P e with
      | some z, some bytes, some esz => guardO (0 ≤ l ∧ l ≤ c ∧ c ≤ roomCells ∧ bytes ≤ 2 ^ 11 ∧ z.length = esz)
          (newAt h at_ (repeatCells z c.toNat) esz (c.toNat * esz) fun p h' => k (.slice p l.toNat c.toNat true) h')
      | _, _, _ => none
    | _, _, _ => none
  | .slice t x lo hi mx => match isSlice P t with
    | some e => match ev env x with
      | .slice a len cap tail => match sizeT P e with
        | some size => sliceV size a len cap tail (lo.map (ev env)) (hi.map (ev env)) (mx.map (ev env)) fun v => k v h
        | none => none
      | _ => none
    | none => match isArray P t with
      | some (n, e) => match sizeT P e with
        | some size => guardO ((ev env x).nn = true) (sliceV size (ev env x) n n false (lo.map (ev env)) (hi.map (ev env)) (mx.map (ev env)) fun v => k v h)
        | none => none
      | none => none
  | .fieldAddr t x f => match fieldOff P t f with
    | some (off, ft) => match sizeT P ft with
      | some (_ + 1) => guardO ((ev env x).nn = true) (k ((ev env x).add off) h)
      | _ => none
    | none => none
  | .field t x f => match fieldOff P t f, ev env x with
    | some (off, ft), .agg cs => (partV P ft cs off).bind fun v => k v h
    | _, _ => none
  | .indexAddr t x ix => match isSlice P t with
    | some e => match ev env x, ev env ix with
      | .slice a len _ _, .int _ i => match sizeT P e with
        | some size => guardO (0 ≤ i ∧ i < len) (k (a.add (i.toNat * size)) h)
        | none => none
      | _, _ => none
    | none => match isArray P t, ev env ix with
      | some (n, e), .int _ i => match sizeT P e with
        | some size => guardO ((ev env x).nn = true ∧ 0 ≤ i ∧ i < n) (k ((ev env x).add (i.toNat * size)) h)
        | none => none
      | _, _ => none
  | .index t x ix => match ev env x, ev env ix with
    | .agg cs, .int _ i => match isArray P t with
      | some (n, e) => match sizeT P e with
        | some size => guardO (0 ≤ i ∧ i < n) ((partV P e cs (i.toNat * size)).bind fun v => k v h)
        | none => none
      | none => none
    | .str s, .int _ i => match P.underlying t with
      | some .string => guardO (0 ≤ i ∧ i < s.size) (k (.int .u8 (((s.data[i.toNat]?).map UInt8.toNat).getD 0 : Nat)) h)
      | _ => none
    | _, _ => none
  | .extract x ix => match ev env x with
    | .tuple vs => (vs[ix]?).bind fun v => k v h
    | _ => none
  | .makeMap t r => match r with
    | none => match isMap P t with
      | some (kk, vk) => k (.map (some h.next)) (h.newS (.imap kk vk []))
      | none => match isGMap P t with
        | some _ => k (.map (some h.next)) (h.newS (.gmap []))
        | none => none
    | some _ => none
  | .lookup t m x c => match isMap P t with
    | some (kk, vk) => match ev env m, ev env x, c with
      | .map r, .int kx n, false => guardO (kx = kk) (match r with
        | none => none
        | some id => (h.imap id kk vk).bind fun es => k (.int vk ((getM n es).getD 0)) h)
      | _, _, _ => none
    | none => match isGMap P t, ev env m with
      | some (kt, vt, zv), .map r => r.bind fun id => (kt.pack (ev env x)).bind fun key => (vt.pack zv).bind fun z => (lookG h id kt vt z key).bind fun p => k (cond c (.tuple [vt.un p.1, .bool p.2]) (vt.un p.1)) h
      | _, _ => none
  | .mapUpdate t m x y => match isMap P t with
    | some (kk, vk) => match ev env m, ev env x, ev env y with
      | .map r, .int kx n, .int ky v => guardO (kx = kk ∧ ky = vk) (match r with
        | none => none
        | some id => (h.imap id kk vk).bind fun es => k (.tuple []) (h.put id (.imap kk vk (setM n v es))))
      | _, _, _ => none
    | none => match isGMap P t, ev env m with
      | some (kt, vt, _), .map r => r.bind fun id => (kt.pack (ev env x)).bind fun key => (vt.pack (ev env y)).bind fun v => (setG h id kt vt key v).bind fun h' => k (.tuple []) h'
      | _, _ => none
  | .mapEntry t m x => match isMap P t with
    | some _ => none
    | none => match isGMap P t, ev env m with
      | some (kt, vt, zv), .map r => r.bind fun id => (kt.pack (ev env x)).bind fun key => (vt.pack zv).bind fun z => (entG h id kt vt z key).bind fun p => k (.tuple [vt.un p.1.1, .int .i64 p.1.2]) p.2
      | _, _ => none
  | .entryStore t m i y => match isMap P t with
    | some _ => none
    | none => match isGMap P t, ev env m, ev env i with
      | some (kt, vt, _), .map r, .int .i64 i => r.bind fun id => (vt.pack (ev env y)).bind fun v => (atG h id kt vt i v).bind fun h' => k (.tuple []) h'
      | _, _, _ => none
  | .range t m => match isMap P t with
    | some _ => none
    | none => match isGMap P t, ev env m with
      | some (kt, vt, _), .map r => r.bind fun id => (h.gmap id kt vt).bind fun l => k (.hp h.next 0 0) (h.newS (.miter id l.length []))
      | _, _ => none
  | .entry x => match o.dst with
    | some d => match getE d A.ents with
      | some (kt, vt) => (curG h (ev env x) kt vt).bind fun p => k (.tuple [kt.un p.1, vt.un p.2]) h
      | none => none
    | none => none
  | .call c => match c.callee with
    | .value f => callB (A.qd.any fun t => o.dst == some t) (ydOf A o.dst f) (T.at f) (ev env f) (c.args.toList.map (ev env)) h fun v h' => retypeB (A.toks.any fun t => o.dst == some t) P o.type v fun v => k v h'
    | .builtin b => builtinOp P b c.argTypes at_ (c.args.toList.map (ev env)) h k
    | .invoke .. => none
  | _ => none

/-! ### Regions -/

inductive Cls where
  | p | r | l | n | w | x | g | m | y
def litOwn (A : Ann) (dst : Option Tmp) : Bool := A.lits.any fun t => dst == some t
def litRo (A : Ann) (dst : Option Tmp) : Bool := A.ros.any fun t => dst == some t
def litRol (A : Ann) (dst : Option Tmp) : Bool := A.rol.any fun t => dst == some t
def cls (T : Table) (A : Ann) (o : Oper) : Cls :=
  match o.op with
  | .move _ | .assign _ | .pick .. | .build .. | .nilCheck _ | .binOp .. | .unOp .. | .convert .. | .makeFunc .. | .fieldAddr .. | .field .. | .indexAddr .. | .index .. | .extract .. | .slice .. => .p
  | .buildSlice .. => bif litOwn A o.dst then .n else .p
  | .call { callee := .builtin .len, .. } | .call { callee := .builtin .min, .. } | .call { callee := .builtin .max, .. } => .p
  | .load .. => bif litRol A o.dst then .p else .l
  | .box .. => bif litRo A o.dst then .p else .n
  | .alloc _ | .makeSlice .. => .n
  | .store .. => .w
  | .lookup .. => .r
  | .call { callee := .value (.func g), .. } => bif (T.st g).quiet then (bif (T.st g).mono then .m else .r) else (bif (T.st g).free then .y else bif (T.st g).loc then .w else .x)
  | .call { callee := .value _, .. } => bif A.qd.any fun t => o.dst == some t then .r else bif A.yd.any fun t => o.dst == some t then .y else .x
  | .call { callee := .builtin .append, .. } => bif A.apps.any fun t => o.dst == some t then .g else .x
  | _ => .x
def pairOk : Cls → Cls → Bool
  | .p, _ | _, .p | .r, .r | .n, .n | .l, .l | .l, .r | .r, .l | .m, .m | .m, .r | .r, .m | .m, .l | .l, .m | .m, .n | .y, .n | .y, .l | .l, .y => true
  | _, _ => false
/-- Two operations that may change places if they are about different blocks. -/
def conflC : Cls → Cls → Bool
  | .l, .w | .w, .l | .n, .w | .w, .n | .n, .l | .l, .n | .w, .w | .g, .l | .l, .g | .g, .n | .n, .g | .g, .w | .w, .g | .g, .g => true
  | _, _ => false
/-- The block that an append is about, if what is appended lies in none. -/
def appAddr (s x : V) (at_ : Option Nat) : V :=
  match x with
  | .slice (.lp ..) _ _ _ => match s with
    | .slice (.hp id g o) _ _ _ => .hp id g o
    | _ => match at_ with
      | some i => .hp i 0 0
      | none => .undef
  | _ => .agg []
/-- The block of a call's first argument. -/
def firstAddr : List V → V
  | .slice a _ _ _ :: _ => a
  | _ => .undef
/-- The cell that an operation is about. -/
def addrOf (o : Oper) (at_ : Option Nat) (env : Env) : V :=
  match o.op with
  | .load _ x => ev env x
  | .store _ x _ => ev env x
  | .call { callee := .builtin .append, args := args, .. } => match args.toList.map (ev env) with
    | [s, x] => appAddr s x at_
    | _ => .agg []
  | .call { callee := .value (.func _), args := args, .. } => firstAddr (args.toList.map (ev env))
  | _ => match at_ with
    | some i => .hp i 0 0
    | none => .undef
/-- The slots that an append's address is about. -/
def addrTmps (o : Oper) : List Tmp :=
  match o.op with
  | .load _ (.tmp t) => [t]
  | .store _ (.tmp t) _ => [t]
  | .call { callee := .builtin .append, args := args, .. } => args.toList.filterMap fun | .tmp t => some t | _ => none
  | .call { callee := .value (.func _), args := args, .. } => args.toList.filterMap fun | .tmp t => some t | _ => none
  | _ => []
/-- Do they lie in different blocks? -/
def apartA : V → V → Bool
  | .hp i _ _, .hp j _ _ => !(Nat.beq i j)
  | .agg _, _ | _, .agg _ => false
  | _, _ => true
/-- The address of an operation stays as it is, from it on. -/
def steady (ops : Array Oper) (i : Nat) : Bool :=
  match ops[i]? with
  | none => true
  | some o => (addrTmps o).all fun t => (ops.toList.drop i).all fun o => o.dst != some t
def maskOf (acc : List Nat) (o : Oper) : Nat :=
  o.after.toList.foldl (fun s e => if Region.binds .any e then s ||| 2 ^ e.on ||| acc.getD e.on 0 else s) 0
def masksOf : List Oper → List Nat → List Nat
  | [], acc => acc
  | o :: os, acc => masksOf os (acc ++ [maskOf acc o])
def Cls.isN : Cls → Bool
  | .n | .g => true
  | _ => false
def Cls.isX : Cls → Bool
  | .x => true
  | _ => false
def countN (T : Table) (A : Ann) : List Oper → Nat
  | [] => 0
  | o :: os => bif (cls T A o).isN then countN T A os + 1 else countN T A os
/-- The pairs of operations without an order that must be about different blocks. -/
def conflL (T : Table) (A : Ann) (ops : Array Oper) : List (Nat × Nat) :=
  let ms := masksOf ops.toList []
  ops.toList.zipIdx.flatMap fun (oj, j) => (ops.toList.take j).zipIdx.filterMap fun (oi, i) =>
    bif !((ms.getD j 0).testBit i) && conflC (cls T A oi) (cls T A oj) then some (i, j) else none
/-- May every two operations without an order between them change places? -/
def drawOk (T : Table) (A : Ann) (ops : Array Oper) : Bool :=
  let ms := masksOf ops.toList []
  Region.noSelect ops && ((conflL T A ops).all fun p => steady ops p.1 && steady ops p.2) && ((ops.toList.all fun o => !(cls T A o).isX) || Nat.beq (countN T A ops.toList) 0) && (ops.toList.zipIdx.all fun (oj, j) => (oj.after.all fun e => !Region.binds .any e || Nat.blt e.on j) &&
    ((ops.toList.take j).zipIdx.all fun (oi, i) => (ms.getD j 0).testBit i || ((pairOk (cls T A oi) (cls T A oj) || conflC (cls T A oi) (cls T A oj)) && oi.apart ops oj)))
/-- Each operation with the number of the block that it makes. -/
def withIds (T : Table) (A : Ann) : List Oper → Nat → List (Oper × Option Nat)
  | [], _ => []
  | o :: os, i => bif (cls T A o).isN then (o, some i) :: withIds T A os (i + 1) else (o, none) :: withIds T A os i
def addrAt (ids : List (Oper × Option Nat)) (env : Env) (i : Nat) : V :=
  match ids[i]? with
  | some (o, at_) => addrOf o at_ env
  | none => .undef
def guardsC (ids : List (Oper × Option Nat)) (env : Env) : List (Nat × Nat) → {R : Type} → Option R → Option R
  | [], _, x => x
  | (i, j) :: l, _, x => guardO (apartA (addrAt ids env i) (addrAt ids env j) = true) (guardsC ids env l x)
/-- A result into its slot, if the frame has it. -/
def putD (N : Nat) (dst : Option Tmp) (v : V) (env : Env) {R : Type} (k : Env → Option R) : Option R :=
  match dst with
  | none => k env
  | some d => bif Nat.blt d N then k (env.set d v) else none
def runOps (P : Program) (T : Table) (A : Ann) (N : Nat) (ops : Array Oper) : List (Oper × Option Nat) → Env → H → {R : Type} → (Env → H → Option R) → Option R
  | [], env, h, _, k => k env h
  | (o, at_) :: os, env, h, _, k =>
    match o.guard with
    | none => stepOp P T A o at_ env h fun v h' => putD N o.dst v env fun env => runOps P T A N ops os env h' k
    | some (j, want) =>
      match (ops[j]?).bind (·.dst) with
      | none => none
      | some t => match env t with
        | .bool g => cond (bif want then g else !g)
            (stepOp P T A o at_ (env.set t (.bool want)) h fun v h' => putD N o.dst v (env.set t (.bool want)) fun env => runOps P T A N ops os env h' k)
            (putD N o.dst (.tuple []) (env.set t (.bool (!want))) fun env => runOps P T A N ops os env h k)
        | .tuple [] => putD N o.dst (.tuple []) env fun env => runOps P T A N ops os env h k
        | _ => none

/-! ### Code -/

inductive Ex where
  | normal
  | exit (id : Nat)
  | ret (v : V)
inductive Flow (T RT : Type) where
  | next (t : T) | ret (r : RT) | ex0 (t : T) | ex1 (t : T)
inductive Stp (S F : Type) where
  | more (s : S) | done (f : F)
def iter {S F : Type} : Nat → (S → Option (Stp S F)) → S → Option F
  | 0, _, _ => none
  | n + 1, f, s => (f s).bind fun
    | .more s' => iter n f s'
    | .done x => some x
def FUEL : Nat := 2 ^ 70
def setL : List Nat → List V → Env → Env
  | t :: ts, v :: vs, env => (setL ts vs env).set t v
  | _, _, env => env
def writesOps (ops : List Oper) : List Nat := ops.filterMap (·.dst)
def writes : Code → List Nat
  | .region _ ops _ => writesOps ops.toList
  | .seq a b => writes a ++ writes b
  | .cond _ a b => writes a ++ writes b
  | .block _ b | .loop b | .scope b => writes b
  | _ => []
def clearW (ws : List Nat) (env : Env) : Env := fun i => bif ws.any (Nat.beq i) then .undef else env i
def firstRegion : Code → Option Nat
  | .region id _ _ => some id
  | .seq a b => match firstRegion a with
    | some r => some r
    | none => firstRegion b
  | .block _ b | .loop b | .scope b => firstRegion b
  | .cond _ a b => match firstRegion a with
    | some r => some r
    | none => firstRegion b
  | _ => none
def packK (ks : List Nat) (ts : List Ty) (env : Env) : Option (TT ts) := TT.pack ts (ks.map env)
/-- The results of a function: from its slots, or from its cells. -/
def resultsV (P : Program) (rs : List ResultVar) (env : Env) (h : H) {R : Type} (k : List V → Option R) : Option R :=
  match rs with
  | [] => k []
  | .tmp t :: rs => resultsV P rs env h fun vs => k (env t :: vs)
  | .cell a t :: rs => match tyOf P t with
    | some ty => (rdT ty h (env a)).bind fun x => resultsV P rs env h fun vs => k (ty.un x :: vs)
    | none => none
def theResult (P : Program) (fn : Func) (env : Env) (h : H) {R : Type} (k : V → Option R) : Option R :=
  resultsV P fn.results.toList env h fun vs => match vs with
    | [v] => k v
    | vs => k (.tuple vs)
def leave (rs : Res) (ks : List Nat) (ts : List Ty) (x0 x1 : Option Nat) : Ex → Env → H → Option (Flow (TT ts) rs.C × H)
  | .normal, env, h => (packK ks ts env).bind fun t => some (.next t, h)
  | .ret v, _, h => (rs.pack v).bind fun r => some (.ret r, h)
  | .exit id, env, h =>
    match x0, x1 with
    | some a, some b => bif Nat.beq id a then (packK ks ts env).bind fun t => some (.ex0 t, h) else bif Nat.beq id b then (packK ks ts env).bind fun t => some (.ex1 t, h) else none
    | some a, none => bif Nat.beq id a then (packK ks ts env).bind fun t => some (.ex0 t, h) else none
    | _, _ => none
def arrive (rs : Res) (ks : List Nat) (ts : List Ty) (x0 x1 : Option Nat) (env : Env) {R : Type} (k : Ex → Env → H → Option R) (fl : Flow (TT ts) rs.C × H) : Option R :=
  match fl.1 with
  | .next t => k .normal (setL ks (TT.un ts t) env) fl.2
  | .ret r => k (.ret (rs.un r)) env fl.2
  | .ex0 t => match x0 with
    | some a => k (.exit a) (setL ks (TT.un ts t) env) fl.2
    | none => none
  | .ex1 t => match x1 with
    | some a => k (.exit a) (setL ks (TT.un ts t) env) fl.2
    | none => none
/-- Out of a loop. -/
def arriveX (rs : Res) (ks : List Nat) (ts : List Ty) (x0 x1 : Option Nat) (env : Env) {R : Type} (k : Ex → Env → H → Option R) (fl : Flow (TT ts) rs.C × H) : Option R :=
  match fl.1 with
  | .next _ => none
  | .ret r => k (.ret (rs.un r)) env fl.2
  | .ex0 t => match x0 with
    | some a => k (.exit a) (setL ks (TT.un ts t) env) fl.2
    | none => none
  | .ex1 t => match x1 with
    | some a => k (.exit a) (setL ks (TT.un ts t) env) fl.2
    | none => none
/-- The end of a round: the next one, or out. -/
def turn (rs : Res) (ks : List Nat) (ts : List Ty) (kx : List Nat) (tx : List Ty) (x0 x1 : Option Nat) : Ex → Env → H → Option (Stp (TT ts × H) (Flow (TT tx) rs.C × H))
  | .normal, env, h => (packK ks ts env).bind fun t => some (.more (t, h))
  | e, env, h => (leave rs kx tx x0 x1 e env h).bind fun fl => some (.done fl)
def getA {α : Type} (k : Nat) : List (Nat × α) → Option α
  | [] => none
  | (i, a) :: l => bif Nat.beq i k then some a else getA k l
/-- One round of a range over a function: the assignments, then the body. -/
def roundV (l : Nat) (ea : H → (Ex → Env → H → Option H) → Option H) (eb : Env → H → (Ex → Env → H → Option H) → Option H) (h : H) : Option H :=
  (h.begin l).bind fun _ => ea h fun e env1 h1 => match e with
    | .normal => (h1.begin l).bind fun h2 => eb env1 h2 fun e2 _ h3 => match e2 with
      | .normal => h3.endR l
      | _ => none
    | _ => none
/-- What is the same whatever the order. -/
noncomputable def agreeN {R : Type} (n : Nat) (F : List Nat → Option R) : Option R :=
  open Classical in if h : ∃ r, ∀ π : List Nat, π.Perm (List.range n) → F π = some r then some (Classical.choose h) else none
/-- The rounds of a range over a map: those seen, those to come. -/
def mrounds {X F : Type} (iid mid n : Nat) (f g : X × H → Option (Stp (X × H) F)) : List Nat → List Nat → X × H → Option F
  | _, [], s => (g s).bind fun r => match r with
    | .done x => some x
    | .more _ => none
  | seen, i :: π, s => (f (s.1, s.2.put iid (.miter mid n (seen ++ [i])))).bind fun r => match r with
    | .done x => some x
    | .more s' => bif rangeOK (s.2.put iid (.miter mid n (seen ++ [i]))) s'.2 iid mid n (seen ++ [i]) then mrounds iid mid n f g (seen ++ [i]) π s' else none
/-- Does a region begin with a range's next step? -/
def mapNext (A : Ann) (N id : Nat) (ops : Array Oper) (dr : Bool) : Option (Tmp × Tmp × List Oper) :=
  bif dr || (getA id A.regs).isSome then none else
  match ops.toList with
  | o :: os => match o.op, o.dst, o.guard with
    | .next (.tmp it) false, some d, none => bif Nat.blt d N then some (it, d, os) else none
    | _, _, _ => none
  | [] => none
noncomputable def evalCode (P : Program) (T : Table) (A : Ann) (fn : Func) (rs : Res) : Code → Env → H → {R : Type} → (Ex → Env → H → Option R) → Option R
  | .skip, env, h, _, k => k .normal env h
  | .label _, env, h, _, k => k .normal env h
  | .exit id, env, h, _, k => k (.exit id) env h
  | .ret, env, h, _, k => theResult P fn env h fun v => k (.ret v) env h
  | .region id ops draw, env, h, _, k =>
    let go : {R : Type} → (Env → H → Option R) → Option R := fun {_} k =>
      bif draw then (bif drawOk T A ops then runOps P T A fn.ntmps ops (withIds T A ops.toList h.next) env (h.reserve (countN T A ops.toList)) (fun env' h' => guardsC (withIds T A ops.toList h.next) env' (conflL T A ops) (k env' h')) else none)
      else runOps P T A fn.ntmps ops (ops.toList.map fun o => (o, none)) env h k
    match getA id A.regs with
    | none => go fun env h => k .normal env h
    | some (ks, ts) => (go fun env h => (packK ks ts env).bind fun t => some (t, h)).bind fun r =>
        k .normal (setL ks (TT.un ts r.1) (clearW (writes (.region id ops draw)) env)) r.2
  | .seq a b, env, h, _, k => evalCode P T A fn rs a env h fun e env h =>
    match e with
    | .normal => evalCode P T A fn rs b env h k
    | e => k e env h
  | .cond c a b, env, h, _, k =>
    match ev env c with
    | .bool g =>
      match (match c with | .tmp t => getA t A.conds | _ => none) with
      | none => cond g (evalCode P T A fn rs a env h k) (evalCode P T A fn rs b env h k)
      | some (ks, ts, x0, x1) =>
        (cond g (evalCode P T A fn rs a env h (leave rs ks ts x0 x1)) (evalCode P T A fn rs b env h (leave rs ks ts x0 x1))).bind
          (arrive rs ks ts x0 x1 (clearW (writes (.cond c a b)) env) k)
    | _ => none
  | .block id b, env, h, _, k => evalCode P T A fn rs b env h fun e env h =>
    match e with
    | .exit j => bif Nat.beq j id then k .normal env h else k (.exit j) env h
    | e => k e env h
  | .loop b, env, h, _, k =>
    match (firstRegion b).bind fun r => getA r A.loops with
    | none => none
    | some (ks, ts, kx, tx, x0, x1) => bif !(ks.all fun t => (writes b).any (Nat.beq t)) then none else
      (packK ks ts env).bind fun t0 =>
        let plain : TT ts × H → Option (Stp (TT ts × H) (Flow (TT tx) rs.C × H)) := fun s => evalCode P T A fn rs b (setL ks (TT.un ts s.1) (clearW (writes b) env)) s.2 (turn rs ks ts kx tx x0 x1)
        match b with
        | .seq (.region id ops dr) rest => match mapNext A fn.ntmps id ops dr with
          | some (it, d, os) => bif (writes b).any (Nat.beq it) then none else
            (iterAt h (env it)).bind fun p => agreeN p.2.2 fun π =>
              (mrounds p.1 p.2.1 p.2.2
                (fun s : TT ts × H => runOps P T A fn.ntmps ops (os.map fun o => (o, none)) ((setL ks (TT.un ts s.1) (clearW (writes b) env)).set d (.tuple [.bool true, .undef, .undef])) s.2 fun env' h' => evalCode P T A fn rs rest env' h' (turn rs ks ts kx tx x0 x1))
                (fun s : TT ts × H => runOps P T A fn.ntmps ops (os.map fun o => (o, none)) ((setL ks (TT.un ts s.1) (clearW (writes b) env)).set d (.tuple [.bool false])) s.2 fun env' h' => evalCode P T A fn rs rest env' h' (turn rs ks ts kx tx x0 x1))
                [] π (t0, h)).bind (arriveX rs kx tx x0 x1 (clearW (writes b) env) k)
          | none => (iter FUEL plain (t0, h)).bind (arriveX rs kx tx x0 x1 (clearW (writes b) env) k)
        | _ => (iter FUEL plain (t0, h)).bind (arriveX rs kx tx x0 x1 (clearW (writes b) env) k)
  | .rangeFunc g ps a b, env, h, _, k => bif A.inr then none else
    match getA (ps.toList.headD 0) A.rnds with
    | none => none
    | some ts => bif !(Nat.beq ps.size ts.length) || !(decide ps.toList.Nodup) || !(ps.toList.all fun t => Nat.blt t fn.ntmps) then none else
      callIt T.dy (mkY ts h.next fun x h1 => roundV h.next (fun h1 k => evalCode P T { A with inr := true } fn rs a (setL ps.toList (TT.un ts x) env) h1 k) (fun env1 h2 k => evalCode P T { A with inr := true } fn rs b env1 h2 k) h1)
        (ev env g) [.yld h.next] (h.newS (.loop .ready)) fun h2 => (h2.endL h.next).bind fun h3 => k .normal env h3
  | _, _, _, _, _ => none
/-- A whole call: its arguments in the first slots. -/
noncomputable def evalFn (P : Program) (T : Table) (A : Ann) (fn : Func) (rs : Res) (args : List V) (h : H) : Option (rs.C × H) :=
  match fn.body with
  | none => none
  | some c => bif !(Nat.ble args.length fn.ntmps) then none else evalCode P T A fn rs c (setL (List.range args.length) args fun _ => .undef) h fun e env h =>
    match e with
    | .normal => theResult P fn env h fun v => (rs.pack v).bind fun r => some (r, h)
    | .ret v => (rs.pack v).bind fun r => some (r, h)
    | .exit _ => none

/-- A whole call, handing its result on. -/
noncomputable def evalFnK (P : Program) (T : Table) (A : Ann) (fn : Func) (rs : Res) (args : List V) (h : H) {R : Type} (k : rs.C → H → Option R) : Option R :=
  match fn.body with
  | none => none
  | some c => bif !(Nat.ble args.length fn.ntmps) then none else evalCode P T A fn rs c (setL (List.range args.length) args fun _ => .undef) h fun e env h =>
    match e with
    | .normal => theResult P fn env h fun v => (rs.pack v).bind fun r => k r h
    | .ret v => (rs.pack v).bind fun r => k r h
    | .exit _ => none

/-! ### Functions that neither write what they get nor hand it back: slices go in and come out by their elements -/

def mapO {α β : Type} (f : α → Option β) : List α → Option (List β)
  | [] => some []
  | v :: vs => (f v).bind fun x => (mapO f vs).bind fun xs => some (x :: xs)
def chunks (w : Nat) : Nat → List V → List (List V)
  | 0, _ => []
  | n + 1, cs => cs.take w :: chunks w n (cs.drop w)
/-- May the row be read out? 'lp': may there be rows of the callers? -/
def V.readable (lp : Bool) : V → Bool
  | .hp .. => true
  | .lp f _ _ => lp || f
  | _ => false
mutual
def rdLeaf (lp : Bool) (h : H) : (l : Leaf) → V → Option l.C
  | .int k, .int k' n => if k = k' then some n else none
  | .bool, .bool b => some b
  | .str, .str s => some s
  | .tok, _ => some ()
  | .row ls, .slice a len _ _ => if len = 0 then some [] else (bif a.readable lp then h.rds a (len * ls.length) else none).bind fun cs => mapO (fun c => rdLT lp h ls c) (chunks ls.length len cs)
  | _, _ => none
def rdLT (lp : Bool) (h : H) : (ls : List Leaf) → List V → Option (LT ls)
  | [], [] => some ()
  | [l], [v] => rdLeaf lp h l v
  | l :: l' :: ls, v :: vs => (rdLeaf lp h l v).bind fun x => (rdLT lp h (l' :: ls) vs).bind fun y => some (x, y)
  | _, _ => none
end
/-- The elements of a slice. -/
def rdRow (lp : Bool) (h : H) (ls : List Leaf) (s : SV) : Option (List (LT ls)) := rdLeaf lp h (.row ls) (.slice s.a s.len s.cap s.tail)
def rdTy (lp : Bool) (h : H) : (t : Ty) → V → Option t.C
  | .leaf l, v => rdLeaf lp h l v
  | .agg ls, .agg vs => rdLT lp h ls vs
  | .agg _, _ => none
def rdTT (lp : Bool) (h : H) : (ts : List Ty) → List V → Option (TT ts)
  | [], [] => some ()
  | [t], [v] => rdTy lp h t v
  | t :: t' :: ts, v :: vs => (rdTy lp h t v).bind fun x => (rdTT lp h (t' :: ts) vs).bind fun y => some (x, y)
  | _, _ => none
def rdLTK (lp : Bool) (h : H) {α : Type} : (ls : List Leaf) → List V → (LT ls → Option α) → Option α
  | [], [], k => k ()
  | [l], [v], k => (rdLeaf lp h l v).bind k
  | l :: l' :: ls, v :: vs, k => (rdLeaf lp h l v).bind fun x => rdLTK lp h (l' :: ls) vs fun y => k (x, y)
  | _, _, _ => none
def rdTyK (lp : Bool) (h : H) {α : Type} : (t : Ty) → V → (t.C → Option α) → Option α
  | .leaf l, v, k => (rdLeaf lp h l v).bind k
  | .agg ls, .agg vs, k => rdLTK lp h ls vs k
  | .agg _, _, _ => none
/-- Handing on what is read. -/
def rdTTK (lp : Bool) (h : H) {α : Type} : (ts : List Ty) → List V → (TT ts → Option α) → Option α
  | [], [], k => k ()
  | [t], [v], k => rdTyK lp h t v k
  | t :: t' :: ts, v :: vs, k => rdTyK lp h t v fun x => rdTTK lp h (t' :: ts) vs fun y => k (x, y)
  | _, _, _ => none
def rdRes (lp : Bool) (h : H) : (r : Res) → V → Option r.C
  | .one t, v => rdTy lp h t v
  | .many ts, .tuple vs => rdTT lp h ts vs
  | .many _, _ => none
mutual
/-- Back: a slice's elements in a row of their own. -/
def Leaf.lo (f : Bool) : (l : Leaf) → l.C → V
  | .int k, n => .int k n
  | .bool, b => .bool b
  | .str, s => .str s
  | .ptr, a => a
  | .slice, s => .slice s.a s.len s.cap s.tail
  | .map, r => .map r
  | .dyn, v => v
  | .tok, _ => .undef
  | .row ls, xs => .slice (.lp f (xs.flatMap fun x => LT.lo f ls x) 0) xs.length xs.length true
def LT.lo (f : Bool) : (ls : List Leaf) → LT ls → List V
  | [], _ => []
  | [l], x => [l.lo f x]
  | l :: l' :: ls, x => l.lo f x.1 :: LT.lo f (l' :: ls) x.2
end
def Ty.lo (f : Bool) : (t : Ty) → t.C → V
  | .leaf l, x => l.lo f x
  | .agg ls, x => .agg (LT.lo f ls x)
def TT.lo (f : Bool) : (ts : List Ty) → TT ts → List V
  | [], _ => []
  | [t], x => [t.lo f x]
  | t :: t' :: ts, x => t.lo f x.1 :: TT.lo f (t' :: ts) x.2
def Res.lo (f : Bool) : (r : Res) → r.C → V
  | .one t, x => t.lo f x
  | .many ts, x => .tuple (TT.lo f ts x)
/-- A slice of some elements. -/
def rowSV (f : Bool) (ls : List Leaf) (xs : List (LT ls)) : SV := ⟨.lp f (xs.flatMap fun x => LT.lo f ls x) 0, xs.length, xs.length, true⟩
theorem from_mono {h : H} {i : Nat} {s : Slot} (hi : ∀ cs e, h.m i ≠ .own cs e) {a : V} {cs : List V} (hf : h.from a = some cs) : (h.put i s).from a = some cs := by
  cases a <;> simp only [H.from, reduceCtorEq] at hf ⊢
  · rename_i id g o
    have hne : id ≠ i := fun e => by
      subst e
      split at hf
      · rename_i cs' e' hm
        exact hi _ _ hm
      · cases hf
    have : (h.put i s).m id = h.m id := by
      show (bif Nat.beq id i then s else h.m id) = h.m id
      have : Nat.beq id i = false := by
        cases hb : Nat.beq id i with
        | false => rfl
        | true => exact absurd (Nat.eq_of_beq_eq_true hb) hne
      rw [this]; rfl
    rw [this]
    exact hf
  · exact hf
theorem rds_mono {h : H} {i : Nat} {s : Slot} (hi : ∀ cs e, h.m i ≠ .own cs e) {a : V} {n : Nat} {cs : List V} (hf : h.rds a n = some cs) : (h.put i s).rds a n = some cs := by
  unfold H.rds at hf ⊢
  simp only [Option.bind_eq_some_iff] at hf
  obtain ⟨c, h1, h2⟩ := hf
  rw [from_mono hi h1]
  exact h2
theorem mapO_mono {α β : Type} {f g : α → Option β} (hfg : ∀ a b, f a = some b → g a = some b) : ∀ {l : List α} {ys : List β}, mapO f l = some ys → mapO g l = some ys
  | [], ys, h => h
  | a :: l, ys, h => by
    simp only [mapO, Option.bind_eq_some_iff, Option.some.injEq] at h ⊢
    obtain ⟨x, h1, xs, h2, h3⟩ := h
    exact ⟨x, hfg _ _ h1, xs, mapO_mono hfg h2, h3⟩
mutual
theorem rdLeaf_mono {lp : Bool} {h : H} {i : Nat} {s : Slot} (hi : ∀ cs e, h.m i ≠ .own cs e) : ∀ (l : Leaf) (v : V) (x : l.C), rdLeaf lp h l v = some x → rdLeaf lp (h.put i s) l v = some x
  | .row ls, v, x, hr => by
    cases v <;> simp only [rdLeaf, reduceCtorEq] at hr ⊢
    rename_i a len cap tail
    split at hr
    · rename_i h0; rw [if_pos h0]; exact hr
    · rename_i h0
      rw [if_neg h0]
      simp only [Option.bind_eq_some_iff] at hr ⊢
      obtain ⟨cs, h1, h2⟩ := hr
      refine ⟨cs, ?_, mapO_mono (fun c y => rdLT_mono hi ls c y) h2⟩
      cases hl : a.readable lp with
      | false => rw [hl] at h1; cases h1
      | true => rw [hl] at h1; exact rds_mono hi h1
  | .int k, v, x, hr => by cases v <;> exact hr
  | .bool, v, x, hr => by cases v <;> exact hr
  | .str, v, x, hr => by cases v <;> exact hr
  | .tok, v, x, hr => by cases v <;> exact hr
  | .ptr, v, x, hr => by cases v <;> simp [rdLeaf] at hr
  | .slice, v, x, hr => by cases v <;> simp [rdLeaf] at hr
  | .map, v, x, hr => by cases v <;> simp [rdLeaf] at hr
  | .dyn, v, x, hr => by cases v <;> simp [rdLeaf] at hr
theorem rdLT_mono {lp : Bool} {h : H} {i : Nat} {s : Slot} (hi : ∀ cs e, h.m i ≠ .own cs e) : ∀ (ls : List Leaf) (vs : List V) (x : LT ls), rdLT lp h ls vs = some x → rdLT lp (h.put i s) ls vs = some x
  | [], vs, x, hr => by cases vs <;> exact hr
  | [l], vs, x, hr => by
    match vs, hr with
    | [v], hr => exact rdLeaf_mono hi l v x hr
  | l :: l' :: ls, vs, x, hr => by
    match vs, hr with
    | v :: vs, hr =>
      simp only [rdLT, Option.bind_eq_some_iff, Option.some.injEq] at hr ⊢
      obtain ⟨y, h1, z, h2, h3⟩ := hr
      exact ⟨y, rdLeaf_mono hi l v y h1, z, rdLT_mono hi (l' :: ls) vs z h2, h3⟩
end
theorem rdTy_mono {lp : Bool} {h : H} {i : Nat} {s : Slot} (hi : ∀ cs e, h.m i ≠ .own cs e) : ∀ (t : Ty) (v : V) (x : t.C), rdTy lp h t v = some x → rdTy lp (h.put i s) t v = some x
  | .leaf l, v, x, hr => rdLeaf_mono hi l v x hr
  | .agg ls, v, x, hr => by
    cases v <;> simp only [rdTy, reduceCtorEq] at hr ⊢
    exact rdLT_mono hi ls _ x hr
theorem rdTT_mono {lp : Bool} {h : H} {i : Nat} {s : Slot} (hi : ∀ cs e, h.m i ≠ .own cs e) : ∀ (ts : List Ty) (vs : List V) (x : TT ts), rdTT lp h ts vs = some x → rdTT lp (h.put i s) ts vs = some x
  | [], vs, x, hr => by cases vs <;> exact hr
  | [t], vs, x, hr => by
    match vs, hr with
    | [v], hr => exact rdTy_mono hi t v x hr
  | t :: t' :: ts, vs, x, hr => by
    match vs, hr with
    | v :: vs, hr =>
      simp only [rdTT, Option.bind_eq_some_iff, Option.some.injEq] at hr ⊢
      obtain ⟨y, h1, z, h2, h3⟩ := hr
      exact ⟨y, rdTy_mono hi t v y h1, z, rdTT_mono hi (t' :: ts) vs z h2, h3⟩
theorem rdLTK_bind {lp : Bool} {h : H} {α : Type} : ∀ (ls : List Leaf) (vs : List V) (k : LT ls → Option α), rdLTK lp h ls vs k = (rdLT lp h ls vs).bind k
  | [], [], k => rfl
  | [], _ :: _, k => rfl
  | [l], [], k => rfl
  | [l], [v], k => rfl
  | [l], _ :: _ :: _, k => rfl
  | l :: l' :: ls, [], k => rfl
  | l :: l' :: ls, v :: vs, k => by simp only [rdLTK, rdLT, rdLTK_bind (l' :: ls) vs, Option.bind_assoc, Option.bind_some]
theorem rdTyK_bind {lp : Bool} {h : H} {α : Type} : ∀ (t : Ty) (v : V) (k : t.C → Option α), rdTyK lp h t v k = (rdTy lp h t v).bind k
  | .leaf l, v, k => rfl
  | .agg ls, v, k => by cases v <;> first | rfl | exact rdLTK_bind ls _ k
theorem rdTTK_bind {lp : Bool} {h : H} {α : Type} : ∀ (ts : List Ty) (vs : List V) (k : TT ts → Option α), rdTTK lp h ts vs k = (rdTT lp h ts vs).bind k
  | [], [], k => rfl
  | [], _ :: _, k => rfl
  | [l], [], k => rfl
  | [l], [v], k => rdTyK_bind l v k
  | [l], _ :: _ :: _, k => rfl
  | l :: l' :: ls, [], k => rfl
  | l :: l' :: ls, v :: vs, k => by simp only [rdTTK, rdTT, rdTyK_bind, rdTTK_bind (l' :: ls) vs, Option.bind_assoc, Option.bind_some]
/-- A function that works on the heap. -/
def mkX (ts : List Ty) (rs : Res) (f : TT ts → H → Option (rs.C × H)) : Entry :=
  { quiet := false, cps := fun args h _ k => (TT.pack ts args).bind fun x => (f x h).bind fun p => k (rs.un p.1) p.2 }
/-- A function that leaves the heap as it is. -/
def mkQ (ts : List Ty) (rs : Res) (f : TT ts → Option rs.C) : Entry :=
  { quiet := true, cps := fun args h _ k => (TT.pack ts args).bind fun x => (f x).bind fun p => k (rs.un p) h, mono := true, hmono := fun _ args h i s v h' _ hv => by
      simp only [Option.bind_eq_some_iff, Option.some.injEq, Prod.mk.injEq] at hv ⊢
      obtain ⟨x, h1, r, h2, h3, rfl⟩ := hv
      exact ⟨x, h1, r, h2, h3, rfl⟩ }
def mkR (ts : List Ty) (rs : Res) (f : TT ts → H → Option rs.C) : Entry :=
  { quiet := true, cps := fun args h _ k => (TT.pack ts args).bind fun x => (f x h).bind fun p => k (rs.un p) h }
/-- A function on rows. -/
def mkP (ts : List Ty) (rs : Res) (f : TT ts → Option rs.C) : Entry :=
  { quiet := true, cps := fun args h _ k => rdTTK true h ts args fun x => (f x).bind fun r => k (rs.lo true r) h, mono := true, hmono := fun _ args h i s v h' hi hv => by
      rw [rdTTK_bind] at hv ⊢
      simp only [Option.bind_eq_some_iff, Option.some.injEq, Prod.mk.injEq] at hv ⊢
      obtain ⟨x, h1, r, h2, h3, rfl⟩ := hv
      exact ⟨x, rdTT_mono (fun cs e hh => by rw [hi] at hh; cases hh) ts args x h1, r, h2, h3, rfl⟩ }
end Go.Proofs.YtjkjcnadgpndoaaGreat.Ev
