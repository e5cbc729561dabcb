/-
  The language: operations over an abstract heap, and how the program's code is stripped to it.
-/
import Derived.Test.YtjnppjipoibbeaaAm0
namespace Go.Am
set_option linter.all false

/-! ### Reading and writing -/
def rd (h : Heap) (B : Nat) : Option Blk := match h[B]? with | some (some b) => some b | _ => none

def readN (h : Heap) : Addr → Nat → Option (List Value)
  | ⟨B, o, none⟩, n => match rd h B with
    | some b => if o + n ≤ b.cells.length then some ((b.cells.drop o).take n) else none
    | none => none
  | _, _ => none

def read1 (h : Heap) : Addr → Option Value
  | ⟨B, o, none⟩ => match rd h B with
    | some b => b.cells[o]?
    | none => none
  | _ => none

def setR (cs : List Value) (o : Nat) (vs : List Value) : List Value := cs.take o ++ (vs ++ cs.drop (o + vs.length))

def writeN (h : Heap) : Addr → List Value → Option Heap
  | ⟨B, o, none⟩, vs => match rd h B with
    | some b => if b.kind = .ro then none else if o + vs.length ≤ b.cells.length then some (h.set B (some ⟨b.kind, setR b.cells o vs⟩)) else none
    | none => none
  | _, _ => none

def noTup : Value → Bool
  | .tuple _ => false
  | _ => true

def okCell : Value → Bool
  | .bool _ | .int _ _ | .string _ | .pointer none | .slice none _ _ | .nilFunc | .nilIface => true
  | _ => false
def okConst : Value → Bool
  | .agg cs => cs.toList.all okCell
  | v => okCell v

/-! ### The language -/
inductive EqC where
  | bool | ptr | slc | fn
  | cells (g : List Bool)

/-- '==' and '!=' on what is neither int nor string. -/
def eqNeg : BinOp → Option Bool
  | .eql => some false
  | .neq => some true
  | _ => none

inductive IK where
  | mov (x : Operand)
  | pick (c a b : Operand)
  | box (x : Operand)
  | alloc (z : List Value)
  | build (z : List Value) (ps : List (Nat × Nat × Operand))
  | mkrow (z : List Value) (len : Nat) (ps : List (Nat × Nat × Operand))
  | load (x : Operand) (n : Option Nat)
  | store (x v : Operand) (n : Nat)
  | nilck (x : Operand)
  | bin (op : BinOp) (x y : Operand)
  | eqv (neg : Bool) (c : EqC) (x y : Operand)
  | un (op : UnOp) (x : Operand)
  | conv (k : IntKind) (x : Operand)
  | b2s (x : Operand)
  | mkfun (fn : Fn) (a b : List Operand)
  | mkslice (esz eby : Nat) (z : List Value) (len cap : Operand)
  | slice (esz : Nat) (x : Operand) (lo hi mx : Option Operand)
  | strsl (x : Operand) (lo hi : Option Operand)
  | slarr (esz n : Nat) (x : Operand) (lo hi : Option Operand)
  | fld (off : Nat) (n : Option Nat) (x : Operand)
  | fadr (off : Nat) (x : Operand)
  | iadr (esz : Nat) (arr : Option Nat) (x i : Operand)
  | idx (esz len : Nat) (n : Option Nat) (x i : Operand)
  | sidx (x i : Operand)
  | ext (i : Nat) (x : Operand)
  | call (f : Nat) (args : List Operand)
  | callv (x : Operand) (args : List Operand)
  | len (x : Operand)
  | slen (x : Operand)
  | append (esz eby : Nat) (s x : Operand)
  | copy (esz : Nat) (d s : Operand)
  | mn (x y : Operand)
  | mx (x y : Operand)
  | bad

structure IOp where
  dst : Option Nat
  g : Option (Nat × Bool)
  k : IK

inductive IL where
  | skip
  | reg (ops : List IOp)
  | dreg (ops : List IOp) (X : List (Nat × Nat))
  | seq (a b : IL)
  | ite (c : Operand) (a b : IL)
  | block (id : Nat) (b : IL)
  | loop (b : IL)
  | exit (id : Nat)
  | ret

/-! ### What an operation does -/
def ev (t : Fr) : Operand → Value
  | .tmp i => t.getD i undef
  | .const v => v
  | .func f => .func (.func f) #[] #[]
  | .global _ => undef

abbrev Env := Nat → List Value → Heap → Option (Value × Heap)

def intBin (op : BinOp) (k : IntKind) (a b : Int) : Option Value :=
  match op with
  | .add => some (.int k (k.wrap (a + b)))
  | .sub => some (.int k (k.wrap (a - b)))
  | .mul => some (.int k (k.wrap (a * b)))
  | .quo => if b = 0 then none else some (.int k (k.wrap (a.tdiv b)))
  | .rem => if b = 0 then none else some (.int k (a.tmod b))
  | .and => some (.int k (k.wrap (BitVec.ofInt k.bits a &&& BitVec.ofInt k.bits b).toNat))
  | .or => some (.int k (k.wrap (BitVec.ofInt k.bits a ||| BitVec.ofInt k.bits b).toNat))
  | .xor => some (.int k (k.wrap (BitVec.ofInt k.bits a ^^^ BitVec.ofInt k.bits b).toNat))
  | .eql => some (.bool (a == b))
  | .neq => some (.bool (a != b))
  | .lss => some (.bool (a < b))
  | .leq => some (.bool (a ≤ b))
  | .gtr => some (.bool (a > b))
  | .geq => some (.bool (a ≥ b))
  | _ => none

def strBin (op : BinOp) (a b : ByteArray) : Option Value :=
  match op with
  | .eql => some (.bool (a.toList == b.toList))
  | .neq => some (.bool !(a.toList == b.toList))
  | .lss => some (.bool (Op.bytesLess a.toList b.toList))
  | _ => none

def binA (op : BinOp) : Value → Value → Option Value
  | .int k a, .int k' b =>
    match op with
    | .shl => if b < 0 then none else some (.int k (k.wrap (a * 2 ^ (min b.toNat k.bits))))
    | .shr => if b < 0 then none else some (.int k (a.fdiv (2 ^ (min b.toNat k.bits))))
    | _ => if k = k' then intBin op k a b else none
  | .string a, .string b => strBin op a b
  | _, _ => none

def unA : UnOp → Value → Option Value
  | .neg, .int k n => some (.int k (k.wrap (0 - n)))
  | .not, .bool b => some (.bool !b)
  | _, _ => none

/-- One cell against another: bools, or ints. -/
def eq1 : Bool → Value → Value → Option Bool
  | true, .bool a, .bool b => some (a == b)
  | false, .int k a, .int k' b => if k = k' then some (a == b) else none
  | _, _, _ => none
def eqCells : List Bool → List Value → List Value → Option Bool
  | [], [], [] => some true
  | g :: gs, a :: l, b :: m => match eq1 g a b, eqCells gs l m with
    | some x, some y => some (x && y)
    | _, _ => none
  | _, _, _ => none

def eqA : EqC → Value → Value → Option Bool
  | .bool, .bool a, .bool b => some (a == b)
  | .ptr, .pointer none, .pointer b => some b.isNone
  | .ptr, .pointer (some _), .pointer none => some false
  | .slc, .slice none _ _, .slice b _ _ => some b.isNone
  | .slc, .slice (some _) _ _, .slice none _ _ => some false
  | .fn, .nilFunc, .nilFunc => some true
  | .fn, .nilFunc, .func _ _ _ => some false
  | .fn, .func _ _ _, .nilFunc => some false
  | .cells g, .agg xs, .agg ys => eqCells g xs.toList ys.toList
  | _, _, _ => none

def fillA (cells : List Value) : List (Nat × Nat × Value) → Option (List Value)
  | [] => some cells
  | (o, n, v) :: r => if noTup v = true ∧ v.cells.toList.length = n ∧ o + n ≤ cells.length then fillA (setR cells o v.cells.toList) r else none

/-- The cells of so many elements of a slice. -/
def srcA (h : Heap) (esz : Nat) : Value → Option (Nat × List Value)
  | .slice none n _ => if n = 0 then some (0, []) else none
  | .slice (some a) n _ => match readN h a (n * esz) with
    | some l => some (n, l)
    | none => none
  | _ => none

def isEnd (h : Heap) (esz : Nat) (a : Addr) (cap : Nat) : Option Bool :=
  match rd h a.block with
  | some b => match b.kind with
    | .grown e => if e = esz ∧ 0 < esz then some (a.off + cap * esz == b.cells.length) else none
    | _ => some false
  | none => none

def appA (esz eby : Nat) (h : Heap) (s x : Value) : Option (Value × Heap) :=
  match s with
  | .slice base len cap =>
    match srcA h esz x with
    | some (n, new) =>
      if n = 0 then (if len ≤ cap then some (.slice base len cap, h) else none) else
      match base with
      | none =>
        if len = 0 ∧ cap = 0 ∧ 0 < esz ∧ n * eby ≤ 1099511627776 ∧ n ≤ 1099511627776 then some (.slice (some ⟨h.length, 0, none⟩) n n, h ++ [some ⟨.grown esz, new⟩])
        else none
      | some a =>
        if len + n ≤ cap then
          match writeN h ⟨a.block, a.off + len * esz, a.spot⟩ new with
          | some h' => some (.slice (some a) (len + n) cap, h')
          | none => none
        else if 0 < esz ∧ (len + n) * eby ≤ 1099511627776 ∧ len + n ≤ 1099511627776 then
          match readN h a (len * esz), isEnd h esz a cap with
          | some old, some e => some (.slice (some ⟨h.length, 0, none⟩) (len + n) (len + n), (if e then h.set a.block none else h) ++ [some ⟨.grown esz, old ++ new⟩])
          | _, _ => none
        else none
    | none => none
  | _ => none

def copyA (esz : Nat) (h : Heap) (d s : Value) : Option (Value × Heap) :=
  match d, s with
  | .slice (some a) n _, .slice (some b) m _ =>
    match readN h b (Nat.min m n * esz) with
    | some l => match writeN h a l with
      | some h' => some (.int .i64 (Nat.min m n : Nat), h')
      | none => none
    | none => none
  | .slice (some _) n _, .slice none m _ => if m = 0 then some (.int .i64 0, h) else none
  | _, _ => none

def boundA (y : Nat) : Value → Option Nat
  | .int _ i => if 0 ≤ i ∧ i ≤ y then some i.toNat else none
  | _ => none

def hiB (len cap : Nat) : Option Value → Option Nat
  | some v => boundA cap v
  | none => if len ≤ cap then some len else none
def loB (e : Nat) : Option Value → Option Nat
  | some v => boundA e v
  | none => some 0

def sliceA (esz : Nat) (h : Heap) (x : Value) (lo hi mx : Option Value) : Option Value :=
  match x with
  | .slice a len cap =>
    match mx with
    | some m => match boundA cap m with
      | some m => match (match hi with | some v => boundA m v | none => none) with
        | some e => match loB e lo with
          | some l => some (.slice (if m = l then a else a.map (·.add (l * esz))) (e - l) (m - l))
          | none => none
        | none => none
      | none => none
    | none => match hiB len cap hi with
      | some e => match loB e lo with
        | some l =>
          match a with
          | none => some (.slice none (e - l) (cap - l))
          | some p => match isEnd h esz p cap with
            | some q => some (.slice (some (if cap = l ∧ q = false then p else p.add (l * esz))) (e - l) (cap - l))
            | none => none
        | none => none
      | none => none
  | _ => none

def strslA (x : Value) (lo hi : Option Value) : Option Value :=
  match x with
  | .string s =>
    match hiB s.size s.size hi with
    | some e => match loB e lo with
      | some l => some (.string (s.extract l e))
      | none => none
    | none => none
  | _ => none

def slarrA (esz n : Nat) (x : Value) (lo hi : Option Value) : Option Value :=
  match x with
  | .pointer (some p) =>
    match hiB n n hi with
    | some e => match loB e lo with
      | some l => some (.slice (some (if n = l then p else p.add (l * esz))) (e - l) (n - l))
      | none => none
    | none => none
  | _ => none

def byteOf1 : Value → Option UInt8
  | .int .u8 n => some (UInt8.ofNat n.toNat)
  | _ => none

def b2sA (h : Heap) : Value → Option Value
  | .slice none _ _ => some (.string .empty)
  | .slice (some a) n _ => match readN h a n with
    | some l => match l.mapM byteOf1 with
      | some bs => some (.string ⟨⟨bs⟩⟩)
      | none => none
    | none => none
  | _ => none

def flat0 : Value → Bool
  | .func .. | .agg _ | .tuple _ => false
  | _ => true

def evps (t : Fr) (ps : List (Nat × Nat × Operand)) : List (Nat × Nat × Value) := ps.map fun p => (p.1, p.2.1, ev t p.2.2)

def pureA (k : IK) (t : Fr) (h : Heap) : Option Value :=
  match k with
  | .mov x => some (ev t x)
  | .pick c a b => match ev t c with
    | .bool c => some (if c then ev t a else ev t b)
    | _ => none
  | .build z ps => match fillA z (evps t ps) with
    | some l => some (.agg ⟨l⟩)
    | none => none
  | .load x n => match ev t x, n with
    | .pointer (some a), none => read1 h a
    | .pointer (some a), some n => match readN h a n with
      | some l => some (.agg ⟨l⟩)
      | none => none
    | _, _ => none
  | .nilck x => match ev t x with
    | .pointer (some a) => some (.pointer (some a))
    | _ => none
  | .bin op x y => binA op (ev t x) (ev t y)
  | .eqv neg c x y => match eqA c (ev t x) (ev t y) with
    | some b => some (.bool (if neg then !b else b))
    | none => none
  | .un op x => unA op (ev t x)
  | .conv k x => match ev t x with
    | .int _ n => some (.int k (k.wrap n))
    | _ => none
  | .b2s x => b2sA h (ev t x)
  | .mkfun fn a b => if (a.map (ev t)).all flat0 && (b.map (ev t)).all flat0 then
      some (.func fn ⟨a.map (ev t)⟩ ⟨b.map (ev t)⟩) else none
  | .slice esz x lo hi mx => sliceA esz h (ev t x) (lo.map (ev t)) (hi.map (ev t)) (mx.map (ev t))
  | .strsl x lo hi => strslA (ev t x) (lo.map (ev t)) (hi.map (ev t))
  | .slarr esz n x lo hi => slarrA esz n (ev t x) (lo.map (ev t)) (hi.map (ev t))
  | .fld off n x => match ev t x, n with
    | .agg cs, none => cs.toList[off]?
    | .agg cs, some n => if off + n ≤ cs.toList.length then some (.agg ⟨(cs.toList.drop off).take n⟩) else none
    | _, _ => none
  | .fadr off x => match ev t x with
    | .pointer (some ⟨B, o, none⟩) => some (.pointer (some ⟨B, o + off, none⟩))
    | _ => none
  | .iadr esz arr x i => match ev t x, arr, ev t i with
    | .pointer (some ⟨B, o, none⟩), some n, .int _ i => if 0 ≤ i ∧ i < n then some (.pointer (some ⟨B, o + i.toNat * esz, none⟩)) else none
    | .slice (some ⟨B, o, none⟩) n _, none, .int _ i => if 0 ≤ i ∧ i < n then some (.pointer (some ⟨B, o + i.toNat * esz, none⟩)) else none
    | _, _, _ => none
  | .idx esz len n x i => match ev t x, n, ev t i with
    | .agg cs, none, .int _ i => if 0 ≤ i ∧ i < len then cs.toList[i.toNat * esz]? else none
    | .agg cs, some n, .int _ i => if 0 ≤ i ∧ i < len ∧ i.toNat * esz + n ≤ cs.toList.length then some (.agg ⟨(cs.toList.drop (i.toNat * esz)).take n⟩) else none
    | _, _, _ => none
  | .sidx x i => match ev t x, ev t i with
    | .string s, .int _ i => if 0 ≤ i then match s.data.toList[i.toNat]? with
      | some b => some (.int .u8 b.toNat)
      | none => none else none
    | _, _ => none
  | .ext i x => match ev t x with
    | .tuple vs => vs.toList[i]?
    | _ => none
  | .len x => match ev t x with
    | .slice _ n _ => some (.int .i64 n)
    | _ => none
  | .slen x => match ev t x with
    | .string s => some (.int .i64 s.size)
    | _ => none
  | .mn x y => match ev t x, ev t y with
    | .int k a, .int k' b => if k = k' then some (.int k (if b < a then b else a)) else none
    | _, _ => none
  | .mx x y => match ev t x, ev t y with
    | .int k a, .int k' b => if k = k' then some (.int k (if b > a then b else a)) else none
    | _, _ => none
  | _ => none

def opA (Γ : Env) (k : IK) (t : Fr) (h : Heap) : Option (Value × Heap) :=
  match k with
  | .box x => if noTup (ev t x) then some (.pointer (some ⟨h.length, 0, none⟩), h ++ [some ⟨.fix, (ev t x).cells.toList⟩]) else none
  | .alloc z => some (.pointer (some ⟨h.length, 0, none⟩), h ++ [some ⟨.fix, z⟩])
  | .mkrow z len ps => match fillA z (evps t ps) with
    | some l => some (.slice (some ⟨h.length, 0, none⟩) len len, h ++ [some ⟨.fix, l⟩])
    | none => none
  | .store x v n => match ev t x with
    | .pointer (some a) => if noTup (ev t v) = true ∧ (ev t v).cells.toList.length = n then
        match writeN h a (ev t v).cells.toList with
        | some h' => some (undef, h')
        | none => none
      else none
    | _ => none
  | .mkslice esz eby z len cap => match ev t len, ev t cap with
    | .int .i64 l, .int .i64 c => if 0 ≤ l ∧ l ≤ c ∧ c * eby ≤ 1099511627776 ∧ c ≤ 1099511627776 ∧ z.length = esz then
        some (.slice (some ⟨h.length, 0, none⟩) l.toNat c.toNat, h ++ [some ⟨.fix, (List.replicate c.toNat z).flatten⟩]) else none
    | _, _ => none
  | .call f args => Γ f (args.map (ev t)) h
  | .callv x args => match ev t x with
    | .func (.func f) a b => Γ f (a.toList ++ (args.map (ev t) ++ b.toList)) h
    | _ => none
  | .append esz eby s x => appA esz eby h (ev t s) (ev t x)
  | .copy esz d s => copyA esz h (ev t d) (ev t s)
  | k => match pureA k t h with
    | some v => some (v, h)
    | none => none

def put (t : Fr) : Option Nat → Value → Fr
  | some d, v => t.set d v
  | none, _ => t

def want (t : Fr) : Option (Nat × Bool) → Bool
  | none => true
  | some (i, b) => match t.getD i undef with
    | .bool c => c == b
    | _ => false

def runR (Γ : Env) : List IOp → Fr → Heap → Option (Fr × Heap)
  | [], t, h => some (t, h)
  | o :: r, t, h =>
    if want t o.g then
      match opA Γ o.k t h with
      | some (v, h') => runR Γ r (put t o.dst v) h'
      | none => none
    else runR Γ r (put t o.dst undef) h

end Go.Am
