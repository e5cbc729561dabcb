/-
  A logic over the kit's wp, part AmA: Am0, Am1, Am2, Am3, Am4, Am5, Am6, Am7. No conditions.
-/
import Derived.Orders
import Derived.Below
import Derived.Tactics
import Derived.RowKit
import Derived.WalkKit
namespace Go.Am
set_option linter.all false
inductive F2 {α β : Type} (R : α → β → Prop) : List α → List β → Prop
 | nil : F2 R [] []
 | cons {a : α} {b : β} {l : List α} {m : List β} : R a b → F2 R l m → F2 R (a :: l) (b :: m)
namespace F2
variable {α β : Type} {R S : α → β → Prop}
theorem length {l : List α} {m : List β} (h : F2 R l m) : l.length = m.length := by
 induction h with
 | nil => rfl
 | cons _ _ ih => simp [ih]
theorem mono {l : List α} {m : List β} (hr : ∀ a b, R a b → S a b) (h : F2 R l m) : F2 S l m := by
 induction h with
 | nil => exact .nil
 | cons h _ ih => exact .cons (hr _ _ h) ih
theorem append {l l2 : List α} {m m2 : List β} (h : F2 R l m) (h2 : F2 R l2 m2) : F2 R (l ++ l2) (m ++ m2) := by
 induction h with
 | nil => exact h2
 | cons h _ ih => exact .cons h ih
theorem take {l : List α} {m : List β} (h : F2 R l m) (n : Nat) : F2 R (l.take n) (m.take n) := by
 induction h generalizing n with
 | nil => simp; exact .nil
 | cons h _ ih => cases n with
  | zero => simp; exact .nil
  | succ n => simp; exact .cons h (ih n)
theorem drop {l : List α} {m : List β} (h : F2 R l m) (n : Nat) : F2 R (l.drop n) (m.drop n) := by
 induction h generalizing n with
 | nil => simp; exact .nil
 | cons h hm ih => cases n with
  | zero => simp; exact .cons h hm
  | succ n => simp; exact ih n
theorem get {l : List α} {m : List β} (h : F2 R l m) (n : Nat) (a : α) (ha : l[n]? = some a) : ∃ b, m[n]? = some b ∧ R a b := by
 induction h generalizing n with
 | nil => simp at ha
 | cons h _ ih => cases n with
  | zero => simp at ha; subst ha; exact ⟨_, rfl, h⟩
  | succ n => simp at ha; simpa using ih n ha
theorem getD {l : List α} {m : List β} (h : F2 R l m) (n : Nat) (x : α) (y : β) (hxy : R x y) : R (l.getD n x) (m.getD n y) := by
 induction h generalizing n with
 | nil => simpa using hxy
 | cons h _ ih => cases n with
  | zero => simpa using h
  | succ n => simpa using ih n
theorem set {l : List α} {m : List β} (h : F2 R l m) (n : Nat) (x : α) (y : β) (hxy : R x y) : F2 R (l.set n x) (m.set n y) := by
 induction h generalizing n with
 | nil => simp; exact .nil
 | cons h hm ih => cases n with
  | zero => simp; exact .cons hxy hm
  | succ n => simp; exact .cons h (ih n)
theorem replicate (n : Nat) (x : α) (y : β) (h : R x y) : F2 R (List.replicate n x) (List.replicate n y) := by
 induction n with
 | zero => exact .nil
 | succ n ih => exact .cons h ih
theorem map {γ : Type} {f : γ → α} {g : γ → β} (l : List γ) (h : ∀ x ∈ l, R (f x) (g x)) : F2 R (l.map f) (l.map g) := by
 induction l with
 | nil => exact .nil
 | cons x l ih => exact .cons (h x (by simp)) (ih fun y hy => h y (by simp [hy]))
end F2
structure Loc where
 b : Nat
 base : Nat
 n : Nat
 N : Nat
 e : Nat
inductive Kind where
 | ro | fix
 | grown (e : Nat)
 deriving DecidableEq
structure Blk where
 kind : Kind
 cells : List Value
abbrev Heap := List (Option Blk)
abbrev Fr := List Value
abbrev Map := Nat → Option Loc
inductive V0 (ι : Map) : Value → Value → Prop
 | bool (b : Bool) : V0 ι (.bool b) (.bool b)
 | int (k : IntKind) (n : Int) : V0 ι (.int k n) (.int k n)
 | str (s : ByteArray) : V0 ι (.string s) (.string s)
 | nilPtr : V0 ι (.pointer none) (.pointer none)
 | ptr {B o : Nat} {l : Loc} : ι B = some l → V0 ι (.pointer (some ⟨B, o, none⟩)) (.pointer (some ⟨l.b, l.base + o, none⟩))
 | nilSl (n c : Nat) : V0 ι (.slice none n c) (.slice none n c)
 | sl {B o len cap cap' : Nat} {l : Loc} : ι B = some l → (cap' = cap ∨ (0 < l.e ∧ o + cap * l.e = l.n ∧ l.base + o + cap' * l.e = l.N ∧ cap ≤ cap')) →
   V0 ι (.slice (some ⟨B, o, none⟩) len cap) (.slice (some ⟨l.b, l.base + o, none⟩) len cap')
 | sl0 {B o : Nat} {a' : Addr} {l : Loc} : ι B = some l → V0 ι (.slice (some ⟨B, o, none⟩) 0 0) (.slice (some a') 0 0)
 | nilFn : V0 ι .nilFunc .nilFunc
 | nilIf : V0 ι .nilIface .nilIface
inductive VC (ι : Map) : Value → Value → Prop
 | v0 {v v' : Value} : V0 ι v v' → VC ι v v'
 | fn (f : Fn) {a a' b b' : List Value} : F2 (V0 ι) a a' → F2 (V0 ι) b b' → VC ι (.func f ⟨a⟩ ⟨b⟩) (.func f ⟨a'⟩ ⟨b'⟩)
inductive VA (ι : Map) : Value → Value → Prop
 | vc {v v' : Value} : VC ι v v' → VA ι v v'
 | agg {a a' : List Value} : F2 (VC ι) a a' → VA ι (.agg ⟨a⟩) (.agg ⟨a'⟩)
inductive VR (ι : Map) : Value → Value → Prop
 | va {v v' : Value} : VA ι v v' → VR ι v v'
 | tup {a a' : List Value} : F2 (VA ι) a a' → VR ι (.tuple ⟨a⟩) (.tuple ⟨a'⟩)
def Sub (ι ι' : Map) : Prop := ∀ B l, ι B = some l → ι' B = some l
theorem Sub.refl (ι : Map) : Sub ι ι := fun _ _ h => h
theorem Sub.trans {a b c : Map} (h : Sub a b) (h' : Sub b c) : Sub a c := fun B l e => h' B l (h B l e)
theorem V0.mono {ι ι' : Map} (s : Sub ι ι') {v v' : Value} (h : V0 ι v v') : V0 ι' v v' := by
 cases h with
 | ptr h => exact .ptr (s _ _ h)
 | sl h hc => exact .sl (s _ _ h) hc
 | sl0 h => exact .sl0 (s _ _ h)
 | _ => constructor
theorem VC.mono {ι ι' : Map} (s : Sub ι ι') {v v' : Value} (h : VC ι v v') : VC ι' v v' := by
 cases h with
 | v0 h => exact .v0 (h.mono s)
 | fn f h1 h2 => exact .fn f (h1.mono fun _ _ h => h.mono s) (h2.mono fun _ _ h => h.mono s)
theorem VA.mono {ι ι' : Map} (s : Sub ι ι') {v v' : Value} (h : VA ι v v') : VA ι' v v' := by
 cases h with
 | vc h => exact .vc (h.mono s)
 | agg h => exact .agg (h.mono fun _ _ h => h.mono s)
theorem VR.mono {ι ι' : Map} (s : Sub ι ι') {v v' : Value} (h : VR ι v v') : VR ι' v v' := by
 cases h with
 | va h => exact .va (h.mono s)
 | tup h => exact .tup (h.mono fun _ _ h => h.mono s)
theorem VR.undef (ι : Map) : VR ι Go.undef Go.undef := .tup .nil
theorem VR.bool (ι : Map) (b : Bool) : VR ι (.bool b) (.bool b) := .va (.vc (.v0 (.bool b)))
theorem VR.int (ι : Map) (k : IntKind) (n : Int) : VR ι (.int k n) (.int k n) := .va (.vc (.v0 (.int k n)))
theorem VR.v0 {ι : Map} {v v' : Value} (h : V0 ι v v') : VR ι v v' := .va (.vc (.v0 h))
theorem VR.vc {ι : Map} {v v' : Value} (h : VC ι v v') : VR ι v v' := .va (.vc h)
theorem VA.cells {ι : Map} {v v' : Value} (h : VA ι v v') : F2 (VC ι) v.cells.toList v'.cells.toList := by
 cases h with
 | agg h => exact h
 | vc h =>
  have h0 := h
  cases h with
  | v0 h => cases h <;> exact .cons h0 .nil
  | fn f h1 h2 => exact .cons h0 .nil
structure HR (ι : Map) (h : Heap) (w : World) : Prop where
 dom : ∀ B l, ι B = some l → B < h.length
 live : ∀ B blk, h[B]? = some (some blk) → ∃ l, ι B = some l ∧ l.n = blk.cells.length ∧ l.base + l.n ≤ l.N ∧
  (l.e = 0 → l.N = l.base + l.n) ∧ (match blk.kind with | .grown e => l.e = e | _ => l.e = 0) ∧ ∃ c e f, w.heap[l.b]? = some (.cells c e f) ∧ l.N ≤ c.size ∧ (blk.kind ≠ .ro → f = (0, 0)) ∧
  F2 (VC ι) blk.cells ((c.toList.drop l.base).take l.n)
 apart : ∀ B1 B2 b1 b2 l1 l2, h[B1]? = some (some b1) → h[B2]? = some (some b2) → B1 ≠ B2 → b1.kind ≠ .ro → ι B1 = some l1 → ι B2 = some l2 → l1.b ≠ l2.b
structure Ext (ι : Map) (h : Heap) (w : World) (ι' : Map) (h' : Heap) (w' : World) : Prop where
 sub : Sub ι ι'
 size : w.heap.size ≤ w'.heap.size
 frame : ∀ b, b < w.heap.size → (∀ B blk l, h[B]? = some (some blk) → blk.kind ≠ .ro → ι B = some l → l.b ≠ b) → w'.heap[b]? = w.heap[b]?
 imgs : ∀ B blk l, h'[B]? = some (some blk) → blk.kind ≠ .ro → ι' B = some l →
  w.heap.size ≤ l.b ∨ ∃ B0 blk0 l0, h[B0]? = some (some blk0) ∧ blk0.kind ≠ .ro ∧ ι B0 = some l0 ∧ l0.b = l.b
 os : w'.os = w.os
 tape : w'.tape = w.tape
 output : w'.output = w.output
 imgR : ∀ B blk l, h'[B]? = some (some blk) → ι' B = some l → w.heap.size ≤ l.b ∨ ∃ B0 blk0 l0, h[B0]? = some (some blk0) ∧ ι B0 = some l0 ∧ l0.b = l.b
theorem Ext.refl (ι : Map) (h : Heap) (w : World) : Ext ι h w ι h w :=
 ⟨Sub.refl ι, Nat.le_refl _, fun _ _ _ => rfl, fun B blk l h1 h2 h3 => .inr ⟨B, blk, l, h1, h2, h3, rfl⟩, rfl, rfl, rfl, fun B blk l h1 h3 => .inr ⟨B, blk, l, h1, h3, rfl⟩⟩
theorem Ext.trans {ι ι1 ι2 : Map} {h h1 h2 : Heap} {w w1 w2 : World} (a : Ext ι h w ι1 h1 w1) (b : Ext ι1 h1 w1 ι2 h2 w2) : Ext ι h w ι2 h2 w2 where
 sub := a.sub.trans b.sub
 size := Nat.le_trans a.size b.size
 frame := fun k hk hn => (b.frame k (Nat.lt_of_lt_of_le hk a.size) fun B blk l hB hr hl => by
  rcases a.imgs B blk l hB hr hl with h' | ⟨B0, blk0, l0, q1, q2, q3, q4⟩
  ·omega
  ·rw [← q4]; exact hn B0 blk0 l0 q1 q2 q3).trans (a.frame k hk hn)
 imgs := fun B blk l hB hr hl => by
  rcases b.imgs B blk l hB hr hl with h' | ⟨B0, blk0, l0, q1, q2, q3, q4⟩
  ·have := a.size; exact .inl (by omega)
  ·rcases a.imgs B0 blk0 l0 q1 q2 q3 with h' | ⟨B1, blk1, l1, r1, r2, r3, r4⟩
   ·exact .inl (by omega)
   ·exact .inr ⟨B1, blk1, l1, r1, r2, r3, r4.trans q4⟩
 os := b.os.trans a.os
 tape := b.tape.trans a.tape
 output := b.output.trans a.output
 imgR := fun B blk l hB hl => by
  rcases b.imgR B blk l hB hl with h' | ⟨B0, blk0, l0, q1, q3, q4⟩
  ·have := a.size; exact .inl (by omega)
  ·rcases a.imgR B0 blk0 l0 q1 q3 with h' | ⟨B1, blk1, l1, r1, r3, r4⟩
   ·exact .inl (by omega)
   ·exact .inr ⟨B1, blk1, l1, r1, r3, r4.trans q4⟩
theorem HR.drawn {ι : Map} {h : Heap} {w w' : World} (H : HR ι h w) (e : w'.heap = w.heap) : HR ι h w' :=
 ⟨H.dom, fun B blk hB => by rw [e]; exact H.live B blk hB, H.apart⟩
theorem Ext.drawn {ι : Map} {h : Heap} {w w' : World} (e : w'.heap = w.heap) (e1 : w'.os = w.os) (e2 : w'.tape = w.tape) (e3 : w'.output = w.output) : Ext ι h w ι h w' :=
 ⟨Sub.refl ι, by rw [e]; exact Nat.le_refl _, fun _ _ _ => by rw [e], fun B blk l h1 h2 h3 => .inr ⟨B, blk, l, h1, h2, h3, rfl⟩, e1, e2, e3, fun B blk l h1 h3 => .inr ⟨B, blk, l, h1, h3, rfl⟩⟩
end Go.Am
namespace Go.Am
set_option linter.all false
def rd (h : Heap) (B : Nat) : Option Blk := match h[B]? with | some (some b) => some b | _ => none
def readN (h : Heap) : Addr → Nat → Option (List Value)
 | ⟨B, o, none⟩, n => match rd h B with
  | some b => if o + n ≤ b.cells.length then some ((b.cells.drop o).take n) else none
  | none => none
 | _, _ => none
def read1 (h : Heap) : Addr → Option Value
 | ⟨B, o, none⟩ => match rd h B with
  | some b => b.cells[o]?
  | none => none
 | _ => none
def setR (cs : List Value) (o : Nat) (vs : List Value) : List Value := cs.take o ++ (vs ++ cs.drop (o + vs.length))
def writeN (h : Heap) : Addr → List Value → Option Heap
 | ⟨B, o, none⟩, vs => match rd h B with
  | some b => if b.kind = .ro then none else if o + vs.length ≤ b.cells.length then some (h.set B (some ⟨b.kind, setR b.cells o vs⟩)) else none
  | none => none
 | _, _ => none
def noTup : Value → Bool
 | .tuple _ => false
 | _ => true
def okCell : Value → Bool
 | .bool _ | .int _ _ | .string _ | .pointer none | .slice none _ _ | .nilFunc | .nilIface => true
 | _ => false
def okConst : Value → Bool
 | .agg cs => cs.toList.all okCell
 | v => okCell v
inductive EqC where
 | bool | ptr | slc | fn
 | cells (g : List Bool)
def eqNeg : BinOp → Option Bool
 | .eql => some false
 | .neq => some true
 | _ => none
inductive IK where
 | mov (x : Operand)
 | pick (c a b : Operand)
 | box (x : Operand)
 | alloc (z : List Value)
 | build (z : List Value) (ps : List (Nat × Nat × Operand))
 | mkrow (z : List Value) (len : Nat) (ps : List (Nat × Nat × Operand))
 | load (x : Operand) (n : Option Nat)
 | store (x v : Operand) (n : Nat)
 | nilck (x : Operand)
 | bin (op : BinOp) (x y : Operand)
 | eqv (neg : Bool) (c : EqC) (x y : Operand)
 | un (op : UnOp) (x : Operand)
 | conv (k : IntKind) (x : Operand)
 | b2s (x : Operand)
 | mkfun (fn : Fn) (a b : List Operand)
 | mkslice (esz eby : Nat) (z : List Value) (len cap : Operand)
 | slice (esz : Nat) (x : Operand) (lo hi mx : Option Operand)
 | strsl (x : Operand) (lo hi : Option Operand)
 | slarr (esz n : Nat) (x : Operand) (lo hi : Option Operand)
 | fld (off : Nat) (n : Option Nat) (x : Operand)
 | fadr (off : Nat) (x : Operand)
 | iadr (esz : Nat) (arr : Option Nat) (x i : Operand)
 | idx (esz len : Nat) (n : Option Nat) (x i : Operand)
 | sidx (x i : Operand)
 | ext (i : Nat) (x : Operand)
 | call (f : Nat) (args : List Operand)
 | callv (x : Operand) (args : List Operand)
 | len (x : Operand)
 | slen (x : Operand)
 | append (esz eby : Nat) (s x : Operand)
 | copy (esz : Nat) (d s : Operand)
 | mn (x y : Operand)
 | mx (x y : Operand)
 | bad
structure IOp where
 dst : Option Nat
 g : Option (Nat × Bool)
 k : IK
inductive IL where
 | skip
 | reg (ops : List IOp)
 | dreg (ops : List IOp) (X : List (Nat × Nat))
 | seq (a b : IL)
 | ite (c : Operand) (a b : IL)
 | block (id : Nat) (b : IL)
 | loop (b : IL)
 | exit (id : Nat)
 | ret
def ev (t : Fr) : Operand → Value
 | .tmp i => t.getD i undef
 | .const v => v
 | .func f => .func (.func f) #[] #[]
 | .global _ => undef
abbrev Env := Nat → List Value → Heap → Option (Value × Heap)
def intBin (op : BinOp) (k : IntKind) (a b : Int) : Option Value :=
 match op with
 | .add => some (.int k (k.wrap (a + b)))
 | .sub => some (.int k (k.wrap (a - b)))
 | .mul => some (.int k (k.wrap (a * b)))
 | .quo => if b = 0 then none else some (.int k (k.wrap (a.tdiv b)))
 | .rem => if b = 0 then none else some (.int k (a.tmod b))
 | .and => some (.int k (k.wrap (BitVec.ofInt k.bits a &&& BitVec.ofInt k.bits b).toNat))
 | .or => some (.int k (k.wrap (BitVec.ofInt k.bits a ||| BitVec.ofInt k.bits b).toNat))
 | .xor => some (.int k (k.wrap (BitVec.ofInt k.bits a ^^^ BitVec.ofInt k.bits b).toNat))
 | .eql => some (.bool (a == b))
 | .neq => some (.bool (a != b))
 | .lss => some (.bool (a < b))
 | .leq => some (.bool (a ≤ b))
 | .gtr => some (.bool (a > b))
 | .geq => some (.bool (a ≥ b))
 | _ => none
def strBin (op : BinOp) (a b : ByteArray) : Option Value :=
 match op with
 | .eql => some (.bool (a.toList == b.toList))
 | .neq => some (.bool !(a.toList == b.toList))
 | .lss => some (.bool (Op.bytesLess a.toList b.toList))
 | _ => none
def binA (op : BinOp) : Value → Value → Option Value
 | .int k a, .int k' b =>
  match op with
  | .shl => if b < 0 then none else some (.int k (k.wrap (a * 2 ^ (min b.toNat k.bits))))
  | .shr => if b < 0 then none else some (.int k (a.fdiv (2 ^ (min b.toNat k.bits))))
  | _ => if k = k' then intBin op k a b else none
 | .string a, .string b => strBin op a b
 | _, _ => none
def unA : UnOp → Value → Option Value
 | .neg, .int k n => some (.int k (k.wrap (0 - n)))
 | .not, .bool b => some (.bool !b)
 | _, _ => none
def eq1 : Bool → Value → Value → Option Bool
 | true, .bool a, .bool b => some (a == b)
 | false, .int k a, .int k' b => if k = k' then some (a == b) else none
 | _, _, _ => none
def eqCells : List Bool → List Value → List Value → Option Bool
 | [], [], [] => some true
 | g :: gs, a :: l, b :: m => match eq1 g a b, eqCells gs l m with
  | some x, some y => some (x && y)
  | _, _ => none
 | _, _, _ => none
def eqA : EqC → Value → Value → Option Bool
 | .bool, .bool a, .bool b => some (a == b)
 | .ptr, .pointer none, .pointer b => some b.isNone
 | .ptr, .pointer (some _), .pointer none => some false
 | .slc, .slice none _ _, .slice b _ _ => some b.isNone
 | .slc, .slice (some _) _ _, .slice none _ _ => some false
 | .fn, .nilFunc, .nilFunc => some true
 | .fn, .nilFunc, .func _ _ _ => some false
 | .fn, .func _ _ _, .nilFunc => some false
 | .cells g, .agg xs, .agg ys => eqCells g xs.toList ys.toList
 | _, _, _ => none
def fillA (cells : List Value) : List (Nat × Nat × Value) → Option (List Value)
 | [] => some cells
 | (o, n, v) :: r => if noTup v = true ∧ v.cells.toList.length = n ∧ o + n ≤ cells.length then fillA (setR cells o v.cells.toList) r else none
def srcA (h : Heap) (esz : Nat) : Value → Option (Nat × List Value)
 | .slice none n _ => if n = 0 then some (0, []) else none
 | .slice (some a) n _ => match readN h a (n * esz) with
  | some l => some (n, l)
  | none => none
 | _ => none
def isEnd (h : Heap) (esz : Nat) (a : Addr) (cap : Nat) : Option Bool :=
 match rd h a.block with
 | some b => match b.kind with
  | .grown e => if e = esz ∧ 0 < esz then some (a.off + cap * esz == b.cells.length) else none
  | _ => some false
 | none => none
def appA (esz eby : Nat) (h : Heap) (s x : Value) : Option (Value × Heap) :=
 match s with
 | .slice base len cap =>
  match srcA h esz x with
  | some (n, new) =>
   if n = 0 then (if len ≤ cap then some (.slice base len cap, h) else none) else
   match base with
   | none =>
    if len = 0 ∧ cap = 0 ∧ 0 < esz ∧ n * eby ≤ 1099511627776 ∧ n ≤ 1099511627776 then some (.slice (some ⟨h.length, 0, none⟩) n n, h ++ [some ⟨.grown esz, new⟩])
    else none
   | some a =>
    if len + n ≤ cap then
     match writeN h ⟨a.block, a.off + len * esz, a.spot⟩ new with
     | some h' => some (.slice (some a) (len + n) cap, h')
     | none => none
    else if 0 < esz ∧ (len + n) * eby ≤ 1099511627776 ∧ len + n ≤ 1099511627776 then
     match readN h a (len * esz), isEnd h esz a cap with
     | some old, some e => some (.slice (some ⟨h.length, 0, none⟩) (len + n) (len + n), (if e then h.set a.block none else h) ++ [some ⟨.grown esz, old ++ new⟩])
     | _, _ => none
    else none
  | none => none
 | _ => none
def copyA (esz : Nat) (h : Heap) (d s : Value) : Option (Value × Heap) :=
 match d, s with
 | .slice (some a) n _, .slice (some b) m _ =>
  match readN h b (Nat.min m n * esz) with
  | some l => match writeN h a l with
   | some h' => some (.int .i64 (Nat.min m n : Nat), h')
   | none => none
  | none => none
 | .slice (some _) n _, .slice none m _ => if m = 0 then some (.int .i64 0, h) else none
 | _, _ => none
def boundA (y : Nat) : Value → Option Nat
 | .int _ i => if 0 ≤ i ∧ i ≤ y then some i.toNat else none
 | _ => none
def hiB (len cap : Nat) : Option Value → Option Nat
 | some v => boundA cap v
 | none => if len ≤ cap then some len else none
def loB (e : Nat) : Option Value → Option Nat
 | some v => boundA e v
 | none => some 0
def sliceA (esz : Nat) (h : Heap) (x : Value) (lo hi mx : Option Value) : Option Value :=
 match x with
 | .slice a len cap =>
  match mx with
  | some m => match boundA cap m with
   | some m => match (match hi with | some v => boundA m v | none => none) with
    | some e => match loB e lo with
     | some l => some (.slice (if m = l then a else a.map (·.add (l * esz))) (e - l) (m - l))
     | none => none
    | none => none
   | none => none
  | none => match hiB len cap hi with
   | some e => match loB e lo with
    | some l =>
     match a with
     | none => some (.slice none (e - l) (cap - l))
     | some p => match isEnd h esz p cap with
      | some q => some (.slice (some (if cap = l ∧ q = false then p else p.add (l * esz))) (e - l) (cap - l))
      | none => none
    | none => none
   | none => none
 | _ => none
def strslA (x : Value) (lo hi : Option Value) : Option Value :=
 match x with
 | .string s =>
  match hiB s.size s.size hi with
  | some e => match loB e lo with
   | some l => some (.string (s.extract l e))
   | none => none
  | none => none
 | _ => none
def slarrA (esz n : Nat) (x : Value) (lo hi : Option Value) : Option Value :=
 match x with
 | .pointer (some p) =>
  match hiB n n hi with
  | some e => match loB e lo with
   | some l => some (.slice (some (if n = l then p else p.add (l * esz))) (e - l) (n - l))
   | none => none
  | none => none
 | _ => none
def byteOf1 : Value → Option UInt8
 | .int .u8 n => some (UInt8.ofNat n.toNat)
 | _ => none
def b2sA (h : Heap) : Value → Option Value
 | .slice none _ _ => some (.string .empty)
 | .slice (some a) n _ => match readN h a n with
  | some l => match l.mapM byteOf1 with
   | some bs => some (.string ⟨⟨bs⟩⟩)
   | none => none
  | none => none
 | _ => none
def flat0 : Value → Bool
 | .func .. | .agg _ | .tuple _ => false
 | _ => true
def evps (t : Fr) (ps : List (Nat × Nat × Operand)) : List (Nat × Nat × Value) := ps.map fun p => (p.1, p.2.1, ev t p.2.2)
def pureA (k : IK) (t : Fr) (h : Heap) : Option Value :=
 match k with
 | .mov x => some (ev t x)
 | .pick c a b => match ev t c with
  | .bool c => some (if c then ev t a else ev t b)
  | _ => none
 | .build z ps => match fillA z (evps t ps) with
  | some l => some (.agg ⟨l⟩)
  | none => none
 | .load x n => match ev t x, n with
  | .pointer (some a), none => read1 h a
  | .pointer (some a), some n => match readN h a n with
   | some l => some (.agg ⟨l⟩)
   | none => none
  | _, _ => none
 | .nilck x => match ev t x with
  | .pointer (some a) => some (.pointer (some a))
  | _ => none
 | .bin op x y => binA op (ev t x) (ev t y)
 | .eqv neg c x y => match eqA c (ev t x) (ev t y) with
  | some b => some (.bool (if neg then !b else b))
  | none => none
 | .un op x => unA op (ev t x)
 | .conv k x => match ev t x with
  | .int _ n => some (.int k (k.wrap n))
  | _ => none
 | .b2s x => b2sA h (ev t x)
 | .mkfun fn a b => if (a.map (ev t)).all flat0 && (b.map (ev t)).all flat0 then
   some (.func fn ⟨a.map (ev t)⟩ ⟨b.map (ev t)⟩) else none
 | .slice esz x lo hi mx => sliceA esz h (ev t x) (lo.map (ev t)) (hi.map (ev t)) (mx.map (ev t))
 | .strsl x lo hi => strslA (ev t x) (lo.map (ev t)) (hi.map (ev t))
 | .slarr esz n x lo hi => slarrA esz n (ev t x) (lo.map (ev t)) (hi.map (ev t))
 | .fld off n x => match ev t x, n with
  | .agg cs, none => cs.toList[off]?
  | .agg cs, some n => if off + n ≤ cs.toList.length then some (.agg ⟨(cs.toList.drop off).take n⟩) else none
  | _, _ => none
 | .fadr off x => match ev t x with
  | .pointer (some ⟨B, o, none⟩) => some (.pointer (some ⟨B, o + off, none⟩))
  | _ => none
 | .iadr esz arr x i => match ev t x, arr, ev t i with
  | .pointer (some ⟨B, o, none⟩), some n, .int _ i => if 0 ≤ i ∧ i < n then some (.pointer (some ⟨B, o + i.toNat * esz, none⟩)) else none
  | .slice (some ⟨B, o, none⟩) n _, none, .int _ i => if 0 ≤ i ∧ i < n then some (.pointer (some ⟨B, o + i.toNat * esz, none⟩)) else none
  | _, _, _ => none
 | .idx esz len n x i => match ev t x, n, ev t i with
  | .agg cs, none, .int _ i => if 0 ≤ i ∧ i < len then cs.toList[i.toNat * esz]? else none
  | .agg cs, some n, .int _ i => if 0 ≤ i ∧ i < len ∧ i.toNat * esz + n ≤ cs.toList.length then some (.agg ⟨(cs.toList.drop (i.toNat * esz)).take n⟩) else none
  | _, _, _ => none
 | .sidx x i => match ev t x, ev t i with
  | .string s, .int _ i => if 0 ≤ i then match s.data.toList[i.toNat]? with
   | some b => some (.int .u8 b.toNat)
   | none => none else none
  | _, _ => none
 | .ext i x => match ev t x with
  | .tuple vs => vs.toList[i]?
  | _ => none
 | .len x => match ev t x with
  | .slice _ n _ => some (.int .i64 n)
  | _ => none
 | .slen x => match ev t x with
  | .string s => some (.int .i64 s.size)
  | _ => none
 | .mn x y => match ev t x, ev t y with
  | .int k a, .int k' b => if k = k' then some (.int k (if b < a then b else a)) else none
  | _, _ => none
 | .mx x y => match ev t x, ev t y with
  | .int k a, .int k' b => if k = k' then some (.int k (if b > a then b else a)) else none
  | _, _ => none
 | _ => none
def opA (Γ : Env) (k : IK) (t : Fr) (h : Heap) : Option (Value × Heap) :=
 match k with
 | .box x => if noTup (ev t x) then some (.pointer (some ⟨h.length, 0, none⟩), h ++ [some ⟨.fix, (ev t x).cells.toList⟩]) else none
 | .alloc z => some (.pointer (some ⟨h.length, 0, none⟩), h ++ [some ⟨.fix, z⟩])
 | .mkrow z len ps => match fillA z (evps t ps) with
  | some l => some (.slice (some ⟨h.length, 0, none⟩) len len, h ++ [some ⟨.fix, l⟩])
  | none => none
 | .store x v n => match ev t x with
  | .pointer (some a) => if noTup (ev t v) = true ∧ (ev t v).cells.toList.length = n then
    match writeN h a (ev t v).cells.toList with
    | some h' => some (undef, h')
    | none => none
   else none
  | _ => none
 | .mkslice esz eby z len cap => match ev t len, ev t cap with
  | .int .i64 l, .int .i64 c => if 0 ≤ l ∧ l ≤ c ∧ c * eby ≤ 1099511627776 ∧ c ≤ 1099511627776 ∧ z.length = esz then
    some (.slice (some ⟨h.length, 0, none⟩) l.toNat c.toNat, h ++ [some ⟨.fix, (List.replicate c.toNat z).flatten⟩]) else none
  | _, _ => none
 | .call f args => Γ f (args.map (ev t)) h
 | .callv x args => match ev t x with
  | .func (.func f) a b => Γ f (a.toList ++ (args.map (ev t) ++ b.toList)) h
  | _ => none
 | .append esz eby s x => appA esz eby h (ev t s) (ev t x)
 | .copy esz d s => copyA esz h (ev t d) (ev t s)
 | k => match pureA k t h with
  | some v => some (v, h)
  | none => none
def put (t : Fr) : Option Nat → Value → Fr
 | some d, v => t.set d v
 | none, _ => t
def want (t : Fr) : Option (Nat × Bool) → Bool
 | none => true
 | some (i, b) => match t.getD i undef with
  | .bool c => c == b
  | _ => false
def runR (Γ : Env) : List IOp → Fr → Heap → Option (Fr × Heap)
 | [], t, h => some (t, h)
 | o :: r, t, h =>
  if want t o.g then
   match opA Γ o.k t h with
   | some (v, h') => runR Γ r (put t o.dst v) h'
   | none => none
  else runR Γ r (put t o.dst undef) h
end Go.Am
namespace Go.Am
set_option linter.all false
def szT (P : Program) (T : TypeId) : Option Nat := (P.info? T).map (·.size)
def shT (P : Program) (T : TypeId) : Option (Option Nat) :=
 match P.underlying T, P.info? T with
 | some (.struct _), some i => some (some i.size)
 | some (.array _ _), some i => some (some i.size)
 | some _, some _ => some none
 | _, _ => none
def zeroT (P : Program) (T : TypeId) : Option (Array Value) := match P.info? T with
 | some i => match i.zero with
  | some v => if v.cells.toList.all okCell then some v.cells else none
  | none => none
 | none => none
def leavesF (P : Program) (lv : TypeId → Option (List Bool)) : List Field → Nat → Option (List Bool)
 | [], _ => some []
 | f :: fs, k => match lv f.type with
  | some m => if f.offset = k ∧ (f.name == "_") = false ∧ szT P f.type = some m.length then
    match leavesF P lv fs (k + m.length) with
    | some r => some (m ++ r)
    | none => none
   else none
  | none => none
def leaves (P : Program) : Nat → TypeId → Option (List Bool)
 | 0, _ => none
 | d + 1, T => match P.underlying T with
  | some .bool => some [true]
  | some (.int _) => some [false]
  | some (.struct fs) => if P.stoodInHeld T then none else leavesF P (leaves P d) fs.toList 0
  | some (.array n e) => match leaves P d e with
   | some m => if szT P e = some m.length then some (List.replicate n m).flatten else none
   | none => none
  | _ => none
def opdOK : Operand → Bool
 | .const v => okConst v
 | .global _ => false
 | _ => true
def stps (f : Nat → Option (Nat × Nat)) (ps : List (Nat × Operand)) : Option (List (Nat × Nat × Operand)) :=
 match ps with
 | [] => some []
 | (i, x) :: r => match f i, stps f r with
  | some (o, n), some l => if opdOK x then some ((o, n, x) :: l) else none
  | _, _ => none
def rowOf (z : Array Value) (m : Nat) : List Value := ((Array.range m).map (fun i => z[i % z.size]!)).toList
def placeOf (P : Program) (fs : Array Field) (i : Nat) : Option (Nat × Nat) :=
 match fs[i]? with
 | some f => (szT P f.type).map (f.offset, ·)
 | none => none
def stK (P : Program) (op : Op) : IK :=
 match op with
 | .move x | .assign x => if opdOK x then .mov x else .bad
 | .pick c a b => if opdOK c && opdOK a && opdOK b then .pick c a b else .bad
 | .alloc T => match zeroT P T with
  | some z => .alloc z.toList
  | none => .bad
 | .box _ x => if opdOK x then .box x else .bad
 | .build T ps => match P.underlying T, zeroT P T with
  | some (.struct fs), some z =>
   if fs.toList.all (fun f => (P.info? f.type).isSome) then
    match stps (placeOf P fs) ps.toList with
    | some l => .build z.toList l
    | none => .bad
   else .bad
  | some (.array _ e), some z => match szT P e with
   | some n => match stps (fun i => some (i * n, n)) ps.toList with
    | some l => .build z.toList l
    | none => .bad
   | none => .bad
  | _, _ => .bad
 | .buildSlice T len ps => match P.underlying T with
  | some (.slice e) => match szT P e, zeroT P e with
   | some n, some z => if len * n ≤ 2 ^ 24 ∧ 0 < n ∧ (rowOf z (len * n)).all okCell then
     match stps (fun i => some (i * n, n)) ps.toList with
     | some l => .mkrow (rowOf z (len * n)) len l
     | none => .bad
    else .bad
   | _, _ => .bad
  | _ => .bad
 | .load T x => match shT P T with
  | some n => if opdOK x then .load x n else .bad
  | none => .bad
 | .store T x v => match szT P T with
  | some n => if opdOK x && opdOK v then .store x v n else .bad
  | none => .bad
 | .nilCheck x => if opdOK x then .nilck x else .bad
 | .binOp op T x y _ => if opdOK x && opdOK y then
   match P.underlying T with
   | some (.int _) | some .string => .bin op x y
   | some d =>
    match eqNeg op with
    | some neg => match d with
     | .bool => .eqv neg .bool x y
     | .pointer e => match szT P e with
      | some _ => .eqv neg .ptr x y
      | none => .bad
     | .slice _ => .eqv neg .slc x y
     | .func _ _ _ => .eqv neg .fn x y
     | .struct _ | .array _ _ => if P.eqGuardType P.depth T then .bad else match leaves P 8 T with
      | some n => .eqv neg (.cells n) x y
      | none => .bad
     | _ => .bad
    | none => .bad
   | none => .bad
  else .bad
 | .unOp op _ x => if opdOK x then .un op x else .bad
 | .convert s d x => if opdOK x then
   match P.underlying s, P.underlying d with
   | some (.int _), some (.int k) => .conv k x
   | some (.slice e), some .string => match P.underlying e with
    | some (.int .u8) => .b2s x
    | _ => .bad
   | _, _ => .bad
  else .bad
 | .makeFunc fn a b => if a.toList.all opdOK && b.toList.all opdOK then .mkfun fn a.toList b.toList else .bad
 | .makeSlice T l c => match P.underlying T with
  | some (.slice e) => match P.info? e, zeroT P e with
   | some i, some z => if opdOK l && opdOK c && decide (z.size = i.size) && decide (0 < i.size) then .mkslice i.size i.bytes z.toList l c else .bad
   | _, _ => .bad
  | _ => .bad
 | .slice T x lo hi mx => if opdOK x && lo.all opdOK && hi.all opdOK && mx.all opdOK then
   match P.underlying T with
   | some (.slice e) => match szT P e with
    | some n => .slice n x lo hi mx
    | none => .bad
   | some .string => match mx with
    | none => .strsl x lo hi
    | some _ => .bad
   | some (.array n e) => match szT P e, mx with
    | some s, none => .slarr s n x lo hi
    | _, _ => .bad
   | _ => .bad
  else .bad
 | .fieldAddr T x f => match P.underlying T with
  | some (.struct fs) => match fs[f]? with
   | some fd => match szT P fd.type with
    | some n => if opdOK x && decide (0 < n) then .fadr fd.offset x else .bad
    | none => .bad
   | none => .bad
  | _ => .bad
 | .field T x f => match P.underlying T with
  | some (.struct fs) => match fs[f]? with
   | some fd => match shT P fd.type with
    | some n => if opdOK x then .fld fd.offset n x else .bad
    | none => .bad
   | none => .bad
  | _ => .bad
 | .indexAddr T x i => if opdOK x && opdOK i then
   match P.underlying T with
   | some (.array n e) => match szT P e with
    | some s => .iadr s (some n) x i
    | none => .bad
   | some (.slice e) => match szT P e with
    | some s => .iadr s none x i
    | none => .bad
   | _ => .bad
  else .bad
 | .index T x i => if opdOK x && opdOK i then
   match P.underlying T with
   | some (.array n e) => match szT P e, shT P e with
    | some s, some m => .idx s n m x i
    | _, _ => .bad
   | some .string => .sidx x i
   | _ => .bad
  else .bad
 | .extract x i => if opdOK x then .ext i x else .bad
 | .call c => if c.args.toList.all opdOK then
   match c.callee with
   | .value (.func f) => .call f c.args.toList
   | .value (.tmp x) => .callv (.tmp x) c.args.toList
   | .builtin b => match b, c.args.toList, c.argTypes.toList with
    | .len, [x], [T] => match P.underlying T with
     | some (.slice _) => .len x
     | some .string => .slen x
     | some (.array n _) => .mov (.const (.int .i64 n))
     | some (.pointer a) => match P.underlying a with
      | some (.array n _) => .mov (.const (.int .i64 n))
      | _ => .bad
     | _ => .bad
    | .append, [s, x], [T, U] => if T = U then match P.underlying T with
      | some (.slice e) => match P.info? e, zeroT P e with
       | some i, some z => if z.size = i.size then .append i.size i.bytes s x else .bad
       | _, _ => .bad
      | _ => .bad
     else .bad
    | .copy, [d, s], [T, U] => if T = U then match P.underlying T with
      | some (.slice e) => match szT P e with
       | some n => .copy n d s
       | none => .bad
      | _ => .bad
     else .bad
    | .min, [x, y], _ => .mn x y
    | .max, [x, y], _ => .mx x y
    | _, _, _ => .bad
   | _ => .bad
  else .bad
 | _ => .bad
def stG (ops : Array Oper) : Option (Nat × Bool) → Option (Option (Nat × Bool))
 | none => some none
 | some (j, b) => match ops[j]? with
  | some o => match o.dst with
   | some d => some (some (d, b))
   | none => none
  | none => none
def stOp (P : Program) (ops : Array Oper) (o : Oper) : Option IOp :=
 match stG ops o.guard with
 | some g => some ⟨o.dst, g, stK P o.op⟩
 | none => none
def stOps (P : Program) (ops : Array Oper) : List Oper → Option (List IOp)
 | [] => some []
 | o :: r => match stOp P ops o, stOps P ops r with
  | some x, some l => some (x :: l)
  | _, _ => none
theorem okCell_v0 {v : Value} (h : okCell v = true) (ι : Map) : V0 ι v v := by
 cases v with
 | bool b => exact .bool b
 | int k n => exact .int k n
 | string s => exact .str s
 | pointer a => cases a with
  | none => exact .nilPtr
  | some a => cases h
 | slice a n c => cases a with
  | none => exact .nilSl n c
  | some a => cases h
 | nilFunc => exact .nilFn
 | nilIface => exact .nilIf
 | _ => cases h
theorem okCells {ι : Map} : ∀ {l : List Value}, l.all okCell = true → F2 (VC ι) l l
 | [], _ => .nil
 | v :: l, h => by
  simp at h
  exact .cons (.v0 (okCell_v0 h.1 ι)) (okCells (by simpa using h.2))
theorem okConst_vr {v : Value} (h : okConst v = true) (ι : Map) : VR ι v v := by
 cases v with
 | agg cs =>
  obtain ⟨l⟩ := cs
  exact .va (.agg (okCells (by simpa [okConst] using h)))
 | _ => exact .v0 (okCell_v0 (by simpa [okConst] using h) ι)
theorem getD_toList (a : Array Value) (i : Nat) : a.getD i undef = a.toList.getD i undef := by
 simp [Array.getD_eq_getD_getElem?]
theorem ev_sim {ι : Map} {t : Fr} {a : Act} (hF : F2 (VR ι) t a.tmps.toList) {x : Operand} (hx : opdOK x = true) : VR ι (ev t x) (a.eval x) := by
 cases x with
 | tmp i => simp only [ev, Act.eval, getD_toList]; exact hF.getD i _ _ (VR.undef ι)
 | const v => exact okConst_vr hx ι
 | global g => cases hx
 | func f => exact .vc (.fn _ .nil .nil)
theorem evs_sim {ι : Map} {t : Fr} {a : Act} (hF : F2 (VR ι) t a.tmps.toList) {xs : List Operand} (hx : xs.all opdOK = true) :
  F2 (VR ι) (xs.map (ev t)) (xs.map a.eval) :=
 F2.map xs fun x h => ev_sim hF (by simpa using List.all_eq_true.1 hx x h)
section
variable {ι : Map} {h : Heap} {w : World}
theorem rd_some {B : Nat} {b : Blk} (e : rd h B = some b) : h[B]? = some (some b) := by
 unfold rd at e
 split at e
 ·rename_i x hx; cases e; exact hx
 ·cases e
theorem HR.at {B : Nat} {b : Blk} (H : HR ι h w) (e : rd h B = some b) {l : Loc} (hl : ι B = some l) :
  l.n = b.cells.length ∧ l.base + l.n ≤ l.N ∧ (l.e = 0 → l.N = l.base + l.n) ∧ (match b.kind with | .grown e => l.e = e | _ => l.e = 0) ∧
  ∃ c e f, w.heap[l.b]? = some (.cells c e f) ∧ l.N ≤ c.size ∧ (b.kind ≠ .ro → f = (0, 0)) ∧ F2 (VC ι) b.cells ((c.toList.drop l.base).take l.n) := by
 obtain ⟨l', e1, h1⟩ := H.live B b (rd_some e)
 rw [hl] at e1
 cases e1
 exact h1
theorem cell_of {c : Array Value} {e : TypeId} {f : Nat × Nat} {b o : Nat} (hb : w.heap[b]? = some (.cells c e f)) : w.cell? ⟨b, o, none⟩ = c[o]? := by
 simp [World.cell?, hb]
theorem HR.cell {B o : Nat} {b : Blk} (H : HR ι h w) (e : rd h B = some b) {l : Loc} (hl : ι B = some l) {v : Value} (hv : b.cells[o]? = some v) :
  ∃ v', w.cell? ⟨l.b, l.base + o, none⟩ = some v' ∧ VC ι v v' := by
 obtain ⟨hn, _, _, _, c, e, f, hb, hN, _, hF⟩ := H.at e hl
 obtain ⟨v', hv', hr⟩ := hF.get o v hv
 refine ⟨v', ?_, hr⟩
 rw [cell_of hb]
 rw [List.getElem?_take] at hv'
 split at hv'
 ·simpa [List.getElem?_drop] using hv'
 ·cases hv'
theorem readN_some {B o n : Nat} {s : Option Nat} {vs : List Value} (e : readN h ⟨B, o, s⟩ n = some vs) :
  s = none ∧ ∃ b, rd h B = some b ∧ o + n ≤ b.cells.length ∧ vs = (b.cells.drop o).take n := by
 cases s with
 | some s => simp [readN] at e
 | none =>
  simp only [readN] at e
  split at e
  ·rename_i b hb
   split at e
   ·rename_i hle; cases e; exact ⟨rfl, b, hb, hle, rfl⟩
   ·cases e
  ·cases e
theorem HR.cells {B o n : Nat} {vs : List Value} (H : HR ι h w) (e : readN h ⟨B, o, none⟩ n = some vs) {l : Loc} (hl : ι B = some l) :
  ∃ vs', F2 (VC ι) vs vs' ∧ vs'.length = n ∧ ∀ j v, vs'[j]? = some v → w.cell? ⟨l.b, l.base + o + j, none⟩ = some v := by
 obtain ⟨_, b, hb, hle, rfl⟩ := readN_some e
 obtain ⟨hn, hbN, _, _, c, e, f, hc, hN, _, hF⟩ := H.at hb hl
 refine ⟨(((c.toList.drop l.base).take l.n).drop o).take n, (hF.drop o).take n, ?_, fun j v hv => ?_⟩
 ·simp; omega
 ·rw [cell_of hc]
  rw [List.getElem?_take] at hv
  split at hv
  ·rw [List.getElem?_drop, List.getElem?_take] at hv
   split at hv
   ·rw [List.getElem?_drop] at hv
    rw [← Array.getElem?_toList, ← hv]
    congr 1; omega
   ·cases hv
  ·cases hv
theorem add_plain (b o n : Nat) : (⟨b, o, none⟩ : Addr).add n = ⟨b, o + n, none⟩ := by unfold Addr.add; split <;> simp_all
theorem run_cells {P : Program} {b o : Nat} {vs : List Value} (hc : ∀ j v, vs[j]? = some v → w.cell? ⟨b, o + j, none⟩ = some v) :
  (loadCells ⟨b, o, none⟩ vs.length).run P w = .ok vs.toArray w :=
 run_loadCells_list w _ vs fun j v hv => by rw [add_plain]; exact hc j v hv
end
theorem VR.ptr_inv {ι : Map} {B o : Nat} {s : Option Nat} {v' : Value} (h : VR ι (.pointer (some ⟨B, o, s⟩)) v') :
  s = none ∧ ∃ l, ι B = some l ∧ v' = .pointer (some ⟨l.b, l.base + o, none⟩) := by
 cases h with
 | va h => cases h with
  | vc h => cases h with
   | v0 h => cases h with
    | ptr h => exact ⟨rfl, _, h, rfl⟩
theorem VR.bool_inv {ι : Map} {b : Bool} {v' : Value} (h : VR ι (.bool b) v') : v' = .bool b := by
 cases h with
 | va h => cases h with
  | vc h => cases h with
   | v0 h => cases h; rfl
theorem VR.int_inv {ι : Map} {k : IntKind} {n : Int} {v' : Value} (h : VR ι (.int k n) v') : v' = .int k n := by
 cases h with
 | va h => cases h with
  | vc h => cases h with
   | v0 h => cases h; rfl
theorem VR.str_inv {ι : Map} {s : ByteArray} {v' : Value} (h : VR ι (.string s) v') : v' = .string s := by
 cases h with
 | va h => cases h with
  | vc h => cases h with
   | v0 h => cases h; rfl
theorem VR.agg_inv {ι : Map} {a : Array Value} {v' : Value} (h : VR ι (.agg a) v') : ∃ a', v' = .agg ⟨a'⟩ ∧ F2 (VC ι) a.toList a' := by
 cases h with
 | va h => cases h with
  | vc h => cases h with
   | v0 h => cases h
  | agg h => exact ⟨_, rfl, h⟩
theorem VR.tup_inv {ι : Map} {a : Array Value} {v' : Value} (h : VR ι (.tuple a) v') : ∃ a', v' = .tuple ⟨a'⟩ ∧ F2 (VA ι) a.toList a' := by
 cases h with
 | va h => cases h with
  | vc h => cases h with
   | v0 h => cases h
 | tup h => exact ⟨_, rfl, h⟩
theorem VR.nilSl_inv {ι : Map} {n c : Nat} {v' : Value} (h : VR ι (.slice none n c) v') : v' = .slice none n c := by
 cases h with
 | va h => cases h with
  | vc h => cases h with
   | v0 h => cases h; rfl
theorem VR.va_of {ι : Map} {v v' : Value} (h : VR ι v v') (hn : noTup v = true) : VA ι v v' := by
 cases h with
 | va h => exact h
 | tup h => cases hn
end Go.Am
namespace Go.Am
set_option linter.all false
variable {P : Program} {ι : Map} {h : Heap} {w : World} {t : Fr} {a : Act}
def PureOk (P : Program) (ι : Map) (w : World) (a : Act) (o : Oper) (v : Value) : Prop :=
 ∃ v', (execOp a.eval o).run P w = .ok (.value v') w ∧ VR ι v v'
theorem run_und {T : TypeId} {d : TypeDesc} (hu : P.underlying T = some d) : (underlying T).run P w = .ok d w := run_underlying hu w
theorem run_ti {T : TypeId} {i : TypeInfo} (hi : P.info? T = some i) : (typeInfo T).run P w = .ok i w := by simp [typeInfo, hi]
theorem run_sz {T : TypeId} {n : Nat} (hi : szT P T = some n) : (sizeOf T).run P w = .ok n w := by
 unfold szT at hi
 cases h : P.info? T with
 | none => simp [h] at hi
 | some i => simp [h] at hi; simp [sizeOf, run_ti h, hi]
theorem run_zero {T : TypeId} {z : Array Value} (hz : zeroT P T = some z) : ∃ v, (zeroValue T).run P w = .ok v w ∧ v.cells = z ∧ z.toList.all okCell = true := by
 unfold zeroT at hz
 split at hz
 ·rename_i i hi
  split at hz
  ·rename_i v hv
   split at hz
   ·rename_i hc; cases hz; exact ⟨v, by simp [zeroValue, run_ti hi, hv], rfl, hc⟩
   ·cases hz
  ·cases hz
 ·cases hz
theorem shT_some {T : TypeId} {n : Option Nat} (e : shT P T = some n) :
  (∃ m, n = some m ∧ szT P T = some m ∧ (isAgg T).run P w = .ok true w) ∨ (n = none ∧ (isAgg T).run P w = .ok false w) := by
 unfold shT at e
 split at e
 ·rename_i fs i hu hi; cases e; exact .inl ⟨_, rfl, by simp [szT, hi], by simp [isAgg, run_und hu]⟩
 ·rename_i x y i hu hi; cases e; exact .inl ⟨_, rfl, by simp [szT, hi], by simp [isAgg, run_und hu]⟩
 ·rename_i d i h1 h2 hu hi
  cases e
  refine .inr ⟨rfl, ?_⟩
  unfold isAgg
  rw [Sem.run_bind, run_und hu]
  cases d <;> simp_all
 ·cases e
theorem sim_load1 {T : TypeId} {B o : Nat} {s : Option Nat} {v p' : Value} (H : HR ι h w) (e : shT P T = some none) (hp : VR ι (.pointer (some ⟨B, o, s⟩)) p')
  (hv : read1 h ⟨B, o, s⟩ = some v) : ∃ v', (Instr.loadAt T p').run P w = .ok v' w ∧ VR ι v v' := by
 obtain ⟨rfl, l, hl, rfl⟩ := hp.ptr_inv
 simp only [read1] at hv
 split at hv
 ·rename_i b hb
  obtain ⟨v', hc, hr⟩ := H.cell hb hl hv
  rcases shT_some (P := P) (w := w) e with ⟨m, hm, _⟩ | ⟨_, ha⟩
  ·cases hm
  ·refine ⟨v', ?_, .vc hr⟩
   simp [Instr.loadAt, Instr.sureAddr, loadVar, ha, hc]
 ·cases hv
theorem sim_loadN {T : TypeId} {n : Nat} {a0 : Addr} {l : List Value} {p' : Value} (H : HR ι h w) (e : shT P T = some (some n)) (hp : VR ι (.pointer (some a0)) p')
  (hv : readN h a0 n = some l) : ∃ v', (Instr.loadAt T p').run P w = .ok v' w ∧ VR ι (.agg ⟨l⟩) v' := by
 obtain ⟨B, o, s⟩ := a0
 obtain ⟨rfl, lo, hl, rfl⟩ := hp.ptr_inv
 obtain ⟨vs', hF, hn, hc⟩ := H.cells hv hl
 rcases shT_some (P := P) (w := w) e with ⟨m, hm, hs, ha⟩ | ⟨hm, _⟩
 ·cases hm
  refine ⟨.agg ⟨vs'⟩, ?_, .va (.agg hF)⟩
  have := run_cells (P := P) hc
  rw [hn] at this
  simp [Instr.loadAt, Instr.sureAddr, loadVar, ha, run_sz hs, this]
 ·cases hm
theorem sim_part1 {T : TypeId} {off : Nat} {cs cs' : List Value} {v : Value} (e : shT P T = some none) (hF : F2 (VC ι) cs cs') (hv : cs[off]? = some v) :
  ∃ v', (part T ⟨cs'⟩ off).run P w = .ok v' w ∧ VR ι v v' := by
 obtain ⟨v', hv', hr⟩ := hF.get _ _ hv
 rcases shT_some (P := P) (w := w) e with ⟨m, hm, _⟩ | ⟨_, ha⟩
 ·cases hm
 ·exact ⟨v', by simp [part, ha, hv'], .vc hr⟩
theorem sim_partN {T : TypeId} {off n : Nat} {cs cs' : List Value} (e : shT P T = some (some n)) (hF : F2 (VC ι) cs cs') :
  ∃ v', (part T ⟨cs'⟩ off).run P w = .ok v' w ∧ VR ι (.agg ⟨(cs.drop off).take n⟩) v' := by
 rcases shT_some (P := P) (w := w) e with ⟨m, hm, hs, ha⟩ | ⟨hm, _⟩
 ·cases hm
  refine ⟨.agg ⟨(cs'.drop off).take n⟩, ?_, .va (.agg ((hF.drop off).take n))⟩
  simp [part, ha, run_sz hs]
 ·cases hm
theorem foldl_setR (vs : List Value) (o : Nat) : ∀ (cs : Array Value) (k : Nat), o + k + vs.length ≤ cs.size →
  ((vs.zipIdx k).foldl (fun cs (c : Value × Nat) => cs.setIfInBounds (o + c.2) c.1) cs).toList = setR cs.toList (o + k) vs := by
 induction vs with
 | nil => intro cs k _; simp [setR]
 | cons v vs ih =>
  intro cs k hk
  simp only [List.length_cons] at hk
  simp only [List.zipIdx_cons, List.foldl_cons]
  have := ih (cs.setIfInBounds (o + k) v) (k + 1) (by simp; omega)
  rw [show o + (k + 1) = o + k + 1 by omega] at this
  rw [this]
  unfold setR
  simp only [Array.toList_setIfInBounds, List.length_cons]
  have hl : o + k < cs.toList.length := by simp; omega
  generalize cs.toList = l at hl
  generalize o + k = p at hl
  apply List.ext_getElem?
  intro i
  simp only [List.getElem?_append, List.getElem?_take, List.getElem?_drop, List.length_take, List.length_set, List.length_cons, List.getElem?_set, List.getElem?_cons]
  rcases Nat.lt_trichotomy i p with hi | hi | hi
  ·have h1 : i < p + 1 := by omega
   have h2 : i < min (p + 1) l.length := by omega
   have h3 : i < min p l.length := by omega
   have h4 : ¬ p = i := by omega
   simp [h1, h2, h3, h4, hi]
  ·subst hi
   have h2 : i < min (i + 1) l.length := by omega
   have h3 : ¬ i < min i l.length := by omega
   have h5 : i - min i l.length = 0 := by omega
   simp [h2, h3, h5, hl]
  ·have h1 : ¬ i < min (p + 1) l.length := by omega
   have h3 : ¬ i < min p l.length := by omega
   have h5 : i - min p l.length = i - (p + 1) + 1 := by omega
   have h6 : i - min (p + 1) l.length = i - (p + 1) := by omega
   simp only [h1, h3, h5, h6, if_false, Nat.add_one_ne_zero, Nat.add_sub_cancel]
   by_cases hlt : i - (p + 1) < vs.length
   ·have h7 : i - (p + 1) + 1 < vs.length + 1 := by omega
    rw [if_pos hlt, if_pos h7]
   ·have h7 : ¬ i - (p + 1) + 1 < vs.length + 1 := by omega
    have h8 : ¬ p = p + 1 + vs.length + (i - (p + 1) - vs.length) := by omega
    rw [if_neg hlt, if_neg h7, if_neg h8]
    congr 1; omega
theorem fill_sim (place : Nat → Option (Nat × Nat)) : ∀ (ps : List (Nat × Value × Value)) (cells : List Value) (cells' : List Value) (l : List Value),
  F2 (VC ι) cells cells' → (∀ p ∈ ps, VR ι p.2.1 p.2.2) → fillA cells (ps.filterMap fun p => (place p.1).map fun q => (q.1, q.2, p.2.1)) = some l → (∀ p ∈ ps, (place p.1).isSome = true) →
  ∃ l', Instr.fill place ⟨cells'⟩ (ps.map fun p => (p.1, p.2.2)) = some ⟨l'⟩ ∧ F2 (VC ι) l l'
 | [], cells, cells', l, hF, _, e, _ => by simp [fillA] at e; subst e; exact ⟨cells', rfl, hF⟩
 | (i, v, v') :: r, cells, cells', l, hF, hr, e, hs => by
  obtain ⟨⟨o, n⟩, hp⟩ := Option.isSome_iff_exists.1 (hs (i, v, v') (by simp))
  simp only [List.filterMap_cons, hp, Option.map_some, fillA] at e
  split at e
  ·rename_i hc
   obtain ⟨h1, h2, h3⟩ := hc
   have hva := (hr (i, v, v') (by simp)).va_of h1
   have hcs := hva.cells
   have hlen := hcs.length
   have hl := hF.length
   have hset : F2 (VC ι) (setR cells o v.cells.toList) (setR cells' o v'.cells.toList) := by
    unfold setR
    rw [hlen]
    exact (hF.take o).append (hcs.append (hF.drop _))
   obtain ⟨l', e1, e2⟩ := fill_sim place r _ _ l hset (fun p hp => hr p (by simp [hp])) e (fun p hp => hs p (by simp [hp]))
   refine ⟨l', ?_, e2⟩
   have hsz : v'.cells.size = n := by rw [← Array.length_toList, ← hlen, h2]
   simp only [List.map_cons, Instr.fill, hp, hsz]
   rw [if_neg (by simp; omega)]
   rw [← e1]
   congr 1
   apply Array.ext'
   have := foldl_setR v'.cells.toList o ⟨cells'⟩ 0 (by simp; omega)
   rw [← Array.foldl_toList]
   simpa using this
  ·cases e
end Go.Am
namespace Go.Am
set_option linter.all false
variable {P : Program} {ι : Map} {h : Heap} {w : World} {t : Fr} {a : Act}
def asVal (P : Program) (T : TypeId) (cs : List Value) : Value :=
 match P.underlying T with
 | some (.struct _) | some (.array _ _) => .agg ⟨cs⟩
 | _ => cs.getD 0 undef
theorem eqCells_len : ∀ (g : List Bool) (a b : List Value) (z : Bool), eqCells g a b = some z → a.length = g.length ∧ b.length = g.length
 | [], [], [], _, _ => ⟨rfl, rfl⟩
 | g :: gs, u :: a, v :: b, z, e => by
  simp only [eqCells] at e
  split at e
  ·rename_i p q hp hq
   have := eqCells_len gs a b q hq
   simp [this]
  ·cases e
 | [], _ :: _, _, _, e => by simp [eqCells] at e
 | [], [], _ :: _, _, e => by simp [eqCells] at e
 | _ :: _, [], _, _, e => by simp [eqCells] at e
 | _ :: _, _ :: _, [], _, e => by simp [eqCells] at e
theorem eqCells_split : ∀ (g g2 : List Bool) (a b : List Value) (z : Bool), eqCells (g ++ g2) a b = some z →
  ∃ x y, eqCells g (a.take g.length) (b.take g.length) = some x ∧ eqCells g2 (a.drop g.length) (b.drop g.length) = some y ∧ z = (x && y)
 | [], g2, a, b, z, e => ⟨true, z, rfl, by simpa using e, by simp⟩
 | g :: gs, g2, u :: a, v :: b, z, e => by
  simp only [List.cons_append, eqCells] at e
  split at e
  ·rename_i p q hp hq
   cases e
   obtain ⟨x, y, h1, h2, rfl⟩ := eqCells_split gs g2 a b q hq
   exact ⟨p && x, y, by simp [eqCells, hp, h1], by simpa using h2, by simp [Bool.and_assoc]⟩
  ·cases e
 | _ :: _, _, [], _, z, e => by simp [eqCells] at e
 | _ :: _, _, _ :: _, [], z, e => by simp [eqCells] at e
theorem part_asVal {T : TypeId} {off n : Nat} {cs : List Value} (hs : szT P T = some n) (hd : (P.underlying T).isSome) (hn : off + n ≤ cs.length)
  (h1 : (match P.underlying T with | some (.struct _) | some (.array _ _) => True | _ => n = 1)) :
  (part T ⟨cs⟩ off).run P w = .ok (asVal P T ((cs.drop off).take n)) w := by
 obtain ⟨d, hu⟩ := Option.isSome_iff_exists.1 hd
 unfold asVal
 have sc : ∀ d, P.underlying T = some d → (∀ f, d ≠ .struct f) → (∀ n e, d ≠ .array n e) → n = 1 → (part T ⟨cs⟩ off).run P w = .ok (((cs.drop off).take n).getD 0 undef) w := by
  intro d hu hf ha h1
  subst h1
  have hag : (isAgg T).run P w = .ok false w := by
   unfold isAgg
   rw [Sem.run_bind, run_und hu]
   cases d <;> simp_all
  have hv : cs[off]? = some cs[off] := List.getElem?_eq_getElem (by omega)
  simp [part, hag, List.getD, List.getElem?_drop, hv]
 rw [hu] at h1 ⊢
 cases d with
 | struct fs => simp [part, isAgg, run_und hu, run_sz hs]
 | array m e => simp [part, isAgg, run_und hu, run_sz hs]
 | _ => exact sc _ hu (by simp) (by simp) h1
theorem leaves_sz : ∀ (d : Nat) (T : TypeId) (g : List Bool), leaves P d T = some g → (P.underlying T).isSome = true ∧ (match P.underlying T with | some (.struct _) | some (.array _ _) => True | _ => g.length = 1)
 | 0, T, n, e => by cases e
 | d + 1, T, n, e => by
  simp only [leaves] at e
  split at e <;> rename_i hu <;> simp [hu]
  ·cases e; rfl
  ·cases e; rfl
  ·cases e
abbrev EqOk (P : Program) (D : Nat) (T : TypeId) (g : List Bool) : Prop := ∀ (xs ys : List Value) (b : Bool) (w : World), eqCells g xs ys = some b →
   (Op.equalIn D T (asVal P T xs) (asVal P T ys)).run P w = .ok b w
theorem fields_sim (d D : Nat) (ih : ∀ (T : TypeId) (g : List Bool), leaves P d T = some g → EqOk P D T g) :
  ∀ (fs : List Field) (k : Nat) (g : List Bool), leavesF P (leaves P d) fs k = some g → ∀ (xs ys : List Value) (b : Bool) (w : World), k ≤ xs.length → k ≤ ys.length → eqCells g (xs.drop k) (ys.drop k) = some b →
   (Op.eqFields D ⟨xs⟩ ⟨ys⟩ fs).run P w = .ok b w
 | [], k, g, e, xs, ys, b, w, _, _, he => by
  simp [leavesF] at e
  subst e
  have := eqCells_len _ _ _ _ he
  rw [List.length_eq_zero_iff.1 this.1, List.length_eq_zero_iff.1 this.2] at he
  simp [eqCells] at he
  simp [Op.eqFields, he]
 | f :: fs, k, g, e, xs, ys, b, w, hkx, hky, he => by
  simp only [leavesF] at e
  split at e
  ·rename_i m hl
   split at e
   ·rename_i hc
    split at e
    ·rename_i r hr
     cases e
     obtain ⟨h1, h2, h3⟩ := hc
     have hlen := eqCells_len _ _ _ _ he
     obtain ⟨x, y, hx1, hy1, rfl⟩ := eqCells_split m _ _ _ _ he
     rw [List.drop_drop, List.drop_drop] at hy1
     simp at hlen
     have hf := fields_sim d D ih fs (k + m.length) r hr xs ys y w (by omega) (by omega) hy1
     obtain ⟨g1, g2⟩ := leaves_sz d f.type m hl
     have hp1 := part_asVal (P := P) (w := w) (cs := xs) (off := k) h3 g1 (by omega) g2
     have hp2 := part_asVal (P := P) (w := w) (cs := ys) (off := k) h3 g1 (by omega) g2
     have heq := ih f.type m hl _ _ x w hx1
     have hnm : f.name ≠ "_" := by simpa using h2
     simp only [Op.eqFields, hnm, ne_eq, not_false_eq_true, if_true, h1, Sem.run_bind, hp1, hp2, Result.andThen_ok, heq]
     cases x
     ·simp
     ·simpa using hf
    ·cases e
   ·cases e
  ·cases e
def eqElems (D : Nat) (e : TypeId) (n : Nat) (xs ys : Array Value) : List Nat → Sem Bool
 | [] => pure true
 | i :: r => do
  let a ← part e xs (i * n)
  let b ← part e ys (i * n)
  let q ← Op.equalIn D e a b
  if (!q) = true then pure false else eqElems D e n xs ys r
theorem run_equalIn_array (D : Nat) (T : TypeId) (len : Nat) (e : TypeId) (n : Nat) (xs ys : Array Value) (ht : P.underlying T = some (.array len e)) (hs : szT P e = some n) :
  (Op.equalIn (D + 1) T (.agg xs) (.agg ys)).run P w = (eqElems D e n xs ys (List.range len)).run P w := by
 simp only [Op.equalIn, Sem.run_bind, run_underlying ht, Result.andThen_ok, run_sz hs]
 rw [Std.Legacy.Range.forIn_eq_forIn_range']
 simp only [Std.Legacy.Range.size, Nat.sub_zero, Nat.add_sub_cancel, Nat.div_one]
 rw [← List.range_eq_range']
 generalize List.range len = l
 induction l generalizing w with
 | nil => simp [eqElems]
 | cons i l ih =>
  simp only [List.forIn_cons, eqElems, Sem.run_bind]
  generalize (part e xs (i * n)).run P w = r1
  cases r1 with
  | ok a w1 =>
   simp only [Result.andThen_ok]
   generalize (part e ys (i * n)).run P w1 = r2
   cases r2 with
   | ok b w2 =>
    simp only [Result.andThen_ok]
    generalize (Op.equalIn D e a b).run P w2 = r3
    cases r3 with
    | ok r w3 =>
     cases r
     ·simp only [Result.andThen_ok, Bool.not_false, if_true, Sem.run_pure]
     ·simp only [Result.andThen_ok, Bool.not_true, Bool.false_eq_true, if_false, Sem.run_pure]
      exact ih
    | halt x w3 => simp [Result.andThen]
   | halt x w2 => simp [Result.andThen]
  | halt x w1 => simp [Result.andThen]
theorem elems_sim (d D : Nat) (e : TypeId) (m : List Bool) (hm : leaves P d e = some m) (hs : szT P e = some m.length) (ih : EqOk P D e m) :
  ∀ (c k : Nat) (xs ys : List Value) (b : Bool) (w : World), xs.length = (k + c) * m.length → ys.length = (k + c) * m.length → eqCells (List.replicate c m).flatten (xs.drop (k * m.length)) (ys.drop (k * m.length)) = some b →
   (eqElems D e m.length ⟨xs⟩ ⟨ys⟩ (List.range' k c)).run P w = .ok b w
 | 0, k, xs, ys, b, w, hx, hy, he => by
  rw [List.drop_eq_nil_of_le (by simp at hx; omega), List.drop_eq_nil_of_le (by simp at hy; omega)] at he
  simp [eqCells] at he
  simp [eqElems, he]
 | c + 1, k, xs, ys, b, w, hx, hy, he => by
  rw [List.replicate_succ, List.flatten_cons] at he
  obtain ⟨x, y, hx1, hy1, rfl⟩ := eqCells_split m _ _ _ _ he
  rw [List.drop_drop, List.drop_drop, show k * m.length + m.length = (k + 1) * m.length by rw [Nat.succ_mul]] at hy1
  have hf := elems_sim d D e m hm hs ih c (k + 1) xs ys y w (by rw [hx]; congr 1; omega) (by rw [hy]; congr 1; omega) hy1
  obtain ⟨g1, g2⟩ := leaves_sz d e m hm
  have hle : k * m.length + m.length ≤ (k + (c + 1)) * m.length := by rw [← Nat.succ_mul]; exact Nat.mul_le_mul_right _ (by omega)
  have hp1 := part_asVal (P := P) (w := w) (cs := xs) (off := k * m.length) hs g1 (by omega) g2
  have hp2 := part_asVal (P := P) (w := w) (cs := ys) (off := k * m.length) hs g1 (by omega) g2
  have heq := ih _ _ x w hx1
  simp only [List.range'_succ, eqElems, Sem.run_bind, hp1, hp2, Result.andThen_ok, heq]
  cases x
  ·simp
  ·simpa using hf
theorem leaves_sim : ∀ (d D : Nat), d ≤ D → ∀ (T : TypeId) (g : List Bool), leaves P d T = some g → EqOk P D T g
 | 0, D, _, T, g, e => by cases e
 | d + 1, D, hD, T, g, e => by
  intro xs ys b w he
  obtain ⟨D, rfl⟩ : ∃ D', D = D' + 1 := ⟨D - 1, by omega⟩
  have ih := leaves_sim d D (by omega)
  have hlen := eqCells_len _ _ _ _ he
  have one : ∀ (l : List Value), l.length = 1 → ∃ v, l = [v] := fun l hl => by
   match l, hl with
   | [v], _ => exact ⟨v, rfl⟩
  simp only [leaves] at e
  split at e
  ·rename_i hu
   cases e
   obtain ⟨x, rfl⟩ := one xs (by simpa using hlen.1)
   obtain ⟨y, rfl⟩ := one ys (by simpa using hlen.2)
   simp only [asVal, hu, List.getD_cons_zero]
   simp only [eqCells] at he
   split at he
   ·rename_i p q hp hq
    cases hq
    cases he
    cases x <;> cases y <;> simp [eq1] at hp
    subst hp
    simp [Op.equalIn, run_und hu]
   ·cases he
  ·rename_i k0 hu
   cases e
   obtain ⟨x, rfl⟩ := one xs (by simpa using hlen.1)
   obtain ⟨y, rfl⟩ := one ys (by simpa using hlen.2)
   simp only [asVal, hu, List.getD_cons_zero]
   simp only [eqCells] at he
   split at he
   ·rename_i p q hp hq
    cases hq
    cases he
    cases x <;> cases y <;> simp [eq1] at hp
    obtain ⟨h1, h2⟩ := hp
    subst h1
    subst h2
    simp [Op.equalIn, run_und hu]
   ·cases he
  ·rename_i fs hu
   split at e
   ·cases e
   ·rename_i hst
    have hfs : P.fieldsOf T = fs := by simp [Program.fieldsOf, hu]
    simp only [asVal, hu]
    rw [run_equalIn_struct w D T _ _ (by rw [hfs]; exact hu) (by simpa using hst), hfs]
    exact fields_sim d D ih fs.toList 0 g e xs ys b w (Nat.zero_le _) (Nat.zero_le _) (by simpa using he)
  ·rename_i n el hu
   split at e
   ·rename_i m hm
    split at e
    ·rename_i hs
     cases e
     simp only [asVal, hu]
     rw [run_equalIn_array D T n el m.length _ _ hu hs, List.range_eq_range']
     simp at hlen
     exact elems_sim d D el m hm hs (ih el m hm) n 0 xs ys b w (by simpa using hlen.1) (by simpa using hlen.2) (by simpa using he)
    ·cases e
   ·cases e
  ·cases e
end Go.Am
namespace Go.Am
set_option linter.all false
variable {P : Program} {ι : Map} {h : Heap} {w : World} {t : Fr} {a : Act}
def unguarded : Value → Value → Bool
 | .nilIface, .nilIface => false
 | .agg _, .agg _ => false
 | _, _ => true
theorem run_eqGuard (op : BinOp) (T : TypeId) (x y : Operand) {u v : Value} (h1 : unguarded u v = true) : (eqGuard op T x y u v).run P w = .ok () w := by
 unfold eqGuard
 unfold unguarded at h1
 split at h1
 ·cases h1
 ·cases h1
 ·rename_i n1 n2
  cases op <;> simp
  all_goals
   split
   ·exact absurd rfl (by simp_all)
   ·exact absurd rfl (by simp_all)
   ·simp
theorem intBin_run {op : BinOp} {T : TypeId} {k : IntKind} {x y : Int} {r : Value} (h1 : op ≠ .shl) (h2 : op ≠ .shr) (e : intBin op k x y = some r) :
  (Go.binOp op T (.int k x) (.int k y)).run P w = .ok r w := by
 cases op <;> simp only [intBin] at e
 case shl => exact absurd rfl h1
 case shr => exact absurd rfl h2
 case quo => split at e <;> cases e; rename_i hy; simp [Go.binOp, Op.intDiv, hy]
 case rem => split at e <;> cases e; rename_i hy; simp [Go.binOp, Op.intDiv, hy]
 all_goals first
  | (simp at e; done)
  | (cases e; simp [Go.binOp, Op.intCmp]; done)
  | (cases e; simp [Go.binOp, Op.intArith]; done)
  | (cases e; simp [Go.binOp, Op.intBits]; done)
theorem binInt_run {op : BinOp} {T : TypeId} {k k' : IntKind} {x y : Int} {r : Value} (e : binA op (.int k x) (.int k' y) = some r) :
  (Go.binOp op T (.int k x) (.int k' y)).run P w = .ok r w := by
 cases op <;> simp only [binA] at e
 case shl => split at e <;> cases e; rename_i hy; simp [Go.binOp, Op.shift, hy]
 case shr => split at e <;> cases e; rename_i hy; simp [Go.binOp, Op.shift, hy]
 all_goals (split at e <;> first | (rename_i hk; subst hk; exact intBin_run (by simp) (by simp) e) | cases e)
theorem binStr_run {op : BinOp} {T : TypeId} {x y : ByteArray} {r : Value} (e : binA op (.string x) (.string y) = some r) :
  (Go.binOp op T (.string x) (.string y)).run P w = .ok r w := by
 cases op <;> simp only [binA, strBin] at e
 all_goals first
  | (simp at e; done)
  | (cases e; simp [Go.binOp, Op.stringOp]; done)
theorem binA_sim {op : BinOp} {T : TypeId} {u v r u' v' : Value} (e : binA op u v = some r) (hu : VR ι u u') (hv : VR ι v v') :
  u' = u ∧ v' = v ∧ unguarded u v = true ∧ (Go.binOp op T u v).run P w = .ok r w := by
 cases u
 case int k x =>
  cases v
  case int k' y => exact ⟨hu.int_inv, hv.int_inv, rfl, binInt_run e⟩
  all_goals simp [binA] at e
 case string x =>
  cases v
  case string y => exact ⟨hu.str_inv, hv.str_inv, rfl, binStr_run e⟩
  all_goals simp [binA] at e
 all_goals simp [binA] at e
theorem binA_scal {op : BinOp} {u v r : Value} (e : binA op u v = some r) : okCell r = true := by
 cases u
 case int k x =>
  cases v
  case int k' y =>
   cases op <;> simp only [binA, intBin] at e <;> (repeat' split at e) <;> cases e <;> rfl
  all_goals simp [binA] at e
 case string x =>
  cases v
  case string y => cases op <;> simp only [binA, strBin] at e <;> cases e <;> rfl
  all_goals simp [binA] at e
 all_goals simp [binA] at e
theorem eq1_same {g : Bool} {x y x' y' : Value} {b : Bool} (e : eq1 g x y = some b) (hx : VC ι x x') (hy : VC ι y y') : x' = x ∧ y' = y := by
 cases x <;> cases y <;> cases g <;> simp only [eq1] at e <;> first | cases e | skip
 ·exact ⟨(VR.vc hx).bool_inv, (VR.vc hy).bool_inv⟩
 ·exact ⟨(VR.vc hx).int_inv, (VR.vc hy).int_inv⟩
theorem eqCells_same : ∀ {g : List Bool} {xs ys xs' ys' : List Value} {b : Bool}, eqCells g xs ys = some b → F2 (VC ι) xs xs' → F2 (VC ι) ys ys' → xs' = xs ∧ ys' = ys
 | [], [], [], _, _, _, _, .nil, .nil => ⟨rfl, rfl⟩
 | g :: gs, x :: xs, y :: ys, _, _, b, e, .cons hx hxs, .cons hy hys => by
  simp only [eqCells] at e
  split at e
  ·rename_i p q hp hq
   obtain ⟨rfl, rfl⟩ := eq1_same hp hx hy
   obtain ⟨rfl, rfl⟩ := eqCells_same hq hxs hys
   exact ⟨rfl, rfl⟩
  ·cases e
 | [], _ :: _, _, _, _, _, e, _, _ => by simp [eqCells] at e
 | [], [], _ :: _, _, _, _, e, _, _ => by simp [eqCells] at e
 | _ :: _, [], _, _, _, _, e, _, _ => by simp [eqCells] at e
 | _ :: _, _ :: _, [], _, _, _, e, _, _ => by simp [eqCells] at e
theorem VR.v0_inv {ι : Map} {v v' : Value} (h : VR ι v v') (hs : flat0 v = true) : V0 ι v v' := by
 cases h with
 | va h => cases h with
  | vc h => cases h with
   | v0 h => exact h
   | fn => cases hs
  | agg => cases hs
 | tup => cases hs
def plainEq : Value → Value → Bool
 | .int .., .int .. | .float .., .float .. | .complex .., .complex .. | .string _, .string _ => false
 | _, _ => true
theorem eqop_run {op : BinOp} {neg : Bool} (hop : eqNeg op = some neg) {T : TypeId} {u v : Value} {b : Bool} (hni : plainEq u v = true)
  (e : (Op.equal T u v).run P w = .ok b w) : (Go.binOp op T u v).run P w = .ok (.bool (if neg then !b else b)) w := by
 have h1 : (Go.binOp .eql T u v).run P w = ((Op.equal T u v).run P w).andThen fun b w' => .ok (.bool b) w' := by
  cases u <;> cases v <;> simp [Go.binOp] <;> simp [plainEq] at hni
 have h2 : (Go.binOp .neq T u v).run P w = ((Op.equal T u v).run P w).andThen fun b w' => .ok (.bool !b) w' := by
  cases u <;> cases v <;> simp [Go.binOp] <;> simp [plainEq] at hni
 cases op <;> simp [eqNeg] at hop <;> subst hop
 ·rw [h1, e]; simp
 ·rw [h2, e]; simp
end Go.Am
namespace Go.Am
set_option linter.all false
variable {P : Program} {ι : Map} {h : Heap} {w : World} {t : Fr} {a : Act}
def eqFits (P : Program) (T : TypeId) : TypeDesc → EqC → Prop
 | .bool, .bool => True
 | .pointer e, .ptr => (szT P e).isSome
 | .slice _, .slc => True
 | .func _ _ _, .fn => True
 | .struct _, .cells g => P.eqGuardType P.depth T = false ∧ leaves P 8 T = some g
 | .array _ _, .cells g => P.eqGuardType P.depth T = false ∧ leaves P 8 T = some g
 | _, _ => False
theorem equal_of {T : TypeId} {u v : Value} {b : Bool} (h : ∀ d, (Op.equalIn (d + 1) T u v).run P w = .ok b w) : (Op.equal T u v).run P w = .ok b w := h 9999
theorem eqA_sim {op : BinOp} {neg : Bool} {T : TypeId} {d : TypeDesc} {c : EqC} {u v u' v' : Value} {b : Bool} (hop : eqNeg op = some neg) (hu : P.underlying T = some d)
  (hc : eqFits P T d c)
  (e : eqA c u v = some b) (x y : Operand) (h1 : VR ι u u') (h2 : VR ι v v') :
  (eqGuard op T x y u' v').run P w = .ok () w ∧ (Go.binOp op T u' v').run P w = .ok (.bool (if neg then !b else b)) w := by
 have ptrs : ∀ {p q : Option Addr} {u' v' : Value}, V0 ι (.pointer p) u' → V0 ι (.pointer q) v' → ∃ p' q', u' = .pointer p' ∧ v' = .pointer q' ∧ p'.isNone = p.isNone ∧ q'.isNone = q.isNone := by
  intro p q u' v' h1 h2
  cases h1 <;> cases h2 <;> exact ⟨_, _, rfl, rfl, rfl, rfl⟩
 have slcs : ∀ {p q : Option Addr} {n m n2 m2 : Nat} {u' v' : Value}, V0 ι (.slice p n m) u' → V0 ι (.slice q n2 m2) v' →
   ∃ p' q' a b c d, u' = .slice p' a b ∧ v' = .slice q' c d ∧ p'.isNone = p.isNone ∧ q'.isNone = q.isNone := by
  intro p q n m n2 m2 u' v' h1 h2
  cases h1 <;> cases h2 <;> exact ⟨_, _, _, _, _, _, rfl, rfl, rfl, rfl⟩
 unfold eqA at e
 split at e
 ·
  cases e
  cases h1.bool_inv
  cases h2.bool_inv
  cases d <;> simp [eqFits] at hc
  exact ⟨run_eqGuard _ _ _ _ rfl, eqop_run hop rfl (equal_of fun d => by simp [Op.equalIn, run_und hu])⟩
 ·
  rename_i q
  cases e
  obtain ⟨p', q', rfl, rfl, g1, g2⟩ := ptrs (h1.v0_inv rfl) (h2.v0_inv rfl)
  cases p' <;> simp at g1
  cases d <;> simp [eqFits] at hc
  exact ⟨run_eqGuard _ _ _ _ rfl, eqop_run hop rfl (equal_of fun d => by simp [Op.equalIn, run_und hu, g2])⟩
 ·rename_i p
  cases e
  obtain ⟨p', q', rfl, rfl, g1, g2⟩ := ptrs (h1.v0_inv rfl) (h2.v0_inv rfl)
  cases p' <;> simp at g1
  cases q' <;> simp at g2
  cases d <;> simp [eqFits] at hc
  exact ⟨run_eqGuard _ _ _ _ rfl, eqop_run hop rfl (equal_of fun d => by simp [Op.equalIn, run_und hu])⟩
 ·cases e
  obtain ⟨p', q', _, _, _, _, rfl, rfl, g1, g2⟩ := slcs (h1.v0_inv rfl) (h2.v0_inv rfl)
  cases p' <;> simp at g1
  cases d <;> simp [eqFits] at hc
  exact ⟨run_eqGuard _ _ _ _ rfl, eqop_run hop rfl (equal_of fun d => by simp [Op.equalIn, run_und hu, g2])⟩
 ·cases e
  obtain ⟨p', q', _, _, _, _, rfl, rfl, g1, g2⟩ := slcs (h1.v0_inv rfl) (h2.v0_inv rfl)
  cases p' <;> simp at g1
  cases q' <;> simp at g2
  cases d <;> simp [eqFits] at hc
  exact ⟨run_eqGuard _ _ _ _ rfl, eqop_run hop rfl (equal_of fun d => by simp [Op.equalIn, run_und hu])⟩
 ·cases e
  have g1 := h1.v0_inv rfl
  have g2 := h2.v0_inv rfl
  cases g1
  cases g2
  cases d <;> simp [eqFits] at hc
  exact ⟨run_eqGuard _ _ _ _ rfl, eqop_run hop rfl (equal_of fun d => by simp [Op.equalIn, run_und hu])⟩
 ·cases e
  have g1 := h1.v0_inv rfl
  cases g1
  cases h2 with
  | va h2 => cases h2 with
   | vc h2 => cases h2 with
    | v0 h2 => cases h2
    | fn f _ _ =>
     cases d <;> simp [eqFits] at hc
     exact ⟨run_eqGuard _ _ _ _ rfl, eqop_run hop rfl (equal_of fun d => by simp [Op.equalIn, run_und hu])⟩
 ·cases e
  have g2 := h2.v0_inv rfl
  cases g2
  cases h1 with
  | va h1 => cases h1 with
   | vc h1 => cases h1 with
    | v0 h1 => cases h1
    | fn f _ _ =>
     cases d <;> simp [eqFits] at hc
     exact ⟨run_eqGuard _ _ _ _ rfl, eqop_run hop rfl (equal_of fun d => by simp [Op.equalIn, run_und hu])⟩
 ·rename_i g xs ys
  obtain ⟨xs', rfl, f1⟩ := h1.agg_inv
  obtain ⟨ys', rfl, f2⟩ := h2.agg_inv
  obtain ⟨rfl, rfl⟩ := eqCells_same e f1 f2
  have key : P.eqGuardType P.depth T = false ∧ leaves P 8 T = some g ∧ (∀ cs, asVal P T cs = .agg ⟨cs⟩) := by
   cases d <;> simp [eqFits] at hc <;> exact ⟨hc.1, hc.2, fun cs => by simp [asVal, hu]⟩
  have := leaves_sim 8 10000 (by omega) T g key.2.1 xs.toList ys.toList b w e
  rw [key.2.2, key.2.2] at this
  exact ⟨run_eqGuard_agg w op T x y _ _ key.1, eqop_run hop rfl this⟩
 ·cases e
theorem bound_sim {u u' : Value} {y y' n : Nat} {c : BoundsCode} (e : boundA y u = some n) (hu : VR ι u u') (hy : y ≤ y') : n ≤ y ∧ (Instr.sliceBound u' y' c).run P w = .ok n w := by
 cases u <;> simp [boundA] at e
 obtain ⟨⟨h1, h2⟩, rfl⟩ := e
 cases hu.int_inv
 refine ⟨by omega, ?_⟩
 simp only [Instr.sliceBound, asIntOf, Sem.run_bind, Sem.run_pure, Result.andThen_ok]
 rw [if_pos (by omega)]
 rfl
theorem bounds_sim {lo hi lo' hi' : Option Value} {len cap cap' l e : Nat} (s : Bool) (he : hiB len cap hi = some e) (hl : loB e lo = some l)
  (h1 : ∀ v, hi = some v → ∃ v', hi' = some v' ∧ VR ι v v') (h1' : hi = none → hi' = none) (h2 : ∀ v, lo = some v → ∃ v', lo' = some v' ∧ VR ι v v') (h2' : lo = none → lo' = none) (hc : cap ≤ cap') :
  (Instr.sliceBounds s len cap' lo' hi' none).run P w = .ok (l, e, cap') w ∧ l ≤ e ∧ e ≤ cap := by
 unfold Instr.sliceBounds
 cases hi with
 | none =>
  rw [h1' rfl]
  simp only [hiB] at he
  split at he
  ·rename_i hle
   cases he
   cases lo with
   | none => rw [h2' rfl]; cases hl; simp [hle]
   | some v =>
    obtain ⟨v', rfl, hv⟩ := h2 v rfl
    have := bound_sim (P := P) (w := w) (c := .sliceB) hl hv (Nat.le_refl _)
    simp [this, hle]
  ·cases he
 | some u =>
  obtain ⟨u', rfl, hu⟩ := h1 u rfl
  have g := bound_sim (P := P) (w := w) (c := if s = true then .sliceAcap else .sliceAlen) he hu hc
  cases lo with
  | none => rw [h2' rfl]; cases hl; simp [g.2]; exact g.1
  | some v =>
   obtain ⟨v', rfl, hv⟩ := h2 v rfl
   have := bound_sim (P := P) (w := w) (c := .sliceB) hl hv (Nat.le_refl _)
   simp [this, g.2]; exact g.1
theorem bounds3_sim {lo lo' : Option Value} {u u' m m' : Value} {len cap cap' l e q : Nat} (s : Bool) (hm : boundA cap m = some q) (he : boundA q u = some e) (hl : loB e lo = some l)
  (h0 : VR ι m m') (h1 : VR ι u u') (h2 : ∀ v, lo = some v → ∃ v', lo' = some v' ∧ VR ι v v') (h2' : lo = none → lo' = none) (hc : cap ≤ cap') :
  (Instr.sliceBounds s len cap' lo' (some u') (some m')).run P w = .ok (l, e, q) w ∧ l ≤ e ∧ e ≤ q ∧ q ≤ cap := by
 unfold Instr.sliceBounds
 have g0 := bound_sim (P := P) (w := w) (c := if s = true then .slice3Acap else .slice3Alen) hm h0 hc
 have g1 := bound_sim (P := P) (w := w) (c := .slice3B) he h1 (Nat.le_refl _)
 cases lo with
 | none => rw [h2' rfl]; cases hl; simp [g0.2, g1.2]; exact ⟨g1.1, g0.1⟩
 | some v =>
  obtain ⟨v', rfl, hv⟩ := h2 v rfl
  have := bound_sim (P := P) (w := w) (c := .slice3C) hl hv (Nat.le_refl _)
  simp [this, g0.2, g1.2]; exact ⟨g1.1, g0.1⟩
theorem isEnd_some {esz : Nat} {p : Addr} {cap : Nat} {q : Bool} (e : isEnd h esz p cap = some q) : ∃ b, rd h p.block = some b ∧
  ((∃ e, b.kind = .grown e ∧ e = esz ∧ 0 < esz ∧ q = (p.off + cap * esz == b.cells.length)) ∨ ((∀ e, b.kind ≠ .grown e) ∧ q = false)) := by
 unfold isEnd at e
 split at e
 ·rename_i b hb
  refine ⟨b, hb, ?_⟩
  split at e
  ·rename_i e0 hk
   split at e
   ·rename_i hc; cases e; exact .inl ⟨e0, hk, hc.1, hc.2, rfl⟩
   ·cases e
  ·rename_i hk
   cases e
   exact .inr ⟨hk, rfl⟩
 ·cases e
theorem optv_sim {ι : Map} {t : Fr} {a : Act} (hF : F2 (VR ι) t a.tmps.toList) {x : Option Operand} (hx : x.all opdOK = true) :
  (∀ v, x.map (ev t) = some v → ∃ v', x.map a.eval = some v' ∧ VR ι v v') ∧ (x.map (ev t) = none → x.map a.eval = none) := by
 cases x with
 | none => simp
 | some x => refine ⟨fun v hv => ?_, fun h => by simp at h⟩; simp at hv; subst hv; exact ⟨_, rfl, ev_sim hF (by simpa using hx)⟩
end Go.Am
namespace Go.Am
set_option linter.all false
variable {P : Program} {ι : Map} {h : Heap} {w : World} {t : Fr} {a : Act}
theorem VR.sl_inv {B o : Nat} {s : Option Nat} {n c : Nat} {v' : Value} (hv : VR ι (.slice (some ⟨B, o, s⟩) n c) v') : s = none ∧ ∃ l, ι B = some l ∧
    ((∃ c', v' = .slice (some ⟨l.b, l.base + o, none⟩) n c' ∧ (c' = c ∨ (0 < l.e ∧ o + c * l.e = l.n ∧ l.base + o + c' * l.e = l.N ∧ c ≤ c'))) ∨
     (n = 0 ∧ c = 0 ∧ ∃ a', v' = .slice (some a') 0 0)) := by
  have h0 := hv.v0_inv rfl
  cases h0 with
  | sl hl hc => exact ⟨rfl, _, hl, .inl ⟨_, rfl, hc⟩⟩
  | sl0 hl => exact ⟨rfl, _, hl, .inr ⟨rfl, rfl, _, rfl⟩⟩
theorem slice_sim {T E : TypeId} {esz : Nat} {x x' v : Value} {lo hi mx lo' hi' mx' : Option Value} (H : HR ι h w) (hu : P.underlying T = some (.slice E)) (hs : szT P E = some esz)
  (hx : VR ι x x') (hsl : ∃ a n c, x = .slice a n c) (e : sliceA esz h x lo hi mx = some v)
  (h1 : ∀ v, hi = some v → ∃ v', hi' = some v' ∧ VR ι v v') (h1' : hi = none → hi' = none) (h2 : ∀ v, lo = some v → ∃ v', lo' = some v' ∧ VR ι v v') (h2' : lo = none → lo' = none)
  (h3 : ∀ v, mx = some v → ∃ v', mx' = some v' ∧ VR ι v v') (h3' : mx = none → mx' = none) :
  ∃ v', (Instr.sliceAt T x' lo' hi' mx').run P w = .ok v' w ∧ VR ι v v' := by
 obtain ⟨p, n, c, rfl⟩ := hsl
 simp only [sliceA] at e
 have real : ∀ (p' : Option Addr) (c' l ee m : Nat), (Instr.sliceBounds true n c' lo' hi' mx').run P w = .ok (l, ee, m) w →
   (Instr.sliceAt T (.slice p' n c') lo' hi' mx').run P w = .ok (.slice (if m = l then p' else p'.map (·.add (l * esz))) (ee - l) (m - l)) w := by
  intro p' c' l ee m hb
  simp [Instr.sliceAt, run_und hu, Instr.slice, hb, run_sz hs]
 cases mx with
 | none =>
  rw [h3' rfl] at real ⊢
  dsimp only at e
  split at e
  ·rename_i ee he
   split at e
   ·rename_i l hl
    cases p with
    | none =>
     cases e
     cases hx.nilSl_inv
     obtain ⟨g1, g2, g3⟩ := bounds_sim (P := P) (w := w) (lo' := lo') (hi' := hi') true he hl h1 h1' h2 h2' (Nat.le_refl c)
     refine ⟨_, real _ _ _ _ _ g1, ?_⟩
     rw [show (if c = l then (none : Option Addr) else (none : Option Addr).map (·.add (l * esz))) = none by split <;> rfl]
     exact .v0 (.nilSl _ _)
    | some p =>
     obtain ⟨B, o, s⟩ := p
     obtain ⟨rfl, lo0, hlo, hv⟩ := hx.sl_inv
     dsimp only at e
     split at e
     ·rename_i q hq
      cases e
      obtain ⟨blk, hblk, hkind⟩ := isEnd_some hq
      obtain ⟨hn, hbN, hN, hk, -⟩ := H.at hblk hlo
      rcases hv with ⟨c', rfl, hc⟩ | ⟨rfl, rfl, a', rfl⟩
      ·have hcc : c ≤ c' := by rcases hc with rfl | ⟨_, _, _, h⟩ <;> omega
       obtain ⟨g1, g2, g3⟩ := bounds_sim (P := P) (w := w) (lo' := lo') (hi' := hi') true he hl h1 h1' h2 h2' hcc
       refine ⟨_, real _ _ _ _ _ g1, ?_⟩
       have hes : 0 < lo0.e → lo0.e = esz := by
        intro h0
        rcases hkind with ⟨e0, k1, k2, k3, _⟩ | ⟨k1, _⟩
        ·rw [k1] at hk; simp only at hk; omega
        ·cases hkk : blk.kind with
         | grown e1 => exact absurd hkk (k1 e1)
         | ro => rw [hkk] at hk; simp only at hk; omega
         | fix => rw [hkk] at hk; simp only at hk; omega
       simp only [add_plain]
       by_cases hcl : c = l
       ·subst hcl
        by_cases hq0 : q = false
        ·
         have hcs : c' = c := by
          rcases hc with h | ⟨h0, h1, _, _⟩
          ·exact h
          ·have := hes h0
           rcases hkind with ⟨e0, k1, k2, k3, k4⟩ | ⟨k1, _⟩
           ·rw [hq0] at k4
            have k5 : o + c * esz ≠ blk.cells.length := by simpa using k4.symm
            rw [this] at h1
            exact absurd (h1.trans hn) k5
           ·cases hkk : blk.kind with
            | grown e1 => exact absurd hkk (k1 e1)
            | ro => rw [hkk] at hk; simp only at hk; omega
            | fix => rw [hkk] at hk; simp only at hk; omega
         subst hcs
         simp only [hq0, and_self, if_true]
         exact .v0 (.sl hlo (.inl rfl))
        ·have hqt : q = true := by cases q <;> simp_all
         subst hqt
         rw [show (if c = c ∧ true = false then (⟨B, o, none⟩ : Addr) else ⟨B, o + c * esz, none⟩) = ⟨B, o + c * esz, none⟩ from if_neg (by simp)]
         have hee : ee - c = 0 := by omega
         rw [hee, Nat.sub_self]
         by_cases hcs : c' = c
         ·rw [if_pos hcs, hcs, Nat.sub_self]
          exact .v0 (.sl0 hlo)
         ·rw [if_neg hcs]
          simp only [Option.map_some, add_plain]
          rcases hc with h | ⟨h0, q1, q2, _⟩
          ·exact absurd h hcs
          ·have hee := hes h0
           rw [Nat.add_assoc]
           refine .v0 (.sl hlo (.inr ⟨h0, ?_, ?_, Nat.zero_le _⟩))
           ·rw [hee] at q1; omega
           ·rw [← q2, hee, Nat.sub_mul]
            have : c * esz ≤ c' * esz := Nat.mul_le_mul_right _ hcc
            omega
       ·simp only [hcl, false_and, if_false]
        have hlc : l < c := by omega
        rw [if_neg (by omega)]
        simp only [Option.map_some, add_plain]
        rw [Nat.add_assoc]
        refine .v0 (.sl hlo ?_)
        rcases hc with rfl | ⟨h0, q1, q2, _⟩
        ·exact .inl rfl
        ·right
         have hee := hes h0
         have m1 : l * esz ≤ c * esz := Nat.mul_le_mul_right _ (by omega)
         have m2 : c * esz ≤ c' * esz := Nat.mul_le_mul_right _ hcc
         refine ⟨h0, ?_, ?_, by omega⟩
         ·rw [hee] at q1 ⊢; rw [Nat.sub_mul]; omega
         ·rw [hee] at q2 ⊢; rw [Nat.sub_mul]; omega
      ·obtain ⟨g1, g2, g3⟩ := bounds_sim (P := P) (w := w) (lo' := lo') (hi' := hi') true he hl h1 h1' h2 h2' (Nat.le_refl 0)
       refine ⟨_, real _ _ _ _ _ g1, ?_⟩
       have hl0 : l = 0 := by omega
       have he0 : ee = 0 := by omega
       subst hl0
       subst he0
       simp only [Nat.zero_mul, add_plain, Nat.add_zero, Nat.sub_self, if_true, ite_self]
       exact .v0 (.sl0 hlo)
     ·cases e
   ·cases e
  ·cases e
 | some m =>
  obtain ⟨m', rfl, hm'⟩ := h3 m rfl
  dsimp only at e
  split at e
  ·rename_i q hq
   split at e
   ·rename_i ee he
    split at e
    ·rename_i l hl
     cases e
     cases hi with
     | none => cases he
     | some u =>
      obtain ⟨u', rfl, hu'⟩ := h1 u rfl
      dsimp only at he
      cases p with
      | none =>
       cases hx.nilSl_inv
       obtain ⟨g1, g2, g3, g4⟩ := bounds3_sim (P := P) (w := w) (len := n) (lo' := lo') true hq he hl hm' hu' h2 h2' (Nat.le_refl c)
       refine ⟨_, real _ _ _ _ _ g1, ?_⟩
       rw [show (if q = l then (none : Option Addr) else (none : Option Addr).map (·.add (l * esz))) = none by split <;> rfl]
       exact .v0 (.nilSl _ _)
      | some p =>
       obtain ⟨B, o, s⟩ := p
       obtain ⟨rfl, lo0, hlo, hv⟩ := hx.sl_inv
       rcases hv with ⟨c', rfl, hc⟩ | ⟨rfl, rfl, a', rfl⟩
       ·have hcc : c ≤ c' := by rcases hc with rfl | ⟨_, _, _, h⟩ <;> omega
        obtain ⟨g1, g2, g3, g4⟩ := bounds3_sim (P := P) (w := w) (len := n) (lo' := lo') true hq he hl hm' hu' h2 h2' hcc
        refine ⟨_, real _ _ _ _ _ g1, ?_⟩
        simp only [Option.map_some, add_plain]
        split
        ·exact .v0 (.sl hlo (.inl rfl))
        ·rw [Nat.add_assoc]; exact .v0 (.sl hlo (.inl rfl))
       ·obtain ⟨g1, g2, g3, g4⟩ := bounds3_sim (P := P) (w := w) (len := 0) (lo' := lo') true hq he hl hm' hu' h2 h2' (Nat.le_refl 0)
        refine ⟨_, real _ _ _ _ _ g1, ?_⟩
        have hq0 : q = 0 := by omega
        have hl0 : l = 0 := by omega
        have he0 : ee = 0 := by omega
        subst hq0
        subst hl0
        subst he0
        simp only [if_true, Nat.sub_self]
        exact .v0 (.sl0 hlo)
    ·cases e
   ·cases e
  ·cases e
theorem slarr_sim {T E : TypeId} {esz n : Nat} {x x' v : Value} {lo hi lo' hi' : Option Value} (hu : P.underlying T = some (.array n E)) (hs : szT P E = some esz)
  (hx : VR ι x x') (e : slarrA esz n x lo hi = some v)
  (h1 : ∀ v, hi = some v → ∃ v', hi' = some v' ∧ VR ι v v') (h1' : hi = none → hi' = none) (h2 : ∀ v, lo = some v → ∃ v', lo' = some v' ∧ VR ι v v') (h2' : lo = none → lo' = none) :
  ∃ v', (Instr.sliceAt T x' lo' hi' none).run P w = .ok v' w ∧ VR ι v v' := by
 unfold slarrA at e
 split at e
 ·rename_i p
  obtain ⟨B, o, s⟩ := p
  obtain ⟨rfl, lo0, hlo, rfl⟩ := hx.ptr_inv
  split at e
  ·rename_i ee he
   split at e
   ·rename_i l hl
    cases e
    obtain ⟨g1, g2, g3⟩ := bounds_sim (P := P) (w := w) (lo' := lo') (hi' := hi') false he hl h1 h1' h2 h2' (Nat.le_refl n)
    refine ⟨_, by simp [Instr.sliceAt, run_und hu, Instr.sureAddr, g1, run_sz hs]; rfl, ?_⟩
    simp only [add_plain]
    split
    ·exact .v0 (.sl hlo (.inl rfl))
    ·rw [Nat.add_assoc]; exact .v0 (.sl hlo (.inl rfl))
   ·cases e
  ·cases e
 ·cases e
theorem strslice_sim {T : TypeId} {x x' v : Value} {lo hi lo' hi' : Option Value} (hu : P.underlying T = some .string) (hx : VR ι x x')
  (e : strslA x lo hi = some v)
  (h1 : ∀ v, hi = some v → ∃ v', hi' = some v' ∧ VR ι v v') (h1' : hi = none → hi' = none) (h2 : ∀ v, lo = some v → ∃ v', lo' = some v' ∧ VR ι v v') (h2' : lo = none → lo' = none) :
  ∃ v', (Instr.sliceAt T x' lo' hi' none).run P w = .ok v' w ∧ VR ι v v' := by
 unfold strslA at e
 split at e
 ·rename_i s
  cases hx.str_inv
  split at e
  ·rename_i ee he
   split at e
   ·rename_i l hl
    cases e
    obtain ⟨g1, g2, g3⟩ := bounds_sim (P := P) (w := w) (lo' := lo') (hi' := hi') false he hl h1 h1' h2 h2' (Nat.le_refl s.size)
    exact ⟨_, by simp [Instr.sliceAt, run_und hu, Instr.slice, g1], .v0 (.str _)⟩
   ·cases e
  ·cases e
 ·cases e
end Go.Am
