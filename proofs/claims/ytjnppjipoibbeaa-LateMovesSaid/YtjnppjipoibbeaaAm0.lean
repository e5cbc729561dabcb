/-
  An abstract heap of blocks, a small deterministic language over it, and what it means that a world represents a heap.
-/
import Derived.Orders
import Derived.Below
import Derived.Tactics
import Derived.RowKit
namespace Go.Am
set_option linter.all false

/-! ### Lists, member by member -/
inductive F2 {α β : Type} (R : α → β → Prop) : List α → List β → Prop
  | nil : F2 R [] []
  | cons {a : α} {b : β} {l : List α} {m : List β} : R a b → F2 R l m → F2 R (a :: l) (b :: m)

namespace F2
variable {α β : Type} {R S : α → β → Prop}
theorem length {l : List α} {m : List β} (h : F2 R l m) : l.length = m.length := by
  induction h with
  | nil => rfl
  | cons _ _ ih => simp [ih]
theorem mono {l : List α} {m : List β} (hr : ∀ a b, R a b → S a b) (h : F2 R l m) : F2 S l m := by
  induction h with
  | nil => exact .nil
  | cons h _ ih => exact .cons (hr _ _ h) ih
theorem append {l l2 : List α} {m m2 : List β} (h : F2 R l m) (h2 : F2 R l2 m2) : F2 R (l ++ l2) (m ++ m2) := by
  induction h with
  | nil => exact h2
  | cons h _ ih => exact .cons h ih
theorem take {l : List α} {m : List β} (h : F2 R l m) (n : Nat) : F2 R (l.take n) (m.take n) := by
  induction h generalizing n with
  | nil => simp; exact .nil
  | cons h _ ih => cases n with
    | zero => simp; exact .nil
    | succ n => simp; exact .cons h (ih n)
theorem drop {l : List α} {m : List β} (h : F2 R l m) (n : Nat) : F2 R (l.drop n) (m.drop n) := by
  induction h generalizing n with
  | nil => simp; exact .nil
  | cons h hm ih => cases n with
    | zero => simp; exact .cons h hm
    | succ n => simp; exact ih n
theorem get {l : List α} {m : List β} (h : F2 R l m) (n : Nat) (a : α) (ha : l[n]? = some a) : ∃ b, m[n]? = some b ∧ R a b := by
  induction h generalizing n with
  | nil => simp at ha
  | cons h _ ih => cases n with
    | zero => simp at ha; subst ha; exact ⟨_, rfl, h⟩
    | succ n => simp at ha; simpa using ih n ha
theorem getD {l : List α} {m : List β} (h : F2 R l m) (n : Nat) (x : α) (y : β) (hxy : R x y) : R (l.getD n x) (m.getD n y) := by
  induction h generalizing n with
  | nil => simpa using hxy
  | cons h _ ih => cases n with
    | zero => simpa using h
    | succ n => simpa using ih n
theorem set {l : List α} {m : List β} (h : F2 R l m) (n : Nat) (x : α) (y : β) (hxy : R x y) : F2 R (l.set n x) (m.set n y) := by
  induction h generalizing n with
  | nil => simp; exact .nil
  | cons h hm ih => cases n with
    | zero => simp; exact .cons hxy hm
    | succ n => simp; exact .cons h (ih n)
theorem replicate (n : Nat) (x : α) (y : β) (h : R x y) : F2 R (List.replicate n x) (List.replicate n y) := by
  induction n with
  | zero => exact .nil
  | succ n ih => exact .cons h ih
theorem map {γ : Type} {f : γ → α} {g : γ → β} (l : List γ) (h : ∀ x ∈ l, R (f x) (g x)) : F2 R (l.map f) (l.map g) := by
  induction l with
  | nil => exact .nil
  | cons x l ih => exact .cons (h x (by simp)) (ih fun y hy => h y (by simp [hy]))
theorem of_get {l : List α} {m : List β} (hl : l.length = m.length) (h : ∀ (i : Nat) (a : α) (b : β), l[i]? = some a → m[i]? = some b → R a b) : F2 R l m := by
  induction l generalizing m with
  | nil => cases m with
    | nil => exact .nil
    | cons _ _ => simp at hl
  | cons x l ih => cases m with
    | nil => simp at hl
    | cons y m => exact .cons (h 0 x y rfl rfl) (ih (by simpa using hl) fun i a b ha hb => h (i + 1) a b (by simpa using ha) (by simpa using hb))
end F2

/-! ### The abstract heap -/
/-- Where a block of the heap lies: a block of the world, the first cell, how many cells it has, where the room ends, the size of an element where it grew by append (else 0). -/
structure Loc where
  b : Nat
  base : Nat
  n : Nat
  N : Nat
  e : Nat

inductive Kind where
  | ro | fix
  | grown (e : Nat)
  deriving DecidableEq

structure Blk where
  kind : Kind
  cells : List Value

abbrev Heap := List (Option Blk)
abbrev Fr := List Value
abbrev Map := Nat → Option Loc

/-! ### Values that stand for each other -/
inductive V0 (ι : Map) : Value → Value → Prop
  | bool (b : Bool) : V0 ι (.bool b) (.bool b)
  | int (k : IntKind) (n : Int) : V0 ι (.int k n) (.int k n)
  | str (s : ByteArray) : V0 ι (.string s) (.string s)
  | nilPtr : V0 ι (.pointer none) (.pointer none)
  | ptr {B o : Nat} {l : Loc} : ι B = some l → V0 ι (.pointer (some ⟨B, o, none⟩)) (.pointer (some ⟨l.b, l.base + o, none⟩))
  | nilSl (n c : Nat) : V0 ι (.slice none n c) (.slice none n c)
  | sl {B o len cap cap' : Nat} {l : Loc} : ι B = some l → (cap' = cap ∨ (0 < l.e ∧ o + cap * l.e = l.n ∧ l.base + o + cap' * l.e = l.N ∧ cap ≤ cap')) →
      V0 ι (.slice (some ⟨B, o, none⟩) len cap) (.slice (some ⟨l.b, l.base + o, none⟩) len cap')
  | sl0 {B o b' o' : Nat} {l : Loc} : ι B = some l → V0 ι (.slice (some ⟨B, o, none⟩) 0 0) (.slice (some ⟨b', o', none⟩) 0 0)
  | nilFn : V0 ι .nilFunc .nilFunc
  | nilIf : V0 ι .nilIface .nilIface

inductive VC (ι : Map) : Value → Value → Prop
  | v0 {v v' : Value} : V0 ι v v' → VC ι v v'
  | fn (f : Fn) {a a' b b' : List Value} : F2 (V0 ι) a a' → F2 (V0 ι) b b' → VC ι (.func f ⟨a⟩ ⟨b⟩) (.func f ⟨a'⟩ ⟨b'⟩)

inductive VA (ι : Map) : Value → Value → Prop
  | vc {v v' : Value} : VC ι v v' → VA ι v v'
  | agg {a a' : List Value} : F2 (VC ι) a a' → VA ι (.agg ⟨a⟩) (.agg ⟨a'⟩)

inductive VR (ι : Map) : Value → Value → Prop
  | va {v v' : Value} : VA ι v v' → VR ι v v'
  | tup {a a' : List Value} : F2 (VA ι) a a' → VR ι (.tuple ⟨a⟩) (.tuple ⟨a'⟩)

/-- One map goes on from another. -/
def Sub (ι ι' : Map) : Prop := ∀ B l, ι B = some l → ι' B = some l
theorem Sub.refl (ι : Map) : Sub ι ι := fun _ _ h => h
theorem Sub.trans {a b c : Map} (h : Sub a b) (h' : Sub b c) : Sub a c := fun B l e => h' B l (h B l e)

theorem V0.mono {ι ι' : Map} (s : Sub ι ι') {v v' : Value} (h : V0 ι v v') : V0 ι' v v' := by
  cases h with
  | ptr h => exact .ptr (s _ _ h)
  | sl h hc => exact .sl (s _ _ h) hc
  | sl0 h => exact .sl0 (s _ _ h)
  | _ => constructor
theorem VC.mono {ι ι' : Map} (s : Sub ι ι') {v v' : Value} (h : VC ι v v') : VC ι' v v' := by
  cases h with
  | v0 h => exact .v0 (h.mono s)
  | fn f h1 h2 => exact .fn f (h1.mono fun _ _ h => h.mono s) (h2.mono fun _ _ h => h.mono s)
theorem VA.mono {ι ι' : Map} (s : Sub ι ι') {v v' : Value} (h : VA ι v v') : VA ι' v v' := by
  cases h with
  | vc h => exact .vc (h.mono s)
  | agg h => exact .agg (h.mono fun _ _ h => h.mono s)
theorem VR.mono {ι ι' : Map} (s : Sub ι ι') {v v' : Value} (h : VR ι v v') : VR ι' v v' := by
  cases h with
  | va h => exact .va (h.mono s)
  | tup h => exact .tup (h.mono fun _ _ h => h.mono s)

theorem VR.undef (ι : Map) : VR ι Go.undef Go.undef := .tup .nil
theorem VR.bool (ι : Map) (b : Bool) : VR ι (.bool b) (.bool b) := .va (.vc (.v0 (.bool b)))
theorem VR.int (ι : Map) (k : IntKind) (n : Int) : VR ι (.int k n) (.int k n) := .va (.vc (.v0 (.int k n)))
theorem VR.v0 {ι : Map} {v v' : Value} (h : V0 ι v v') : VR ι v v' := .va (.vc (.v0 h))
theorem VR.vc {ι : Map} {v v' : Value} (h : VC ι v v') : VR ι v v' := .va (.vc h)

/-- The cells of a value, one by one (those of a value that isn't a tuple). -/
theorem VA.cells {ι : Map} {v v' : Value} (h : VA ι v v') : F2 (VC ι) v.cells.toList v'.cells.toList := by
  cases h with
  | agg h => exact h
  | vc h =>
    have h0 := h
    cases h with
    | v0 h => cases h <;> exact .cons h0 .nil
    | fn f h1 h2 => exact .cons h0 .nil

/-! ### A world that represents a heap -/
structure HR (ι : Map) (h : Heap) (w : World) : Prop where
  dom : ∀ B l, ι B = some l → B < h.length
  live : ∀ B blk, h[B]? = some (some blk) → ∃ l, ι B = some l ∧ l.n = blk.cells.length ∧ l.base + l.n ≤ l.N ∧
    (l.e = 0 → l.N = l.base + l.n) ∧ (match blk.kind with | .grown e => l.e = e | _ => l.e = 0) ∧ ∃ c e f, w.heap[l.b]? = some (.cells c e f) ∧ l.N ≤ c.size ∧ (blk.kind ≠ .ro → f = (0, 0)) ∧
    F2 (VC ι) blk.cells ((c.toList.drop l.base).take l.n)
  apart : ∀ B1 B2 b1 b2 l1 l2, h[B1]? = some (some b1) → h[B2]? = some (some b2) → B1 ≠ B2 → b1.kind ≠ .ro → ι B1 = some l1 → ι B2 = some l2 → l1.b ≠ l2.b

/-- What may be different behind a step. -/
structure Ext (ι : Map) (h : Heap) (w : World) (ι' : Map) (h' : Heap) (w' : World) : Prop where
  sub : Sub ι ι'
  size : w.heap.size ≤ w'.heap.size
  frame : ∀ b, b < w.heap.size → (∀ B blk l, h[B]? = some (some blk) → blk.kind ≠ .ro → ι B = some l → l.b ≠ b) → w'.heap[b]? = w.heap[b]?
  imgs : ∀ B blk l, h'[B]? = some (some blk) → blk.kind ≠ .ro → ι' B = some l →
    w.heap.size ≤ l.b ∨ ∃ B0 blk0 l0, h[B0]? = some (some blk0) ∧ blk0.kind ≠ .ro ∧ ι B0 = some l0 ∧ l0.b = l.b
  os : w'.os = w.os
  tape : w'.tape = w.tape
  output : w'.output = w.output
  imgR : ∀ B blk l, h'[B]? = some (some blk) → ι' B = some l → w.heap.size ≤ l.b ∨ ∃ B0 blk0 l0, h[B0]? = some (some blk0) ∧ ι B0 = some l0 ∧ l0.b = l.b

theorem Ext.refl (ι : Map) (h : Heap) (w : World) : Ext ι h w ι h w :=
  ⟨Sub.refl ι, Nat.le_refl _, fun _ _ _ => rfl, fun B blk l h1 h2 h3 => .inr ⟨B, blk, l, h1, h2, h3, rfl⟩, rfl, rfl, rfl, fun B blk l h1 h3 => .inr ⟨B, blk, l, h1, h3, rfl⟩⟩
theorem Ext.trans {ι ι1 ι2 : Map} {h h1 h2 : Heap} {w w1 w2 : World} (a : Ext ι h w ι1 h1 w1) (b : Ext ι1 h1 w1 ι2 h2 w2) : Ext ι h w ι2 h2 w2 where
  sub := a.sub.trans b.sub
  size := Nat.le_trans a.size b.size
  frame := fun k hk hn => (b.frame k (Nat.lt_of_lt_of_le hk a.size) fun B blk l hB hr hl => by
    rcases a.imgs B blk l hB hr hl with h' | ⟨B0, blk0, l0, q1, q2, q3, q4⟩
    · omega
    · rw [← q4]; exact hn B0 blk0 l0 q1 q2 q3).trans (a.frame k hk hn)
  imgs := fun B blk l hB hr hl => by
    rcases b.imgs B blk l hB hr hl with h' | ⟨B0, blk0, l0, q1, q2, q3, q4⟩
    · have := a.size; exact .inl (by omega)
    · rcases a.imgs B0 blk0 l0 q1 q2 q3 with h' | ⟨B1, blk1, l1, r1, r2, r3, r4⟩
      · exact .inl (by omega)
      · exact .inr ⟨B1, blk1, l1, r1, r2, r3, r4.trans q4⟩
  os := b.os.trans a.os
  tape := b.tape.trans a.tape
  output := b.output.trans a.output
  imgR := fun B blk l hB hl => by
    rcases b.imgR B blk l hB hl with h' | ⟨B0, blk0, l0, q1, q3, q4⟩
    · have := a.size; exact .inl (by omega)
    · rcases a.imgR B0 blk0 l0 q1 q3 with h' | ⟨B1, blk1, l1, r1, r3, r4⟩
      · exact .inl (by omega)
      · exact .inr ⟨B1, blk1, l1, r1, r3, r4.trans q4⟩

/-- Nothing but the count of draws is different. -/
theorem HR.drawn {ι : Map} {h : Heap} {w w' : World} (H : HR ι h w) (e : w'.heap = w.heap) : HR ι h w' :=
  ⟨H.dom, fun B blk hB => by rw [e]; exact H.live B blk hB, H.apart⟩
theorem Ext.drawn {ι : Map} {h : Heap} {w w' : World} (e : w'.heap = w.heap) (e1 : w'.os = w.os) (e2 : w'.tape = w.tape) (e3 : w'.output = w.output) : Ext ι h w ι h w' :=
  ⟨Sub.refl ι, by rw [e]; exact Nat.le_refl _, fun _ _ _ => by rw [e], fun B blk l h1 h2 h3 => .inr ⟨B, blk, l, h1, h2, h3, rfl⟩, e1, e2, e3, fun B blk l h1 h3 => .inr ⟨B, blk, l, h1, h3, rfl⟩⟩

end Go.Am
