/-
  How the program's code is stripped; reading in a world that represents a heap.
-/
import Derived.Test.YtjnppjipoibbeaaAm1
import Derived.WalkKit
namespace Go.Am
set_option linter.all false

/-! ### Types -/
def szT (P : Program) (T : TypeId) : Option Nat := (P.info? T).map (·.size)
def shT (P : Program) (T : TypeId) : Option (Option Nat) :=
  match P.underlying T, P.info? T with
  | some (.struct _), some i => some (some i.size)
  | some (.array _ _), some i => some (some i.size)
  | some _, some _ => some none
  | _, _ => none
def zeroT (P : Program) (T : TypeId) : Option (Array Value) := match P.info? T with
  | some i => match i.zero with
    | some v => if v.cells.toList.all okCell then some v.cells else none
    | none => none
  | none => none

/-- A type whose values are compared cell by cell: which of its cells are bools (the others are ints). -/
def leavesF (P : Program) (lv : TypeId → Option (List Bool)) : List Field → Nat → Option (List Bool)
  | [], _ => some []
  | f :: fs, k => match lv f.type with
    | some m => if f.offset = k ∧ (f.name == "_") = false ∧ szT P f.type = some m.length then
        match leavesF P lv fs (k + m.length) with
        | some r => some (m ++ r)
        | none => none
      else none
    | none => none

def leaves (P : Program) : Nat → TypeId → Option (List Bool)
  | 0, _ => none
  | d + 1, T => match P.underlying T with
    | some .bool => some [true]
    | some (.int _) => some [false]
    | some (.struct fs) => if P.stoodInHeld T then none else leavesF P (leaves P d) fs.toList 0
    | some (.array n e) => match leaves P d e with
      | some m => if szT P e = some m.length then some (List.replicate n m).flatten else none
      | none => none
    | _ => none

def opdOK : Operand → Bool
  | .const v => okConst v
  | .global _ => false
  | _ => true

def stps (f : Nat → Option (Nat × Nat)) (ps : List (Nat × Operand)) : Option (List (Nat × Nat × Operand)) :=
  match ps with
  | [] => some []
  | (i, x) :: r => match f i, stps f r with
    | some (o, n), some l => if opdOK x then some ((o, n, x) :: l) else none
    | _, _ => none

def rowOf (z : Array Value) (m : Nat) : List Value := ((Array.range m).map (fun i => z[i % z.size]!)).toList

def placeOf (P : Program) (fs : Array Field) (i : Nat) : Option (Nat × Nat) :=
  match fs[i]? with
  | some f => (szT P f.type).map (f.offset, ·)
  | none => none

def stK (P : Program) (op : Op) : IK :=
  match op with
  | .move x | .assign x => if opdOK x then .mov x else .bad
  | .pick c a b => if opdOK c && opdOK a && opdOK b then .pick c a b else .bad
  | .alloc T => match zeroT P T with
    | some z => .alloc z.toList
    | none => .bad
  | .box _ x => if opdOK x then .box x else .bad
  | .build T ps => match P.underlying T, zeroT P T with
    | some (.struct fs), some z =>
      if fs.toList.all (fun f => (P.info? f.type).isSome) then
        match stps (placeOf P fs) ps.toList with
        | some l => .build z.toList l
        | none => .bad
      else .bad
    | some (.array _ e), some z => match szT P e with
      | some n => match stps (fun i => some (i * n, n)) ps.toList with
        | some l => .build z.toList l
        | none => .bad
      | none => .bad
    | _, _ => .bad
  | .buildSlice T len ps => match P.underlying T with
    | some (.slice e) => match szT P e, zeroT P e with
      | some n, some z => if len * n ≤ 2 ^ 24 ∧ 0 < n ∧ (rowOf z (len * n)).all okCell then
          match stps (fun i => some (i * n, n)) ps.toList with
          | some l => .mkrow (rowOf z (len * n)) len l
          | none => .bad
        else .bad
      | _, _ => .bad
    | _ => .bad
  | .load T x => match shT P T with
    | some n => if opdOK x then .load x n else .bad
    | none => .bad
  | .store T x v => match szT P T with
    | some n => if opdOK x && opdOK v then .store x v n else .bad
    | none => .bad
  | .nilCheck x => if opdOK x then .nilck x else .bad
  | .binOp op T x y _ => if opdOK x && opdOK y then
      match P.underlying T with
      | some (.int _) | some .string => .bin op x y
      | some d =>
        match eqNeg op with
        | some neg => match d with
          | .bool => .eqv neg .bool x y
          | .pointer e => match szT P e with
            | some _ => .eqv neg .ptr x y
            | none => .bad
          | .slice _ => .eqv neg .slc x y
          | .func _ _ _ => .eqv neg .fn x y
          | .struct _ | .array _ _ => if P.eqGuardType P.depth T then .bad else match leaves P 8 T with
            | some n => .eqv neg (.cells n) x y
            | none => .bad
          | _ => .bad
        | none => .bad
      | none => .bad
    else .bad
  | .unOp op _ x => if opdOK x then .un op x else .bad
  | .convert s d x => if opdOK x then
      match P.underlying s, P.underlying d with
      | some (.int _), some (.int k) => .conv k x
      | some (.slice e), some .string => match P.underlying e with
        | some (.int .u8) => .b2s x
        | _ => .bad
      | _, _ => .bad
    else .bad
  | .makeFunc fn a b => if a.toList.all opdOK && b.toList.all opdOK then .mkfun fn a.toList b.toList else .bad
  | .makeSlice T l c => match P.underlying T with
    | some (.slice e) => match P.info? e, zeroT P e with
      | some i, some z => if opdOK l && opdOK c && decide (z.size = i.size) && decide (0 < i.size) then .mkslice i.size i.bytes z.toList l c else .bad
      | _, _ => .bad
    | _ => .bad
  | .slice T x lo hi mx => if opdOK x && lo.all opdOK && hi.all opdOK && mx.all opdOK then
      match P.underlying T with
      | some (.slice e) => match szT P e with
        | some n => .slice n x lo hi mx
        | none => .bad
      | some .string => match mx with
        | none => .strsl x lo hi
        | some _ => .bad
      | some (.array n e) => match szT P e, mx with
        | some s, none => .slarr s n x lo hi
        | _, _ => .bad
      | _ => .bad
    else .bad
  | .fieldAddr T x f => match P.underlying T with
    | some (.struct fs) => match fs[f]? with
      | some fd => match szT P fd.type with
        | some n => if opdOK x && decide (0 < n) then .fadr fd.offset x else .bad
        | none => .bad
      | none => .bad
    | _ => .bad
  | .field T x f => match P.underlying T with
    | some (.struct fs) => match fs[f]? with
      | some fd => match shT P fd.type with
        | some n => if opdOK x then .fld fd.offset n x else .bad
        | none => .bad
      | none => .bad
    | _ => .bad
  | .indexAddr T x i => if opdOK x && opdOK i then
      match P.underlying T with
      | some (.array n e) => match szT P e with
        | some s => .iadr s (some n) x i
        | none => .bad
      | some (.slice e) => match szT P e with
        | some s => .iadr s none x i
        | none => .bad
      | _ => .bad
    else .bad
  | .index T x i => if opdOK x && opdOK i then
      match P.underlying T with
      | some (.array n e) => match szT P e, shT P e with
        | some s, some m => .idx s n m x i
        | _, _ => .bad
      | some .string => .sidx x i
      | _ => .bad
    else .bad
  | .extract x i => if opdOK x then .ext i x else .bad
  | .call c => if c.args.toList.all opdOK then
      match c.callee with
      | .value (.func f) => .call f c.args.toList
      | .value (.tmp x) => .callv (.tmp x) c.args.toList
      | .builtin b => match b, c.args.toList, c.argTypes.toList with
        | .len, [x], [T] => match P.underlying T with
          | some (.slice _) => .len x
          | some .string => .slen x
          | some (.array n _) => .mov (.const (.int .i64 n))
          | some (.pointer a) => match P.underlying a with
            | some (.array n _) => .mov (.const (.int .i64 n))
            | _ => .bad
          | _ => .bad
        | .append, [s, x], [T, U] => if T = U then match P.underlying T with
            | some (.slice e) => match P.info? e, zeroT P e with
              | some i, some z => if z.size = i.size then .append i.size i.bytes s x else .bad
              | _, _ => .bad
            | _ => .bad
          else .bad
        | .copy, [d, s], [T, U] => if T = U then match P.underlying T with
            | some (.slice e) => match szT P e with
              | some n => .copy n d s
              | none => .bad
            | _ => .bad
          else .bad
        | .min, [x, y], _ => .mn x y
        | .max, [x, y], _ => .mx x y
        | _, _, _ => .bad
      | _ => .bad
    else .bad
  | _ => .bad

def stG (ops : Array Oper) : Option (Nat × Bool) → Option (Option (Nat × Bool))
  | none => some none
  | some (j, b) => match ops[j]? with
    | some o => match o.dst with
      | some d => some (some (d, b))
      | none => none
    | none => none

def stOp (P : Program) (ops : Array Oper) (o : Oper) : Option IOp :=
  match stG ops o.guard with
  | some g => some ⟨o.dst, g, stK P o.op⟩
  | none => none

def stOps (P : Program) (ops : Array Oper) : List Oper → Option (List IOp)
  | [] => some []
  | o :: r => match stOp P ops o, stOps P ops r with
    | some x, some l => some (x :: l)
    | _, _ => none

/-! ### Operands -/
theorem okCell_v0 {v : Value} (h : okCell v = true) (ι : Map) : V0 ι v v := by
  cases v with
  | bool b => exact .bool b
  | int k n => exact .int k n
  | string s => exact .str s
  | pointer a => cases a with
    | none => exact .nilPtr
    | some a => cases h
  | slice a n c => cases a with
    | none => exact .nilSl n c
    | some a => cases h
  | nilFunc => exact .nilFn
  | nilIface => exact .nilIf
  | _ => cases h

theorem okCells {ι : Map} : ∀ {l : List Value}, l.all okCell = true → F2 (VC ι) l l
  | [], _ => .nil
  | v :: l, h => by
    simp at h
    exact .cons (.v0 (okCell_v0 h.1 ι)) (okCells (by simpa using h.2))

theorem okConst_vr {v : Value} (h : okConst v = true) (ι : Map) : VR ι v v := by
  cases v with
  | agg cs =>
    obtain ⟨l⟩ := cs
    exact .va (.agg (okCells (by simpa [okConst] using h)))
  | _ => exact .v0 (okCell_v0 (by simpa [okConst] using h) ι)

theorem getD_toList (a : Array Value) (i : Nat) : a.getD i undef = a.toList.getD i undef := by
  simp [Array.getD_eq_getD_getElem?]

theorem ev_sim {ι : Map} {t : Fr} {a : Act} (hF : F2 (VR ι) t a.tmps.toList) {x : Operand} (hx : opdOK x = true) : VR ι (ev t x) (a.eval x) := by
  cases x with
  | tmp i => simp only [ev, Act.eval, getD_toList]; exact hF.getD i _ _ (VR.undef ι)
  | const v => exact okConst_vr hx ι
  | global g => cases hx
  | func f => exact .vc (.fn _ .nil .nil)

theorem evs_sim {ι : Map} {t : Fr} {a : Act} (hF : F2 (VR ι) t a.tmps.toList) {xs : List Operand} (hx : xs.all opdOK = true) :
    F2 (VR ι) (xs.map (ev t)) (xs.map a.eval) :=
  F2.map xs fun x h => ev_sim hF (by simpa using List.all_eq_true.1 hx x h)

/-! ### Reading a world that represents a heap -/
section
variable {ι : Map} {h : Heap} {w : World}

theorem rd_some {B : Nat} {b : Blk} (e : rd h B = some b) : h[B]? = some (some b) := by
  unfold rd at e
  split at e
  · rename_i x hx; cases e; exact hx
  · cases e

/-- What is known of a live block. -/
theorem HR.at {B : Nat} {b : Blk} (H : HR ι h w) (e : rd h B = some b) {l : Loc} (hl : ι B = some l) :
    l.n = b.cells.length ∧ l.base + l.n ≤ l.N ∧ (l.e = 0 → l.N = l.base + l.n) ∧ (match b.kind with | .grown e => l.e = e | _ => l.e = 0) ∧
    ∃ c e f, w.heap[l.b]? = some (.cells c e f) ∧ l.N ≤ c.size ∧ (b.kind ≠ .ro → f = (0, 0)) ∧ F2 (VC ι) b.cells ((c.toList.drop l.base).take l.n) := by
  obtain ⟨l', e1, h1⟩ := H.live B b (rd_some e)
  rw [hl] at e1
  cases e1
  exact h1

theorem cell_of {c : Array Value} {e : TypeId} {f : Nat × Nat} {b o : Nat} (hb : w.heap[b]? = some (.cells c e f)) : w.cell? ⟨b, o, none⟩ = c[o]? := by
  simp [World.cell?, hb]

theorem HR.cell {B o : Nat} {b : Blk} (H : HR ι h w) (e : rd h B = some b) {l : Loc} (hl : ι B = some l) {v : Value} (hv : b.cells[o]? = some v) :
    ∃ v', w.cell? ⟨l.b, l.base + o, none⟩ = some v' ∧ VC ι v v' := by
  obtain ⟨hn, _, _, _, c, e, f, hb, hN, _, hF⟩ := H.at e hl
  obtain ⟨v', hv', hr⟩ := hF.get o v hv
  refine ⟨v', ?_, hr⟩
  rw [cell_of hb]
  rw [List.getElem?_take] at hv'
  split at hv'
  · simpa [List.getElem?_drop] using hv'
  · cases hv'

theorem readN_some {B o n : Nat} {s : Option Nat} {vs : List Value} (e : readN h ⟨B, o, s⟩ n = some vs) :
    s = none ∧ ∃ b, rd h B = some b ∧ o + n ≤ b.cells.length ∧ vs = (b.cells.drop o).take n := by
  cases s with
  | some s => simp [readN] at e
  | none =>
    simp only [readN] at e
    split at e
    · rename_i b hb
      split at e
      · rename_i hle; cases e; exact ⟨rfl, b, hb, hle, rfl⟩
      · cases e
    · cases e

theorem HR.cells {B o n : Nat} {vs : List Value} (H : HR ι h w) (e : readN h ⟨B, o, none⟩ n = some vs) {l : Loc} (hl : ι B = some l) :
    ∃ vs', F2 (VC ι) vs vs' ∧ vs'.length = n ∧ ∀ j v, vs'[j]? = some v → w.cell? ⟨l.b, l.base + o + j, none⟩ = some v := by
  obtain ⟨_, b, hb, hle, rfl⟩ := readN_some e
  obtain ⟨hn, hbN, _, _, c, e, f, hc, hN, _, hF⟩ := H.at hb hl
  refine ⟨(((c.toList.drop l.base).take l.n).drop o).take n, (hF.drop o).take n, ?_, fun j v hv => ?_⟩
  · simp; omega
  · rw [cell_of hc]
    rw [List.getElem?_take] at hv
    split at hv
    · rw [List.getElem?_drop, List.getElem?_take] at hv
      split at hv
      · rw [List.getElem?_drop] at hv
        rw [← Array.getElem?_toList, ← hv]
        congr 1; omega
      · cases hv
    · cases hv

theorem add_plain (b o n : Nat) : (⟨b, o, none⟩ : Addr).add n = ⟨b, o + n, none⟩ := by unfold Addr.add; split <;> simp_all

theorem run_cells {P : Program} {b o : Nat} {vs : List Value} (hc : ∀ j v, vs[j]? = some v → w.cell? ⟨b, o + j, none⟩ = some v) :
    (loadCells ⟨b, o, none⟩ vs.length).run P w = .ok vs.toArray w :=
  run_loadCells_list w _ vs fun j v hv => by rw [add_plain]; exact hc j v hv
end

/-! ### Inversions -/
theorem VR.ptr_inv {ι : Map} {B o : Nat} {s : Option Nat} {v' : Value} (h : VR ι (.pointer (some ⟨B, o, s⟩)) v') :
    s = none ∧ ∃ l, ι B = some l ∧ v' = .pointer (some ⟨l.b, l.base + o, none⟩) := by
  cases h with
  | va h => cases h with
    | vc h => cases h with
      | v0 h => cases h with
        | ptr h => exact ⟨rfl, _, h, rfl⟩
theorem VR.bool_inv {ι : Map} {b : Bool} {v' : Value} (h : VR ι (.bool b) v') : v' = .bool b := by
  cases h with
  | va h => cases h with
    | vc h => cases h with
      | v0 h => cases h; rfl
theorem VR.int_inv {ι : Map} {k : IntKind} {n : Int} {v' : Value} (h : VR ι (.int k n) v') : v' = .int k n := by
  cases h with
  | va h => cases h with
    | vc h => cases h with
      | v0 h => cases h; rfl
theorem VR.str_inv {ι : Map} {s : ByteArray} {v' : Value} (h : VR ι (.string s) v') : v' = .string s := by
  cases h with
  | va h => cases h with
    | vc h => cases h with
      | v0 h => cases h; rfl
theorem VR.agg_inv {ι : Map} {a : Array Value} {v' : Value} (h : VR ι (.agg a) v') : ∃ a', v' = .agg ⟨a'⟩ ∧ F2 (VC ι) a.toList a' := by
  cases h with
  | va h => cases h with
    | vc h => cases h with
      | v0 h => cases h
    | agg h => exact ⟨_, rfl, h⟩
theorem VR.tup_inv {ι : Map} {a : Array Value} {v' : Value} (h : VR ι (.tuple a) v') : ∃ a', v' = .tuple ⟨a'⟩ ∧ F2 (VA ι) a.toList a' := by
  cases h with
  | va h => cases h with
    | vc h => cases h with
      | v0 h => cases h
  | tup h => exact ⟨_, rfl, h⟩
theorem VR.nilPtr_inv {ι : Map} {v' : Value} (h : VR ι (.pointer none) v') : v' = .pointer none := by
  cases h with
  | va h => cases h with
    | vc h => cases h with
      | v0 h => cases h; rfl
theorem VR.nilSl_inv {ι : Map} {n c : Nat} {v' : Value} (h : VR ι (.slice none n c) v') : v' = .slice none n c := by
  cases h with
  | va h => cases h with
    | vc h => cases h with
      | v0 h => cases h; rfl
theorem VR.va_of {ι : Map} {v v' : Value} (h : VR ι v v') (hn : noTup v = true) : VA ι v v' := by
  cases h with
  | va h => exact h
  | tup h => cases hn

end Go.Am
