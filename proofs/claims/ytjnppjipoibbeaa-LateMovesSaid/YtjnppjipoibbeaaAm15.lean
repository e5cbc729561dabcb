/-
  The check on a region's edges; the states of a walk in the order of the text.
-/
import Derived.Test.YtjnppjipoibbeaaAm14
namespace Go.Am
set_option linter.all false

variable {P : Program} {ι : Map} {h : Heap} {w w' : World} {t : Fr} {a : Act}

/-! ### The check -/
def edgesOf (o : Oper) : List Nat := (o.after.toList.filter (Region.binds .any)).map (·.on)
def maskOf (B : List Nat) (ds : List Nat) : Nat := ds.foldl (fun m d => m ||| (B.getD d 0 ||| 2 ^ d)) 0
/-- Of each operation: which are ahead of it, by the edges. -/
def befs : List Oper → List Nat → Option (List Nat)
  | [], B => some B
  | o :: r, B => if (edgesOf o).all (fun d => decide (d < B.length)) then befs r (B ++ [maskOf B (edgesOf o)]) else none
def ord (B : List Nat) (i j : Nat) : Bool := (B.getD j 0).testBit i

def tmpOf : Operand → Option Nat
  | .tmp x => some x
  | _ => none
def reads (o : IOp) : List Nat := (opnds o.k).filterMap tmpOf ++ (match o.g with | some p => [p.1] | none => [])
def clash (x y : IOp) : Bool :=
  (match x.dst with | some d => (reads y).contains d || y.dst == some d | none => false) || (match y.dst with | some d => (reads x).contains d | none => false)
def effB (qt : List Nat) (os : List IOp) (e : Nat) : Bool := match os[e]? with
  | some x => isEff qt x.k
  | none => false
def touches (d : Nat) (o : Oper) (x : IOp) : Bool := o.op.operands.toList.any (fun y => tmpOf y == some d) || (reads x).contains d || x.dst == some d
def zOk : IK → Bool
  | .alloc z | .mkrow z _ _ | .mkslice _ _ z _ _ => z.all (belowC 0)
  | _ => true
/-- A block that may be laid ahead of its turn: whoever looks at its place comes behind all that is ahead of it in the text. -/
def looseOk (qt : List Nat) (ops : List Oper) (os : List IOp) (B : List Nat) (j : Nat) : Bool :=
  match os[j]? with
  | some y => isAlloc y.k && y.g.isNone && (zOk y.k && (opnds y.k).all opdOK) && (match y.dst with
    | some d => (List.range os.length).all fun r => r == j || (match ops[r]?, os[r]? with
      | some o, some x => !touches d o x || (if r < j then ord B r j else (List.range j).all fun e => !effB qt os e || ord B e r)
      | _, _ => false)
    | none => false)
  | none => false
def pairOk (qt : List Nat) (ops : List Oper) (os : List IOp) (B : List Nat) (x y : IOp) (i j : Nat) : Bool :=
  ord B i j || (!clash x y && (!(isEff qt x.k && isEff qt y.k) || looseOk qt ops os B j))
def chkAll (qt : List Nat) (ops : List Oper) (os : List IOp) (B : List Nat) : Bool :=
  (List.range os.length).all fun j => (List.range j).all fun i => match os[i]?, os[j]? with
    | some x, some y => pairOk qt ops os B x y i j
    | _, _ => false
def crossP (qt : List Nat) (os : List IOp) (B : List Nat) (i j : Nat) : Bool :=
  match os[i]?, os[j]? with
  | some x, some y => !isEff qt x.k && !heapFree x.k && isEff qt y.k &&
      (if i < j then !ord B i j && !(isAlloc y.k && !isCall x.k) else !ord B j i || (List.range j).any fun e => effB qt os e && (!ord B e j && !ord B e i))
  | _, _ => false
def crossOf (qt : List Nat) (os : List IOp) (B : List Nat) : List (Nat × Nat) :=
  (List.range os.length).flatMap fun i => ((List.range os.length).filter fun j => crossP qt os B i j).map fun j => (i, j)

def stD (P : Program) (qt : List Nat) (ops : Array Oper) : Option (List IOp × List (Nat × Nat)) :=
  match stOps P ops ops.toList, befs ops.toList [] with
  | some os, some B => if chkAll qt ops.toList os B then some (os, crossOf qt os B) else none
  | _, _ => none

/-! ### What the masks say -/
theorem maskOf_bit (B : List Nat) (d : Nat) : ∀ (ds : List Nat) (m : Nat) (i : Nat), (ds.foldl (fun m d => m ||| (B.getD d 0 ||| 2 ^ d)) m).testBit i = true →
    m.testBit i = true ∨ ∃ e ∈ ds, i = e ∨ (B.getD e 0).testBit i = true
  | [], m, i, hb => .inl hb
  | e :: ds, m, i, hb => by
    simp only [List.foldl_cons] at hb
    rcases maskOf_bit B d ds _ i hb with q | ⟨x, hx, q⟩
    · simp only [Nat.testBit_or, Bool.or_eq_true] at q
      rcases q with q | q | q
      · exact .inl q
      · exact .inr ⟨e, by simp, .inr q⟩
      · refine .inr ⟨e, by simp, .inl ?_⟩
        rw [Nat.testBit_two_pow] at q
        exact (of_decide_eq_true q).symm
    · exact .inr ⟨x, by simp [hx], q⟩

theorem befs_spec : ∀ (r : List Oper) (B B' : List Nat), befs r B = some B' → ∃ C, B' = B ++ C ∧ C.length = r.length ∧
    ∀ k o, r[k]? = some o → (∀ d ∈ edgesOf o, d < B.length + k) ∧ B'.getD (B.length + k) 0 = maskOf (B'.take (B.length + k)) (edgesOf o)
  | [], B, B', e => by cases e; exact ⟨[], by simp, rfl, by simp⟩
  | o :: r, B, B', e => by
    simp only [befs] at e
    split at e
    · rename_i hall
      obtain ⟨C, rfl, hl, hC⟩ := befs_spec r _ _ e
      refine ⟨maskOf B (edgesOf o) :: C, by simp, by simp [hl], fun k x hx => ?_⟩
      cases k with
      | zero =>
        simp at hx
        subst hx
        refine ⟨fun d hd => by simpa using List.all_eq_true.1 hall d hd, ?_⟩
        have : (B ++ [maskOf B (edgesOf o)] ++ C).take B.length = B := by simp
        rw [Nat.add_zero, this]
        simp [List.getD]
      | succ k =>
        have := hC k x (by simpa using hx)
        simp only [List.length_append, List.length_singleton] at this
        refine ⟨fun d hd => by have := this.1 d hd; omega, ?_⟩
        rw [show B.length + (k + 1) = B.length + 1 + k by omega]
        exact this.2
    · cases e

/-- What is ahead of an operation has come up, when it comes up. -/
theorem ahead_done {ops : List Oper} {B : List Nat} (hB : befs ops [] = some B) {S : Nat → Bool} (hS : ∀ i o, ops[i]? = some o → S i = true → ∀ d ∈ edgesOf o, S d = true) :
    ∀ (i : Nat) (o : Oper), ops[i]? = some o → (∀ d ∈ edgesOf o, S d = true) → ∀ j, ord B j i = true → S j = true := by
  obtain ⟨C, hC, hl, hspec⟩ := befs_spec ops [] B hB
  intro i
  induction i using Nat.strongRecOn with
  | _ i ih =>
    intro o ho hd j hj
    obtain ⟨g1, g2⟩ := hspec i o ho
    simp only [List.length_nil, Nat.zero_add] at g1 g2
    unfold ord at hj
    rw [g2] at hj
    rcases maskOf_bit _ 0 _ _ _ hj with q | ⟨e, he, q⟩
    · simp at q
    · rcases q with rfl | q
      · exact hd _ he
      · have hlt := g1 e he
        have hge : (B.take i).getD e 0 = B.getD e 0 := by
          simp only [List.getD, List.getElem?_take, hlt, if_true]
        rw [hge] at q
        have hSe := hd e he
        have hel : e < ops.length := by
          have := (List.getElem?_eq_some_iff.1 ho).1
          omega
        exact ih e hlt ops[e] (List.getElem?_eq_getElem hel) (hS e _ (List.getElem?_eq_getElem hel) hSe) j q

/-! ### The states of a walk -/
structure Walk (Γ : Env) (os : List IOp) (fr : Nat → Fr) (hp : Nat → Heap) (vl : Nat → Value) : Prop where
  yes : ∀ i o, os[i]? = some o → want (fr i) o.g = true → opA Γ o.k (fr i) (hp i) = some (vl i, hp (i + 1))
  no : ∀ i o, os[i]? = some o → want (fr i) o.g = false → vl i = undef ∧ hp (i + 1) = hp i
  next : ∀ i o, os[i]? = some o → fr (i + 1) = put (fr i) o.dst (vl i)

theorem walk_of {Γ : Env} : ∀ (os : List IOp) (t : Fr) (h : Heap) (t' : Fr) (h' : Heap), runR Γ os t h = some (t', h') →
    ∃ fr hp vl, fr 0 = t ∧ hp 0 = h ∧ fr os.length = t' ∧ hp os.length = h' ∧ Walk Γ os fr hp vl ∧ ∀ i, i ≤ os.length → runR Γ (os.take i) t h = some (fr i, hp i)
  | [], t, h, t', h', e => by
    cases e
    exact ⟨fun _ => t, fun _ => h, fun _ => undef, rfl, rfl, rfl, rfl, ⟨by simp, by simp, by simp⟩, fun i hi => by simp [runR]⟩
  | o :: os, t, h, t', h', e => by
    simp only [runR] at e
    have step : ∀ (v : Value) (h1 : Heap), (want t o.g = true → opA Γ o.k t h = some (v, h1)) → (want t o.g = false → v = undef ∧ h1 = h) → runR Γ os (put t o.dst v) h1 = some (t', h') →
        ∃ fr hp vl, fr 0 = t ∧ hp 0 = h ∧ fr (o :: os).length = t' ∧ hp (o :: os).length = h' ∧ Walk Γ (o :: os) fr hp vl ∧ ∀ i, i ≤ (o :: os).length → runR Γ ((o :: os).take i) t h = some (fr i, hp i) := by
      intro v h1 g1 g2 e
      obtain ⟨fr, hp, vl, f0, p0, fn, pn, W, pre⟩ := walk_of os _ _ _ _ e
      refine ⟨fun i => match i with | 0 => t | i + 1 => fr i, fun i => match i with | 0 => h | i + 1 => hp i, fun i => match i with | 0 => v | i + 1 => vl i, rfl, rfl, fn, pn, ⟨?_, ?_, ?_⟩, ?_⟩
      · intro i x hx hw
        cases i with
        | zero => simp at hx; subst hx; simp only [p0]; exact g1 hw
        | succ i => exact W.yes i x (by simpa using hx) hw
      · intro i x hx hw
        cases i with
        | zero => simp at hx; subst hx; simp only [p0]; exact g2 hw
        | succ i => exact W.no i x (by simpa using hx) hw
      · intro i x hx
        cases i with
        | zero => simp at hx; subst hx; simp only [f0]
        | succ i => exact W.next i x (by simpa using hx)
      · intro i hi
        cases i with
        | zero => simp [runR]
        | succ i =>
          simp only [List.take_succ_cons, runR]
          have := pre i (by simpa using hi)
          cases hw : want t o.g with
          | true => rw [g1 hw]; simpa using this
          | false => obtain ⟨q1, q2⟩ := g2 hw; subst q1; subst q2; simpa using this
    split at e
    · rename_i hw
      split at e
      · rename_i v h1 hv
        exact step v h1 (fun _ => hv) (fun q => by rw [hw] at q; cases q) e
      · cases e
    · rename_i hw
      exact step undef h (fun q => absurd q hw) (fun _ => ⟨rfl, rfl⟩) e

/-! ### Frames of those that have come up -/
def lastV (os : List IOp) (vl : Nat → Value) (S : Nat → Bool) (t : Fr) : Nat → Fr
  | 0 => t
  | m + 1 => if S m then put (lastV os vl S t m) ((os[m]?).bind (·.dst)) (vl m) else lastV os vl S t m

theorem put_getD {t : Fr} {d : Option Nat} {v : Value} {x : Nat} (hx : d ≠ some x) : (put t d v).getD x undef = t.getD x undef := by
  cases d with
  | none => rfl
  | some d =>
    have : d ≠ x := fun q => hx (by rw [q])
    simp [put, List.getD, List.getElem?_set, this]

theorem last_congr {os : List IOp} {vl : Nat → Value} {S S' : Nat → Bool} {t : Fr} {x : Nat} : ∀ m, (∀ j, j < m → (os[j]?).bind (·.dst) = some x → S j = S' j) →
    (lastV os vl S t m).getD x undef = (lastV os vl S' t m).getD x undef ∧ (lastV os vl S t m).length = t.length ∧ (lastV os vl S' t m).length = t.length
  | 0, _ => ⟨rfl, rfl, rfl⟩
  | m + 1, hS => by
    obtain ⟨ih, l1, l2⟩ := last_congr (vl := vl) (t := t) m fun j hj hd => hS j (by omega) hd
    have pl : ∀ (t : Fr) (d : Option Nat) (v : Value), (put t d v).length = t.length := by intro t d v; cases d <;> simp [put]
    refine ⟨?_, by simp only [lastV]; split <;> simp [pl, l1], by simp only [lastV]; split <;> simp [pl, l2]⟩
    simp only [lastV]
    by_cases hd : (os[m]?).bind (·.dst) = some x
    · have := hS m (by omega) hd
      rw [← this]
      split
      · rw [hd]
        simp only [put, List.getD, List.getElem?_set, l1, l2, if_true]
      · exact ih
    · have e1 : ∀ (S : Nat → Bool), (if S m = true then put (lastV os vl S t m) ((os[m]?).bind (·.dst)) (vl m) else lastV os vl S t m).getD x undef = (lastV os vl S t m).getD x undef := by
        intro S; split
        · exact put_getD hd
        · rfl
      rw [e1, e1]
      exact ih

theorem last_lt {os : List IOp} {vl : Nat → Value} {t : Fr} (i : Nat) : ∀ m, lastV os vl (fun j => decide (j < i)) t m = lastV os vl (fun _ => true) t (min m i)
  | 0 => by simp [lastV]
  | m + 1 => by
    simp only [lastV]
    rw [last_lt i m]
    by_cases hm : m < i
    · have h1 : min (m + 1) i = m + 1 := by omega
      have h2 : min m i = m := by omega
      simp [hm, h1, h2, lastV]
    · have h1 : min (m + 1) i = min m i := by omega
      simp [hm, h1]

theorem walk_fr {Γ : Env} {os : List IOp} {fr : Nat → Fr} {hp : Nat → Heap} {vl : Nat → Value} (W : Walk Γ os fr hp vl) : ∀ m, m ≤ os.length → lastV os vl (fun _ => true) (fr 0) m = fr m
  | 0, _ => rfl
  | m + 1, hm => by
    have ho : os[m]? = some os[m] := List.getElem?_eq_getElem (by omega)
    simp only [lastV, if_true, walk_fr W m (by omega), ho, Option.bind_some]
    exact (W.next m _ ho).symm

theorem put_put {t : Fr} {d e : Option Nat} {u v : Value} (hne : ∀ x, d = some x → e ≠ some x) : put (put t d u) e v = put (put t e v) d u := by
  cases d with
  | none => rfl
  | some d => cases e with
    | none => rfl
    | some e =>
      have : d ≠ e := fun q => hne d rfl (by rw [q])
      simp only [put]
      rw [List.set_comm _ _ (by omega)]

theorem last_add {os : List IOp} {vl : Nat → Value} {S : Nat → Bool} {t : Fr} {i : Nat} (hi : S i = false) {o : IOp} (ho : os[i]? = some o) :
    ∀ m, i < m → (∀ j, i < j → j < m → S j = true → ∀ x, o.dst = some x → (os[j]?).bind (·.dst) ≠ some x) →
    lastV os vl (fun j => S j || j == i) t m = put (lastV os vl S t m) o.dst (vl i)
  | 0, h0, _ => by omega
  | m + 1, hm, hd => by
    by_cases hmi : m = i
    · subst hmi
      have below : ∀ k, k ≤ m → lastV os vl (fun j => S j || j == m) t k = lastV os vl S t k := by
        intro k
        induction k with
        | zero => intro _; rfl
        | succ k ih =>
          intro hk
          have : (k == m) = false := by simp; omega
          simp only [lastV, ih (by omega), this, Bool.or_false]
      simp only [lastV, below m (Nat.le_refl _), hi, ho, Option.bind_some, BEq.rfl, Bool.or_true, if_true, Bool.false_eq_true, if_false]
    · have ih := last_add (vl := vl) (t := t) hi ho m (by omega) fun j h1 h2 => hd j h1 (by omega)
      have hb : (m == i) = false := by simp [hmi]
      simp only [lastV, ih, hb, Bool.or_false]
      split
      · rename_i hs
        exact put_put fun x hx q => hd m (by omega) (by omega) hs x hx q
      · rfl

end Go.Am
