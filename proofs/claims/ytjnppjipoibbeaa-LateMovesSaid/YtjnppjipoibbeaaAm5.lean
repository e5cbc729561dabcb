/-
  Each operation that leaves the heap alone.
-/
import Derived.Test.YtjnppjipoibbeaaAm4
namespace Go.Am
set_option linter.all false

variable {P : Program} {ι : Map} {h : Heap} {w : World} {t : Fr} {a : Act}

/-- Two values that the model's look at two nil interfaces passes by. -/
def unguarded : Value → Value → Bool
  | .nilIface, .nilIface => false
  | .agg _, .agg _ => false
  | _, _ => true

theorem run_eqGuard (op : BinOp) (T : TypeId) (x y : Operand) {u v : Value} (h1 : unguarded u v = true) : (eqGuard op T x y u v).run P w = .ok () w := by
  unfold eqGuard
  unfold unguarded at h1
  split at h1
  · cases h1
  · cases h1
  · rename_i n1 n2
    cases op <;> simp
    all_goals
      split
      · exact absurd rfl (by simp_all)
      · exact absurd rfl (by simp_all)
      · simp

theorem intBin_run {op : BinOp} {T : TypeId} {k : IntKind} {x y : Int} {r : Value} (h1 : op ≠ .shl) (h2 : op ≠ .shr) (e : intBin op k x y = some r) :
    (Go.binOp op T (.int k x) (.int k y)).run P w = .ok r w := by
  cases op <;> simp only [intBin] at e
  case shl => exact absurd rfl h1
  case shr => exact absurd rfl h2
  case quo => split at e <;> cases e; rename_i hy; simp [Go.binOp, Op.intDiv, hy]
  case rem => split at e <;> cases e; rename_i hy; simp [Go.binOp, Op.intDiv, hy]
  all_goals first
    | (simp at e; done)
    | (cases e; simp [Go.binOp, Op.intCmp]; done)
    | (cases e; simp [Go.binOp, Op.intArith]; done)
    | (cases e; simp [Go.binOp, Op.intBits]; done)

theorem binInt_run {op : BinOp} {T : TypeId} {k k' : IntKind} {x y : Int} {r : Value} (e : binA op (.int k x) (.int k' y) = some r) :
    (Go.binOp op T (.int k x) (.int k' y)).run P w = .ok r w := by
  cases op <;> simp only [binA] at e
  case shl => split at e <;> cases e; rename_i hy; simp [Go.binOp, Op.shift, hy]
  case shr => split at e <;> cases e; rename_i hy; simp [Go.binOp, Op.shift, hy]
  all_goals (split at e <;> first | (rename_i hk; subst hk; exact intBin_run (by simp) (by simp) e) | cases e)

theorem binStr_run {op : BinOp} {T : TypeId} {x y : ByteArray} {r : Value} (e : binA op (.string x) (.string y) = some r) :
    (Go.binOp op T (.string x) (.string y)).run P w = .ok r w := by
  cases op <;> simp only [binA, strBin] at e
  all_goals first
    | (simp at e; done)
    | (cases e; simp [Go.binOp, Op.stringOp]; done)

theorem binA_sim {op : BinOp} {T : TypeId} {u v r u' v' : Value} (e : binA op u v = some r) (hu : VR ι u u') (hv : VR ι v v') :
    u' = u ∧ v' = v ∧ unguarded u v = true ∧ (Go.binOp op T u v).run P w = .ok r w := by
  cases u
  case int k x =>
    cases v
    case int k' y => exact ⟨hu.int_inv, hv.int_inv, rfl, binInt_run e⟩
    all_goals simp [binA] at e
  case string x =>
    cases v
    case string y => exact ⟨hu.str_inv, hv.str_inv, rfl, binStr_run e⟩
    all_goals simp [binA] at e
  all_goals simp [binA] at e

theorem binA_scal {op : BinOp} {u v r : Value} (e : binA op u v = some r) : okCell r = true := by
  cases u
  case int k x =>
    cases v
    case int k' y =>
      cases op <;> simp only [binA, intBin] at e <;> (repeat' split at e) <;> cases e <;> rfl
    all_goals simp [binA] at e
  case string x =>
    cases v
    case string y => cases op <;> simp only [binA, strBin] at e <;> cases e <;> rfl
    all_goals simp [binA] at e
  all_goals simp [binA] at e

theorem eq1_same {g : Bool} {x y x' y' : Value} {b : Bool} (e : eq1 g x y = some b) (hx : VC ι x x') (hy : VC ι y y') : x' = x ∧ y' = y := by
  cases x <;> cases y <;> cases g <;> simp only [eq1] at e <;> first | cases e | skip
  · exact ⟨(VR.vc hx).bool_inv, (VR.vc hy).bool_inv⟩
  · exact ⟨(VR.vc hx).int_inv, (VR.vc hy).int_inv⟩

theorem eqCells_same : ∀ {g : List Bool} {xs ys xs' ys' : List Value} {b : Bool}, eqCells g xs ys = some b → F2 (VC ι) xs xs' → F2 (VC ι) ys ys' → xs' = xs ∧ ys' = ys
  | [], [], [], _, _, _, _, .nil, .nil => ⟨rfl, rfl⟩
  | g :: gs, x :: xs, y :: ys, _, _, b, e, .cons hx hxs, .cons hy hys => by
    simp only [eqCells] at e
    split at e
    · rename_i p q hp hq
      obtain ⟨rfl, rfl⟩ := eq1_same hp hx hy
      obtain ⟨rfl, rfl⟩ := eqCells_same hq hxs hys
      exact ⟨rfl, rfl⟩
    · cases e
  | [], _ :: _, _, _, _, _, e, _, _ => by simp [eqCells] at e
  | [], [], _ :: _, _, _, _, e, _, _ => by simp [eqCells] at e
  | _ :: _, [], _, _, _, _, e, _, _ => by simp [eqCells] at e
  | _ :: _, _ :: _, [], _, _, _, e, _, _ => by simp [eqCells] at e

theorem VR.v0_inv {ι : Map} {v v' : Value} (h : VR ι v v') (hs : flat0 v = true) : V0 ι v v' := by
  cases h with
  | va h => cases h with
    | vc h => cases h with
      | v0 h => exact h
      | fn => cases hs
    | agg => cases hs
  | tup => cases hs

def plainEq : Value → Value → Bool
  | .int .., .int .. | .float .., .float .. | .complex .., .complex .. | .string _, .string _ => false
  | _, _ => true

theorem eqop_run {op : BinOp} {neg : Bool} (hop : eqNeg op = some neg) {T : TypeId} {u v : Value} {b : Bool} (hni : plainEq u v = true)
    (e : (Op.equal T u v).run P w = .ok b w) : (Go.binOp op T u v).run P w = .ok (.bool (if neg then !b else b)) w := by
  have h1 : (Go.binOp .eql T u v).run P w = ((Op.equal T u v).run P w).andThen fun b w' => .ok (.bool b) w' := by
    cases u <;> cases v <;> simp [Go.binOp] <;> simp [plainEq] at hni
  have h2 : (Go.binOp .neq T u v).run P w = ((Op.equal T u v).run P w).andThen fun b w' => .ok (.bool !b) w' := by
    cases u <;> cases v <;> simp [Go.binOp] <;> simp [plainEq] at hni
  cases op <;> simp [eqNeg] at hop <;> subst hop
  · rw [h1, e]; simp
  · rw [h2, e]; simp

end Go.Am
