/-
  Summaries of functions that read lists and make new ones.
-/
import Derived.Test.YtgdojnamjkhknaaLc0
import Derived.Test.YtgdojnamjkhknaaLb0
namespace Go.Am
set_option linter.all false
variable {P : Program}

/-- A summary by what must hold of the arguments, and what comes of it. -/
noncomputable def smry {α : Type} (pre : α → List Value → Heap → Prop) (F : α → Heap → Value × Heap) : List Value → Heap → Option (Value × Heap) := fun args h =>
  open Classical in if H : ∃ x, pre x args h then some (F (Classical.choose H) h) else none
theorem smry_some {α : Type} {pre : α → List Value → Heap → Prop} {F : α → Heap → Value × Heap} {args : List Value} {h : Heap} {x : α} (hp : pre x args h) (u : ∀ y, pre y args h → F y h = F x h) : smry pre F args h = some (F x h) := by
  unfold smry
  have H : ∃ x, pre x args h := ⟨x, hp⟩
  rw [dif_pos H, u _ (Classical.choose_spec H)]
theorem smry_ok {α : Type} {pre : α → List Value → Heap → Prop} {F : α → Heap → Value × Heap} {f : Nat} (s : ∀ x args h, pre x args h → Sim P f args h fun v h' => v = (F x h).1 ∧ h' = (F x h).2) : Summ P f (smry pre F) := fun args h v h' e => by
  unfold smry at e
  split at e
  · rename_i H
    simp only [Option.some.injEq] at e
    have := s _ args h (Classical.choose_spec H)
    rw [e] at this
    exact this
  · cases e

/-- A new list, and what is laid for it. -/
def freshV (H : Heap) (rows : List (List Value)) : Value := match rows with
  | [] => .slice none 0 0
  | _ :: _ => .slice (some ⟨H.length, 0, none⟩) rows.length rows.length
def freshX (w : Nat) (rows : List (List Value)) : Heap := match rows with
  | [] => []
  | _ :: _ => [some ⟨.grown w, rows.flatten⟩]
theorem fresh_ls {w : Nat} {H : Heap} {rows : List (List Value)} (hw : ∀ r ∈ rows, r.length = w) (A J : Heap) : LsS w H (A ++ freshX w rows ++ J) (freshV (H ++ A) rows) rows := by
  cases rows with
  | nil => exact .nil
  | cons r l =>
    refine .inr (.inr ⟨A.length, by simp [freshV], by simp, hw, ?_⟩)
    simp [freshX]
theorem Sim.fresh {f : Nat} {args : List Value} {H : Heap} {w : Nat} {rows : List (List Value)} (s : Sim P f args H fun v h' => ∃ X, h' = H ++ X ∧ LsS w H X v rows ∧ (rows = [] → v = .slice none 0 0)) (fl : (rows.flatten).all (belowC 0) = true) :
    Sim P f args H fun v h' => v = freshV H rows ∧ h' = H ++ freshX w rows := by
  cases rows with
  | nil =>
    refine (Sim.keep (R := fun v => v = .slice none 0 0) (s.mono fun v h' ⟨X, e, _, k⟩ => ⟨k rfl, by rw [e]; simp, by rw [e]; simp⟩) (fun v hv => by subst hv; rfl)).mono fun v h' ⟨a, b⟩ => ⟨a, by rw [b]; simp [freshX]⟩
  | cons r l =>
    refine (Sim.last (blk := ⟨.grown w, (r :: l).flatten⟩) (n := (r :: l).length) (c := (r :: l).length) (s.mono fun v h' ⟨X, e, k, _⟩ => ?_) fl (by intro q; cases q)).mono fun v h' ⟨a, b⟩ => ⟨a, b⟩
    refine ⟨?_, by rw [e]; simp⟩
    rcases k with ⟨k, _⟩ | ⟨j, k, _⟩ | ⟨j, rfl, _, _, k⟩
    · cases k
    · cases k
    · refine ⟨_, rfl, by omega, ?_⟩
      rw [e, List.getElem?_append_right (by omega), Nat.add_sub_cancel_left]
      exact k
theorem Sim.plain {f : Nat} {args : List Value} {H : Heap} {R : Value → Prop} (s : Sim P f args H fun v h' => R v ∧ ∃ X, h' = H ++ X) (hR : ∀ v, R v → belowV 0 v = true) : Sim P f args H fun v h' => R v ∧ h' = H :=
  Sim.keep (s.mono fun v h' ⟨a, X, e⟩ => ⟨a, by rw [e]; simp, by rw [e]; simp⟩) hR

theorem denH_snoc (I : SH) (hI : I.all (It.bnd I.length) = true) (X : Heap) : denH (I ++ [.seg X]) = denH I ++ X := by
  rw [denH_app hI]
  simp [denL, It.den]
def andI (k : IntKind) (a b : Int) : Int := k.wrap (BitVec.ofInt k.bits a &&& BitVec.ofInt k.bits b).toNat
def orI (k : IntKind) (a b : Int) : Int := k.wrap (BitVec.ofInt k.bits a ||| BitVec.ofInt k.bits b).toNat
def xorI (k : IntKind) (a b : Int) : Int := k.wrap (BitVec.ofInt k.bits a ^^^ BitVec.ofInt k.bits b).toNat
def shlI (k : IntKind) (a : Int) (n : Nat) : Int := k.wrap (a * 2 ^ (min n k.bits))
def shrI (a : Int) (n : Nat) : Int := a.fdiv (2 ^ n)
/-- One whole number, a row. -/
def ir (z : Int) : List Value := [.int .i64 z]
/-- One byte, a row. -/
def br (z : Int) : List Value := [.int .u8 z]
theorem ir_inj : ∀ {a b : List Int}, a.map ir = b.map ir → a = b
  | [], [], _ => rfl
  | x :: l, y :: m, h => by
    simp only [List.map_cons, List.cons.injEq, ir, Value.int.injEq, true_and, and_true] at h
    rw [h.1, ir_inj h.2]
  | [], _ :: _, h => by cases h
  | _ :: _, [], h => by cases h
theorem br_inj : ∀ {a b : List Int}, a.map br = b.map br → a = b
  | [], [], _ => rfl
  | x :: l, y :: m, h => by
    simp only [List.map_cons, List.cons.injEq, br, Value.int.injEq, true_and, and_true] at h
    rw [h.1, br_inj h.2]
  | [], _ :: _, h => by cases h
  | _ :: _, [], h => by cases h
theorem ir_w (l : List Int) : ∀ r ∈ l.map ir, r.length = 1 := fun r h => by
  obtain ⟨z, _, rfl⟩ := List.mem_map.1 h; rfl
theorem br_w (l : List Int) : ∀ r ∈ l.map br, r.length = 1 := fun r h => by
  obtain ⟨z, _, rfl⟩ := List.mem_map.1 h; rfl
theorem RowsW.uniq {w : Nat} {h : Heap} {v : Value} {r1 r2 : List (List Value)} (a : RowsW w h v r1) (b : RowsW w h v r2) : r1 = r2 := a.at_.uniq b.at_
/-- Whole numbers that stay what they are. -/
theorem wrap64 {x : Int} (h1 : -9223372036854775808 ≤ x) (h2 : x < 9223372036854775808) : IntKind.wrap .i64 x = x := wrap_id h1 (by omega)
theorem wrapN {x : Nat} (h : x < 9223372036854775808) : IntKind.wrap .i64 ((x : Int)) = x := wrap64 (by omega) (by omega)
theorem all_flat {α : Type} {f : α → List Value} (l : List α) (h : ∀ a, (f a).all (belowC 0) = true) : ((l.map f).flatten).all (belowC 0) = true := by
  induction l with
  | nil => rfl
  | cons a l ih => simp only [List.map_cons, List.flatten_cons, List.all_append, Bool.and_eq_true]; exact ⟨h a, ih⟩
theorem nn_beq {a b c d : Int} (h : a = b ↔ c = d) : (!(!((a == b) == (c == d)))) = true := by
  by_cases q : a = b
  · have := h.1 q; simp [q, this]
  · have : ¬ c = d := fun r => q (h.2 r)
    rw [show (a == b) = false from by simpa using q, show (c == d) = false from by simpa using this]; rfl
theorem RowsW.slc {w : Nat} {h : Heap} {v : Value} {rows : List (List Value)} (r : RowsW w h v rows) : ∃ a c, v = .slice a rows.length c := by
  rcases r with ⟨rfl, rfl⟩ | ⟨B, o, c, blk, rfl, _⟩
  · exact ⟨none, 0, rfl⟩
  · exact ⟨_, _, rfl⟩
theorem RowsW.slcM {α : Type} {enc : α → List Value} {w : Nat} {h : Heap} {v : Value} {l : List α} (r : RowsW w h v (l.map enc)) : ∃ a c, v = .slice a l.length c := by
  have := r.slc
  rwa [List.length_map] at this
theorem LsS.slc {w : Nat} {H J : Heap} {v : Value} {rows : List (List Value)} (r : LsS w H J v rows) : ∃ a c, v = .slice a rows.length c := by
  rcases r with ⟨rfl, rfl⟩ | ⟨j, rfl, rfl, _⟩ | ⟨j, rfl, _⟩
  · exact ⟨none, 0, rfl⟩
  · exact ⟨_, _, rfl⟩
  · exact ⟨_, _, rfl⟩
theorem LsS.slcM {α : Type} {enc : α → List Value} {w : Nat} {H J : Heap} {v : Value} {l : List α} (r : LsS w H J v (l.map enc)) : ∃ a c, v = .slice a l.length c := by
  have := r.slc
  rwa [List.length_map] at this
theorem RowsW.lenM {α : Type} {enc : α → List Value} {w : Nat} {h : Heap} {v : Value} {l : List α} (r : RowsW w h v (l.map enc)) (Γ : Env) (X : Heap) : opA Γ (.len (.const v)) [] X = some (.int .i64 l.length, X) := by
  have := r.lenA Γ X
  rwa [List.length_map] at this
theorem RowsW.rowM {α : Type} {enc : α → List Value} {w : Nat} {h : Heap} {v : Value} {l : List α} (r : RowsW w h v (l.map enc)) {i : Nat} {x : α} (hi : l[i]? = some x) : ∃ b o, RowAt w h v i (enc x) b o := r.row (by rw [List.getElem?_map, hi]; rfl)
theorem RowsW.cutM {α : Type} {enc : α → List Value} {w : Nat} {h : Heap} {v : Value} {l : List α} (r : RowsW w h v (l.map enc)) {lo hi : Nat} (h1 : lo ≤ hi) (h2 : hi ≤ l.length) (lo' hi' : Option Operand)
    (hlo : (lo' = none ∧ lo = 0) ∨ lo' = some (.const (.int .i64 lo))) (hhi : (hi' = none ∧ hi = l.length) ∨ hi' = some (.const (.int .i64 hi))) :
    ∃ v', (∀ Γ, opA Γ (.slice w (.const v) lo' hi' none) [] h = some (v', h)) ∧ RowsW w h v' (((l.take hi).drop lo).map enc) := by
  have := r.cut h1 (by simpa using h2) lo' hi' hlo (by simpa using hhi)
  simpa [List.map_drop, List.map_take] using this
theorem LsS.lenM {α : Type} {enc : α → List Value} {w : Nat} {H J : Heap} {v : Value} {l : List α} (r : LsS w H J v (l.map enc)) (Γ : Env) (X : Heap) : opA Γ (.len (.const v)) [] X = some (.int .i64 l.length, X) := by
  have := r.lenA Γ X
  rwa [List.length_map] at this
theorem getE {α : Type} {l : List α} {i : Nat} (h : i < l.length) : ∃ x, l[i]? = some x := ⟨_, List.getElem?_eq_getElem h⟩
theorem flen {α : Type} {f : α → List Value} {w : Nat} (l : List α) (h : ∀ a, (f a).length = w) : ∀ r ∈ l.map f, r.length = w := fun r hr => by
  obtain ⟨z, _, rfl⟩ := List.mem_map.1 hr; exact h z
end Go.Am
