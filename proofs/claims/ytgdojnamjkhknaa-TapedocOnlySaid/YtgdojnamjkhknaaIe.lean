/-
  word.Ints, run: of a list in a known heap.
-/
import Derived.Test.YtgdojnamjkhknaaIi
namespace Go.Proofs.Ytgdojnamjkhknaa
open Go.Am
set_option linter.all false
namespace WI
def bytesOf : List Value → Option (List Int)
  | [] => some []
  | .int .u8 z :: r => match bytesOf r with
    | some l => some (z :: l)
    | none => none
  | _ => none
theorem bytesOf_ok : ∀ {cs : List Value} {bs : List Int}, bytesOf cs = some bs → cs = (bs.map br).flatten
  | [], bs, e => by cases e; rfl
  | c :: r, bs, e => by
    unfold bytesOf at e
    split at e
    · rename_i q; cases q
    · rename_i z r' q
      cases q
      split at e
      · rename_i l hl
        cases e
        rw [bytesOf_ok hl]; rfl
      · cases e
    · cases e
def kd1 : Kind → Bool
  | .grown e => decide (e = 1)
  | _ => true
def cInts : List Value → Heap → Option (Value × Heap)
  | [.slice none 0 0], h => some (resI [] h)
  | [.slice (some ⟨B, o, none⟩) n c], h => match rd h B with
    | some blk => if n ≤ c ∧ kd1 blk.kind = true ∧ o + n ≤ blk.cells.length ∧ n ≤ 1000000000 then match bytesOf ((blk.cells.drop o).take n) with
        | some bs => some (resI bs h)
        | none => none
      else none
    | none => none
  | _, _ => none
theorem cInts_ok : Summ Try.prog 32 cInts := fun args h v h' e => by
  unfold cInts at e
  split at e
  · cases e
    exact (sim (bs := []) (.inl ⟨rfl, rfl⟩) (by simp)).mono fun v h q => q
  · rename_i B o n c
    split at e
    · rename_i blk hb
      split at e
      · rename_i hc
        obtain ⟨c1, c2, c3, c4⟩ := hc
        split at e
        · rename_i bs hbs
          cases e
          have hf := bytesOf_ok hbs
          have hn : bs.length = n := by
            have := congrArg List.length hf
            rw [flat_len (w := 1) (br_w _), List.length_take, List.length_drop, List.length_map] at this
            omega
          subst hn
          refine (sim (bs := bs) (.inr ⟨B, o, c, blk, by rw [List.length_map], by rw [List.length_map]; exact c1, hb, fun e q => ?_, by rw [List.length_map]; omega, fun i r hr => ?_⟩) c4).mono fun v h q => q
          · rw [q] at c2
            have : e = 1 := by simpa [kd1] using c2
            subst this
            exact ⟨rfl, by decide⟩
          · have hi : i < bs.length := by have := (List.getElem?_eq_some_iff.1 hr).1; simpa using this
            rw [List.getElem?_map, List.getElem?_eq_getElem hi] at hr
            simp only [Option.map_some, Option.some.injEq] at hr
            subst hr
            have := congrArg (fun l => (l.drop i).take 1) hf
            rw [List.drop_take, List.drop_drop, List.take_take, Nat.min_eq_left (by omega)] at this
            rw [Nat.mul_one, this]
            have key : ∀ (l : List Int) (i : Nat) (h : i < l.length), (((l.map br).flatten).drop i).take 1 = br l[i] := by
              intro l
              induction l with
              | nil => intro i h; simp at h
              | cons x l ih =>
                intro i h
                cases i with
                | zero => rfl
                | succ i => exact ih i (by simpa using h)
            exact key bs i hi
        · cases e
      · cases e
    · cases e
  · cases e
def cEnv : Env := fun f => match f with
  | 32 => cInts
  | _ => fun _ _ => none
theorem cEnv_ok : EnvOk Try.prog cEnv := fun f => by
  unfold cEnv
  split
  · exact cInts_ok
  · exact fun args h v h' e => by cases e
end WI
end Go.Proofs.Ytgdojnamjkhknaa
