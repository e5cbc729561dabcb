/-
  word.Bytes and word.Ints, run: of a list in a known heap.
-/
import Derived.Test.YtgdojnamjkhknaaQdIi
namespace Go.Proofs.Ytgdojnamjkhknaa
open Go.Am
set_option linter.all false
namespace WJ
open WI
def bytesOf : List Value → Option (List Int)
 | [] => some []
 | .int .u8 z :: r => match bytesOf r with
  | some l => some (z :: l)
  | none => none
 | _ => none
theorem bytesOf_ok : ∀ {cs : List Value} {bs : List Int}, bytesOf cs = some bs → cs = (bs.map br).flatten
 | [], bs, e => by cases e; rfl
 | c :: r, bs, e => by
  unfold bytesOf at e
  split at e
  ·rename_i q; cases q
  ·rename_i z r' q
   cases q
   split at e
   ·rename_i l hl
    cases e
    rw [bytesOf_ok hl]; rfl
   ·cases e
  ·cases e
def kd1 : Kind → Bool
 | .grown e => decide (e = 1)
 | _ => true
def cInts : List Value → Heap → Option (Value × Heap)
 | [.slice none 0 0], h => some (resI [] h)
 | [.slice (some ⟨B, o, none⟩) n c], h => match rd h B with
  | some blk => if n ≤ c ∧ kd1 blk.kind = true ∧ o + n ≤ blk.cells.length ∧ n ≤ 1000000000 then match bytesOf ((blk.cells.drop o).take n) with
    | some bs => some (resI bs h)
    | none => none
   else none
  | none => none
 | _, _ => none
theorem cInts_ok : Summ Try.prog 32 cInts := fun args h v h' e => by
 unfold cInts at e
 split at e
 ·cases e
  exact (WI.sim (bs := []) (.inl ⟨rfl, rfl⟩) (by simp)).mono fun v h q => q
 ·rename_i B o n c
  split at e
  ·rename_i blk hb
   split at e
   ·rename_i hc
    obtain ⟨c1, c2, c3, c4⟩ := hc
    split at e
    ·rename_i bs hbs
     cases e
     have hf := bytesOf_ok hbs
     have hn : bs.length = n := by
      have := congrArg List.length hf
      rw [flat_len (w := 1) (br_w _), List.length_take, List.length_drop, List.length_map] at this
      omega
     subst hn
     refine (WI.sim (bs := bs) (.inr ⟨B, o, c, blk, by rw [List.length_map], by rw [List.length_map]; exact c1, hb, fun e q => ?_, by rw [List.length_map]; omega, fun i r hr => ?_⟩) c4).mono fun v h q => q
     ·rw [q] at c2
      have : e = 1 := by simpa [kd1] using c2
      subst this
      exact ⟨rfl, by decide⟩
     ·have hi : i < bs.length := by have := (List.getElem?_eq_some_iff.1 hr).1; simpa using this
      rw [List.getElem?_map, List.getElem?_eq_getElem hi] at hr
      simp only [Option.map_some, Option.some.injEq] at hr
      subst hr
      have := congrArg (fun l => (l.drop i).take 1) hf
      rw [List.drop_take, List.drop_drop, List.take_take, Nat.min_eq_left (by omega)] at this
      rw [Nat.mul_one, this]
      have key : ∀ (l : List Int) (i : Nat) (h : i < l.length), (((l.map br).flatten).drop i).take 1 = br l[i] := by
       intro l
       induction l with
       | nil => intro i h; simp at h
       | cons x l ih =>
        intro i h
        cases i with
        | zero => rfl
        | succ i => exact ih i (by simpa using h)
      exact key bs i hi
    ·cases e
   ·cases e
  ·cases e
 ·cases e
def wordsOf : List Value → Option (List Int)
 | [] => some []
 | .int .i64 z :: r => match wordsOf r with
  | some l => some (z :: l)
  | none => none
 | _ => none
theorem wordsOf_ok : ∀ {cs : List Value} {zs : List Int}, wordsOf cs = some zs → cs = (zs.map ir).flatten
 | [], zs, e => by cases e; rfl
 | c :: r, zs, e => by
  unfold wordsOf at e
  split at e
  ·rename_i q; cases q
  ·rename_i z r' q
   cases q
   split at e
   ·rename_i l hl
    cases e
    rw [wordsOf_ok hl]; rfl
   ·cases e
  ·cases e
theorem rows_of {enc : Int → List Value} (he : ∀ z, ∃ v, enc z = [v]) {h : Heap} {B o c : Nat} {zs : List Int} {blk : Blk} (hb : rd h B = some blk) (c1 : zs.length ≤ c) (c2 : kd1 blk.kind = true) (c3 : o + zs.length ≤ blk.cells.length) (hf : (blk.cells.drop o).take zs.length = (zs.map enc).flatten) : RowsW 1 h (.slice (some ⟨B, o, none⟩) zs.length c) (zs.map enc) := by
 refine .inr ⟨B, o, c, blk, by rw [List.length_map], by rw [List.length_map]; exact c1, hb, fun e q => ?_, by rw [List.length_map]; omega, fun i r hr => ?_⟩
 ·rw [q] at c2
  have : e = 1 := by simpa [kd1] using c2
  subst this
  exact ⟨rfl, by decide⟩
 ·have hi : i < zs.length := by have := (List.getElem?_eq_some_iff.1 hr).1; simpa using this
  rw [List.getElem?_map, List.getElem?_eq_getElem hi] at hr
  simp only [Option.map_some, Option.some.injEq] at hr
  subst hr
  have := congrArg (fun l => (l.drop i).take 1) hf
  rw [List.drop_take, List.drop_drop, List.take_take, Nat.min_eq_left (by omega)] at this
  rw [Nat.mul_one, this]
  have key : ∀ (l : List Int) (i : Nat) (h : i < l.length), (((l.map enc).flatten).drop i).take 1 = enc l[i] := by
   intro l
   induction l with
   | nil => intro i h; simp at h
   | cons x l ih =>
    intro i h
    obtain ⟨v, hv⟩ := he x
    cases i with
    | zero => simp [hv]
    | succ i => simp only [List.map_cons, List.flatten_cons, hv, List.singleton_append, List.drop_succ_cons]; exact ih i (by simpa using h)
  exact key zs i hi
def cBytes : List Value → Heap → Option (Value × Heap)
 | [.slice none 0 0], h => some (WB.resB [] h)
 | [.slice (some ⟨B, o, none⟩) n c], h => match rd h B with
  | some blk => match wordsOf ((blk.cells.drop o).take n) with
    | some zs => if zs.length = n ∧ n ≤ c ∧ kd1 blk.kind = true ∧ o + n ≤ blk.cells.length ∧ n ≤ 100000000 then some (WB.resB zs h) else none
    | none => none
  | none => none
 | _, _ => none
theorem cBytes_ok : Summ Try.prog 23 cBytes := fun args h v h' e => by
 unfold cBytes at e
 split at e
 ·cases e
  exact (WB.sim (zs := []) (.inl ⟨rfl, rfl⟩) (by simp)).mono fun v h q => q
 ·rename_i B o n c
  split at e
  ·rename_i blk hb
   split at e
   ·rename_i zs hzs
    split at e
    ·rename_i hc
     obtain ⟨c0, c1, c2, c3, c4⟩ := hc
     cases e
     subst c0
     exact (WB.sim (rows_of (fun z => ⟨_, rfl⟩) hb c1 c2 c3 (wordsOf_ok hzs)) c4).mono fun v h q => q
    ·cases e
   ·cases e
  ·cases e
 ·cases e
def cEnv : Env := fun f => match f with
 | 23 => cBytes
 | 32 => cInts
 | _ => fun _ _ => none
theorem cEnv_ok : EnvOk Try.prog cEnv := fun f => by
 unfold cEnv
 split
 ·exact cBytes_ok
 ·exact cInts_ok
 ·exact fun args h v h' e => by cases e
end WJ
end Go.Proofs.Ytgdojnamjkhknaa
