/-
  A logic over the kit's wp, part LnA: Ln0, Ln1. No conditions.
-/
import Derived.Test.YtgdojnamjkhknaaQbLcA
import Derived.RangeFuncFrom
import Derived.RangeFuncLeaves
import Derived.TacticsIn
namespace Go.Am
set_option linter.all false
open Go.RowKit
variable {P : Program} {ι : Map} {h : Heap} {w w' : World} {t : Fr} {a : Act} {qt : List Nat}
end Go.Am
namespace Go.Am
variable {P : Program}
end Go.Am
namespace Go.Am
set_option linter.all false
abbrev fxB (rows : List (List Value)) : Option Blk := some ⟨.fix, rows.flatten⟩
theorem rd_fx {H X : Heap} {b : Blk} : rd (H ++ (some b :: X)) H.length = some b := by simp [rd]
theorem mk_fx {w eby : Nat} {z : List Value} {m : Nat} {H : Heap} (hz : z.length = w) (hm : m * eby ≤ 1099511627776) (hm2 : m ≤ 1099511627776) (Γ : Env) :
  opA Γ (.mkslice w eby z (.const (.int .i64 m)) (.const (.int .i64 m))) [] H = some (.slice (some ⟨H.length, 0, none⟩) m m, H ++ [fxB (List.replicate m z)]) := by
 have hm' : (m : Int) * (eby : Int) ≤ 1099511627776 := by rw [← Int.natCast_mul]; omega
 have h1 : (0 : Int) ≤ m ∧ (m : Int) ≤ m ∧ (m : Int) * eby ≤ 1099511627776 ∧ (m : Int) ≤ 1099511627776 ∧ z.length = w := ⟨by omega, Int.le_refl _, hm', by omega, hz⟩
 simp only [opA, ev]
 rw [if_pos h1]
 rfl
theorem srcA_readN {h : Heap} {w : Nat} {b : Addr} {m c : Nat} {l : List Value} (e : srcA h w (.slice (some b) m c) = some (m, l)) : readN h b (m * w) = some l := by
 simp only [srcA] at e
 split at e
 ·rename_i l' hl
  simp only [Option.some.injEq, Prod.mk.injEq, true_and] at e
  rw [hl, e]
 ·cases e
theorem cp_fx {w : Nat} {H : Heap} {v : Value} {rows old : List (List Value)} (hs : RowsW w (H ++ [fxB old]) v rows) (ho : ∀ r ∈ old, r.length = w) (hr : ∀ r ∈ rows, r.length = w) {n : Nat} (hn : n = old.length) (hle : rows.length ≤ n) (Γ : Env) :
  opA Γ (.copy w (.const (.slice (some ⟨H.length, 0, none⟩) n n)) (.const v)) [] (H ++ [fxB old]) = some (.int .i64 rows.length, H ++ [fxB (rows ++ old.drop rows.length)]) := by
 have hsrc := hs.src
 rcases hs with ⟨rfl, rfl⟩ | ⟨B, o, c, blk, rfl, _⟩
 ·simp [opA, ev, copyA]
 ·have hmin : Nat.min rows.length n = rows.length := Nat.min_eq_left hle
  have hrd := srcA_readN hsrc
  have hlen := flat_len hr
  have holen := flat_len ho
  have hdrop : ∀ (k : Nat) (l : List (List Value)), (∀ r ∈ l, r.length = w) → l.flatten.drop (k * w) = (l.drop k).flatten := by
   intro k
   induction k with
   | zero => intro l _; simp
   | succ k ih => intro l hl; cases l with
    | nil => simp
    | cons x l =>
     have hx := hl x (by simp)
     rw [List.flatten_cons, List.drop_succ_cons, show (k + 1) * w = x.length + k * w by rw [Nat.add_mul, Nat.one_mul, hx]; omega, ← List.drop_drop, List.drop_left, ih l fun r hr => hl r (by simp [hr])]
  have hmul : rows.length * w ≤ old.length * w := Nat.mul_le_mul_right w (by omega)
  simp only [opA, ev, copyA, hmin, hrd, writeN, rd_fx, show ¬ (Kind.fix = Kind.ro) by decide, if_false, Nat.zero_add, hlen, holen, hmul, if_true]
  congr 2
  rw [List.set_append_right _ _ (by omega), Nat.sub_self]
  simp only [List.set_cons_zero, fxB, List.flatten_append]
  rw [setR_eq]
  simp only [setL, List.take_zero, List.nil_append, Nat.zero_add, hlen, hdrop _ _ ho]
theorem st_fx {w : Nat} {H X : Heap} {rows : List (List Value)} (hw : ∀ r ∈ rows, r.length = w) {i n c : Nat} {r vs : List Value} (hr : rows[i]? = some r) (hv : vs.length = w) (hn : i < n) :
  (∀ Γ Y, opA Γ (.iadr w none (.const (.slice (some ⟨H.length, 0, none⟩) n c)) (.const (.int .i64 i))) [] Y = some (.pointer (some ⟨H.length, i * w, none⟩), Y)) ∧
   (∀ Γ v, noTup v = true → v.cells.toList = vs → opA Γ (.store (.const (.pointer (some ⟨H.length, i * w, none⟩))) (.const v) w) [] (H ++ (fxB rows :: X)) = some (.tuple ⟨[]⟩, H ++ (fxB (rows.set i vs) :: X))) := by
 refine ⟨fun Γ Y => ?_, fun Γ v ht hc => ?_⟩
 ·have h1 : (0 : Int) ≤ i ∧ (i : Int) < n := ⟨by omega, by omega⟩
  simp only [opA, pureA, ev, h1, and_self, if_true, Int.toNat_natCast, Nat.zero_add]
 ·have hlt := (List.getElem?_eq_some_iff.1 hr).1
  have hm := mul_le (w := w) hlt
  refine st_ (blk := ⟨.fix, rows.flatten⟩) rd_fx (fun q => by cases q) ht (by rw [hc, hv]) (by simp only [flat_len hw]; omega) rfl ?_
  rw [hc, setR_eq]
  have := flat_set rows i 0 r vs hw hr (by omega)
  rw [Nat.add_zero] at this
  have e0 : setL r 0 vs = vs := by
   have : r.length = vs.length := by rw [hw r (List.mem_of_getElem? hr), hv]
   simp [setL, ← this]
  rw [e0] at this
  simp only [this]
  rw [List.set_append_right _ _ (by omega), Nat.sub_self]
  rfl
theorem fx_rows {w : Nat} {H X : Heap} {rows : List (List Value)} (hw : ∀ r ∈ rows, r.length = w) {n : Nat} (hn : n = rows.length) : RowsW w (H ++ (fxB rows :: X)) (.slice (some ⟨H.length, 0, none⟩) n n) rows := by
 subst hn
 refine .inr ⟨_, 0, _, _, rfl, Nat.le_refl _, rd_fx, fun e q => (by cases q), by simp only [flat_len hw]; omega, fun i r e => ?_⟩
 have key : ∀ (rows : List (List Value)) (i : Nat) (r : List Value), (∀ r ∈ rows, r.length = w) → rows[i]? = some r → (rows.flatten.drop (i * w)).take w = r := by
  intro rows
  induction rows with
  | nil => intro i r _ e; simp at e
  | cons x l ih =>
   intro i r hw e
   have hx := hw x (by simp)
   cases i with
   | zero => simp at e; subst e; simp [List.flatten_cons, ← hx]
   | succ i =>
    rw [List.flatten_cons, show (i + 1) * w = x.length + i * w by rw [Nat.add_mul, Nat.one_mul, hx]; omega, ← List.drop_drop, List.drop_left]
    exact ih i r (fun r hr => hw r (by simp [hr])) (by simpa using e)
 rw [Nat.zero_add]
 exact key rows i r hw e
theorem set_app {α : Type} (a : List α) (b : List α) (x y : α) : (a ++ y :: b).set a.length x = a ++ x :: b := by
 rw [List.set_append_right _ _ (by omega), Nat.sub_self]; rfl
end Go.Am
