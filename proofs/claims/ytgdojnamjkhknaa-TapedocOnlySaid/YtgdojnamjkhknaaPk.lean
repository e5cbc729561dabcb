/-
  keep: a list's number.
-/
import Derived.Test.YtgdojnamjkhknaaWi
import Derived.Test.YtgdojnamjkhknaaLl
namespace Go.Proofs.Ytgdojnamjkhknaa
open Go.Am
set_option linter.all false
set_option maxRecDepth 100000
namespace PK
abbrev tblP : Plain := [(30, sWithin)]
theorem tblP_ok : PlainOk Try.prog tblP := .cons (within_ok mixed st30) .nil
/-- Quiet: Within, pick. -/
abbrev qp : List Nat := [30, 76]
namespace E0
noncomputable abbrev gE (k : Nat) : Env := inE tblP [] k noEnv
noncomputable abbrev cE (k : Nat) : CallS := callS tblP [] noEnv 100 k
theorem gE_q (k : Nat) : QuietEnv qt (Plain.env tblP (gE k)) := Plain.quiet (inE_quiet noEnv_quiet (fun f F h => by cases h) k)
theorem gE_ok (k : Nat) : EnvOk Try.prog (Plain.env tblP (gE k)) := Plain.ok tblP_ok (inE_ok (qt := qt) mixed tblP_ok .nil (fun f F h => by cases h) noEnv_ok noEnv_quiet k)
theorem cE_ok (k : Nat) : CallOk (Plain.env tblP (gE k)) (cE k) := callS_ok k
/-- cascade/cascadekeep.pick -/
def il76 : FnIL := ⟨15, [.tmp 4],
 .seq (.reg [
    ⟨(some 4), none, .mov (.const (.int .i64 0))⟩])
 (.seq (.seq (.reg [
     ⟨(some 5), none, .mov (.tmp 0)⟩,
     ⟨(some 6), none, .len (.tmp 5)⟩,
     ⟨(some 7), none, .bin .eql (.tmp 6) (.const (.int .i64 0))⟩])
  (.ite (.tmp 7)
    (.seq (.reg [
       ⟨(some 4), none, .mov (.const (.int .i64 0))⟩])
    (.ret))
    (.skip)))
 (.seq (.reg [
    ⟨(some 8), none, .mov (.tmp 0)⟩,
    ⟨(some 9), none, .mov (.tmp 1)⟩,
    ⟨(some 10), none, .mov (.tmp 0)⟩,
    ⟨(some 11), none, .len (.tmp 10)⟩,
    ⟨(some 12), none, .bin .rem (.tmp 9) (.tmp 11)⟩,
    ⟨(some 13), none, .iadr 1 none (.tmp 8) (.tmp 12)⟩,
    ⟨(some 14), none, .load (.tmp 13) none⟩,
    ⟨(some 4), none, .mov (.tmp 14)⟩])
 (.ret)))⟩
theorem st76 : stF Try.prog qt 76 = some il76 := by kernel_rfl
def hn76a (aa : Option Addr) (na ca : Nat) (i : Int) (H : Heap) : Hs := (.yes .nil)
theorem tree76a (aa : Option Addr) (na ca : Nat) (i : Int) (H : Heap) : fnS tblP (gE 0) (cE 0) 100 il76 (hn76a aa na ca i H) [(.raw (.slice aa na ca)), (sI i)] [.seg H] =
(.req ((na : Int) == 0) (.ret .ret [(sI 0)] [.seg H])) := by kernel_rfl
def hn76b (aa : Option Addr) (na ca : Nat) (i x0 : Int) (b1 o1 : Nat) (H : Heap) : Hs := (.no (.pur 22000013 (.pointer (some ⟨b1, o1, none⟩)) (.bas 7000014 (.int .i64 x0) .nil)))
theorem tree76b (aa : Option Addr) (na ca : Nat) (i x0 : Int) (b1 o1 : Nat) (H : Heap) : fnS tblP (gE 0) (cE 0) 100 il76 (hn76b aa na ca i x0 b1 o1 H) [(.raw (.slice aa na ca)), (sI i)] [.seg H] =
(.req (!((na : Int) == 0)) (.req (!(decide ((na : Int) = 0))) (.claim (opA (Plain.env tblP (gE 0)) (.iadr 1 none (.const (.slice aa na ca)) (.const (.int .i64 (Int.tmod i (na : Int))))) [] [] = some ((.pointer (some ⟨b1, o1, none⟩)), []))
 (.claim (opA (Plain.env tblP (gE 0)) (.load (.const (.pointer (some ⟨b1, o1, none⟩))) none) [] H = some ((.int .i64 x0), H))
 (.ret .ret [(sI x0)] [.seg H]))))) := by kernel_rfl
end E0
open E0
/-- A number of a list; 0, if it is empty. -/
def pk (l : List Int) (i : Nat) : Int := if h : l.length = 0 then 0 else l[i % l.length]'(Nat.mod_lt _ (by omega))
def pre76 (x : List Int × Nat) (args : List Value) (h : Heap) : Prop := ∃ s, args = [s, .int .i64 (x.2 : Int)] ∧ RowsW 1 h s (x.1.map ir) ∧ x.2 ≤ 1099511627776
theorem call76 {l : List Int} {i : Nat} {s : Value} {h : Heap} (hs : RowsW 1 h s (l.map ir)) (hi : i ≤ 1099511627776) : smry pre76 (fun x h => (.int .i64 (pk x.1 x.2), h)) [s, .int .i64 (i : Int)] h = some (.int .i64 (pk l i), h) :=
  smry_some (x := (l, i)) ⟨s, rfl, hs, hi⟩ fun y ⟨s', e, hs', _⟩ => by
    simp only [List.cons.injEq, Value.int.injEq, true_and, and_true] at e
    obtain ⟨rfl, e⟩ := e
    rw [ir_inj (hs'.uniq hs), show y.2 = i by omega]
theorem sim76 : Summ Try.prog 76 (smry pre76 fun x h => (.int .i64 (pk x.1 x.2), h)) := smry_ok fun y args H ⟨s, e, hs, hi⟩ => by
  subst e
  obtain ⟨l, i⟩ := y
  obtain ⟨aa, ca, rfl⟩ := hs.slcM
  refine Sim.plain (R := fun v => v = .int .i64 (pk l i)) ?_ (fun v hv => by subst hv; rfl)
  by_cases h0 : l.length = 0
  · have := fnS_tree (Q := fun v h' => v = .int .i64 (pk l i) ∧ ∃ X, h' = H ++ X) mixed (gE_ok 0) (gE_q 0) (cE_ok 0) st76 (tree76a aa l.length ca i H) ⟨rfl, rfl⟩ ⟨by simp [h0], by rw [pk, dif_pos h0]; rfl, [], by simp [denH, denL, It.den]⟩
    simpa [denH, denL, It.den, denF, denV, denA, den0] using this
  · have hm : i % l.length < l.length := Nat.mod_lt _ (by omega)
    obtain ⟨b1, o1, r1⟩ := hs.rowM (i := i % l.length) (x := l[i % l.length]) (List.getElem?_eq_getElem hm)
    have ei : Int.tmod (i : Int) (l.length : Int) = ((i % l.length : Nat) : Int) := (Int.ofNat_tmod i l.length).symm
    have := fnS_tree (Q := fun v h' => v = .int .i64 (pk l i) ∧ ∃ X, h' = H ++ X) mixed (gE_ok 0) (gE_q 0) (cE_ok 0) st76 (tree76b aa l.length ca i l[i % l.length] b1 o1 H) ⟨rfl, rfl⟩ ⟨by simp [h0], by simp [h0], by rw [ei]; exact r1.ptr _ _, r1.one _, by rw [pk, dif_neg h0]; rfl, [], by simp [denH, denL, It.den]⟩
    simpa [denH, denL, It.den, denF, denV, denA, den0] using this
theorem up1 {w : Nat} {H : Heap} {v : Value} {rows : List (List Value)} (h : RowsW w H v rows) (X : SH) : RowsW w (denH (.seg H :: X)) v rows :=
  (show RowsW w (denH [.seg H]) v rows by simpa [denH, denL, It.den] using h).up (X := X) rfl
theorem pk_at {l : List Int} {i : Nat} {x : Int} (hx : l[i]? = some x) : pk l i = x := by
  obtain ⟨hlt, rfl⟩ := List.getElem?_eq_some_iff.1 hx
  unfold pk
  rw [dif_neg (by omega)]
  congr 1
  exact Nat.mod_eq_of_lt hlt
/-- The environment: pick. -/
noncomputable def gP : Env := fun f => match f with
  | 76 => smry pre76 fun x h => (.int .i64 (pk x.1 x.2), h)
  | _ => fun _ _ => none
theorem gP_ok : EnvOk Try.prog gP := fun f => by
  unfold gP
  split
  · exact sim76
  · exact fun args h v h' e => by cases e
theorem smry_q {α : Type} {pre : α → List Value → Heap → Prop} {g : α → Heap → Value} {args : List Value} {h : Heap} {v : Value} {h' : Heap} (e : smry pre (fun x h => (g x h, h)) args h = some (v, h')) : h' = h := by
  unfold smry at e
  split at e
  · cases e; rfl
  · cases e
theorem gP_q : QuietEnv qp gP := fun f args h v h' hf e => by
  unfold gP at e
  split at e
  · exact smry_q e
  · cases e
namespace E1
noncomputable abbrev gE (k : Nat) : Env := inE tblP [] k gP
noncomputable abbrev cE (k : Nat) : CallS := callS tblP [] gP 100 k
theorem gE_q (k : Nat) : QuietEnv qp (Plain.env tblP (gE k)) := Plain.quiet (inE_quiet gP_q (fun f F h => by cases h) k)
theorem gE_ok (k : Nat) : EnvOk Try.prog (Plain.env tblP (gE k)) := Plain.ok tblP_ok (inE_ok (qt := qp) mixed tblP_ok .nil (fun f F h => by cases h) gP_ok gP_q k)
theorem cE_ok (k : Nat) : CallOk (Plain.env tblP (gE k)) (cE k) := callS_ok k
end E1
end PK
end Go.Proofs.Ytgdojnamjkhknaa
