/-
  tapedoc: a tape's numbers and bytes.
-/
import Derived.Test.YtgdojnamjkhknaaTp
import Derived.Test.YtgdojnamjkhknaaLl
namespace Go.Proofs.Ytgdojnamjkhknaa
open Go.Am
set_option linter.all false
set_option maxRecDepth 100000
namespace TE
open WB (byt preB resB useB byt_len)
open TP (tapeB rtF)
/-- May a period's tape be? -/
def tapeOk (p : Int) (l : List R7) : Bool := decide (1 ≤ p) && decide (p ≤ 600) && tapeB l
/-- A line's numbers. -/
def lineI (x : R7) : List Int := [x.a, x.b, x.c, x.d, x.e, x.f, if x.g then 1 else 0]
def tapeP (p n : Int) (l : List R7) : List Int := p :: n :: l.flatMap lineI
def tapeI (p : Int) (l : List R7) : List Int := tapeP p l.length l
def encF (p : Int) (l : List R7) : List Int := if tapeOk p l then byt (tapeI p l) else []
theorem tapeP_len (p n : Int) (l : List R7) : (tapeP p n l).length = 2 + 7 * l.length := by
  have : ∀ l : List R7, (l.flatMap lineI).length = 7 * l.length := by
    intro l
    induction l with
    | nil => rfl
    | cons x r ih => simp only [List.flatMap_cons, List.length_append, ih, List.length_cons]; simp [lineI]; omega
  simp [tapeP, this]; omega
theorem tapeB_len {l : List R7} (h : tapeB l = true) : l.length ≤ 64 := by
  unfold tapeB at h
  split at h
  · cases h
  · omega
theorem tapeOk_len {p : Int} {l : List R7} (h : tapeOk p l = true) : l.length ≤ 64 := by
  simp only [tapeOk, Bool.and_eq_true] at h
  exact tapeB_len h.2
namespace R90
noncomputable def gK : Env := fun f => match f with
  | 64 => smry TP.R64.pre TP.R64.res
  | _ => fun _ _ => none
theorem gK_ok : EnvOk Try.prog gK := fun f => by
  unfold gK
  split
  · exact TP.R64.summ
  · exact fun args h v h' e => by cases e
theorem gK_q : QuietEnv qt gK := fun f args h v h' hf e => by cases hf
noncomputable abbrev gE (k : Nat) : Env := inE [] [] k gK
noncomputable abbrev cE (k : Nat) : CallS := callS [] [] gK 100 k
theorem gE_q (k : Nat) : QuietEnv qt (Plain.env [] (gE k)) := Plain.quiet (inE_quiet gK_q (fun f F h => by cases h) k)
theorem gE_ok (k : Nat) : EnvOk Try.prog (Plain.env [] (gE k)) := Plain.ok .nil (inE_ok (qt := qt) mixed .nil .nil (fun f F h => by cases h) gK_ok gK_q k)
theorem cE_ok (k : Nat) : CallOk (Plain.env [] (gE k)) (cE k) := callS_ok k
/-- cascade/tapedoc.right -/
def il90 : FnIL := ⟨15, [.tmp 4],
 .seq (.reg [
    ⟨(some 4), none, .mov (.const (.bool false))⟩])
 (.seq (.reg [
    ⟨(some 5), none, .mov (.tmp 0)⟩,
    ⟨(some 6), none, .bin .geq (.tmp 5) (.const (.int .i64 1))⟩,
    ⟨(some 7), none, .mov (.tmp 6)⟩,
    ⟨(some 8), (some (7, true)), .mov (.tmp 0)⟩,
    ⟨(some 9), (some (7, true)), .bin .leq (.tmp 8) (.const (.int .i64 600))⟩,
    ⟨(some 10), none, .pick (.tmp 7) (.tmp 9) (.const (.bool false))⟩,
    ⟨(some 11), none, .mov (.tmp 10)⟩,
    ⟨(some 12), (some (11, true)), .mov (.tmp 1)⟩,
    ⟨(some 13), (some (11, true)), .call 64 [(.tmp 12)]⟩,
    ⟨(some 14), none, .pick (.tmp 11) (.tmp 13) (.const (.bool false))⟩,
    ⟨(some 4), none, .mov (.tmp 14)⟩])
 (.ret))⟩
theorem st90 : stF Try.prog qt 90 = some il90 := by kernel_rfl
def hn90 (aa : Option Addr) (na ca : Nat) (p : Int) (q : Bool) (H : Heap) : Hs := (.join 3 (.con (.con (.con .nil))) (.con (.con (.con .nil))) (.sym (.con (.use 26000013 (sB q) ⟨[], []⟩ (.con .nil))) (.con (.con .nil))))
theorem tree90 (aa : Option Addr) (na ca : Nat) (p : Int) (q : Bool) (H : Heap) : fnS [] (gE 0) (cE 0) 100 il90 (hn90 aa na ca p q H) [(sI p), (.raw (.slice aa na ca))] [.seg H] =
(.req (bif (decide (p ≥ 1)) then true else true) (.br (bif (decide (p ≥ 1)) then (decide (p ≤ 600)) else false)
 (.claim (opA (Plain.env [] (gE 0)) (.call 64 [(.const (.slice aa na ca))]) [] (denH [.seg H]) = some ((.bool q), denH [.seg H]))
 (.ret .ret [(sB q)] [.seg H]))
 (.ret .ret [(sB false)] [.seg H]))) := by kernel_rfl
def pre (x : Int × List R7) (args : List Value) (h : Heap) : Prop := ∃ s, args = [.int .i64 x.1, s] ∧ RowsW 7 h s (x.2.map e7) ∧ x.2.length ≤ 140737488355328
def res (x : Int × List R7) (h : Heap) : Value × Heap := (.bool (tapeOk x.1 x.2), h)
theorem sim {H : Heap} {s : Value} {p : Int} {l : List R7} (hs : RowsW 7 H s (l.map e7)) (hn : l.length ≤ 140737488355328) : Sim Try.prog 90 [.int .i64 p, s] H fun v h' => v = .bool (tapeOk p l) ∧ h' = H := by
  obtain ⟨sa, sc, rfl⟩ := hs.slcM
  refine (Sim.plain (R := fun v => v = .bool (tapeOk p l)) ?_ (fun v hv => by subst hv; rfl)).mono fun v h' q => q
  have h0 : RowsW 7 (denH [.seg H]) (.slice sa l.length sc) (l.map e7) := by simpa [denH, denL, It.den] using hs
  have := fnS_tree (Q := fun v h' => v = .bool (tapeOk p l) ∧ ∃ X, h' = H ++ X) mixed (gE_ok 0) (gE_q 0) (cE_ok 0) st90 (tree90 sa l.length sc p (tapeB l) H) ⟨rfl, rfl⟩ ⟨bif_tt _, fun q => ⟨opA_call (args := [_]) rfl (TP.R64.call h0 hn), ?_⟩, fun q => ?_⟩
  · simpa [denH, denL, It.den, denF, denV, denA, den0] using this
  · refine ⟨?_, [], by simp [denH, denL, It.den]⟩
    show Value.bool _ = _
    congr 1
    simp [Bool.cond_eq_ite] at q
    simp [tapeOk, q]
  · refine ⟨?_, [], by simp [denH, denL, It.den]⟩
    show Value.bool _ = _
    congr 1
    simp [Bool.cond_eq_ite] at q
    by_cases h1 : 1 ≤ p
    · have := q h1
      simp [tapeOk, show ¬ p ≤ 600 by omega]
    · simp [tapeOk, h1]
theorem summ : Summ Try.prog 90 (smry pre res) := smry_ok fun x args h ⟨s, e, hs, hn⟩ => by subst e; exact sim hs hn
theorem call {h : Heap} {s : Value} {p : Int} {l : List R7} (hs : RowsW 7 h s (l.map e7)) (hn : l.length ≤ 140737488355328) : smry pre res [.int .i64 p, s] h = some (.bool (tapeOk p l), h) :=
  smry_some (x := (p, l)) ⟨s, rfl, hs, hn⟩ fun y ⟨s', e, hs', _⟩ => by
    obtain ⟨p', l'⟩ := y
    simp only [List.cons.injEq, Value.int.injEq, true_and, and_true] at e
    obtain ⟨rfl, rfl⟩ := e
    rw [show l' = l from map_inj e7_1 (hs'.uniq hs)]
end R90
theorem tapeP_snoc (p n : Int) (l : List R7) (x : R7) : tapeP p n (l ++ [x]) = tapeP p n l ++ lineI x := by simp [tapeP]
namespace E60
noncomputable def gK : Env := fun f => match f with
  | 23 => smry preB resB
  | 90 => smry R90.pre R90.res
  | _ => fun _ _ => none
theorem gK_ok : EnvOk Try.prog gK := fun f => by
  unfold gK
  split
  · exact WB.summB
  · exact R90.summ
  · exact fun args h v h' e => by cases e
theorem gK_q : QuietEnv qt gK := fun f args h v h' hf e => by cases hf
noncomputable abbrev gE (k : Nat) : Env := inE [] [] k gK
noncomputable abbrev cE (k : Nat) : CallS := callS [] [] gK 100 k
theorem gE_q (k : Nat) : QuietEnv qt (Plain.env [] (gE k)) := Plain.quiet (inE_quiet gK_q (fun f F h => by cases h) k)
theorem gE_ok (k : Nat) : EnvOk Try.prog (Plain.env [] (gE k)) := Plain.ok .nil (inE_ok (qt := qt) mixed .nil .nil (fun f F h => by cases h) gK_ok gK_q k)
theorem cE_ok (k : Nat) : CallOk (Plain.env [] (gE k)) (cE k) := callS_ok k
/-- cascade/tapedoc.Encode -/
def il60 : FnIL := ⟨44, [.tmp 4],
 .seq (.reg [
    ⟨(some 4), none, .mov (.const (.slice none 0 0))⟩])
 (.seq (.seq (.reg [
     ⟨(some 9), none, .mov (.tmp 0)⟩,
     ⟨(some 10), none, .mov (.tmp 1)⟩,
     ⟨(some 11), none, .call 90 [(.tmp 9), (.tmp 10)]⟩,
     ⟨(some 12), none, .un .not (.tmp 11)⟩])
  (.ite (.tmp 12)
    (.seq (.reg [
       ⟨(some 4), none, .mov (.const (.slice none 0 0))⟩])
    (.ret))
    (.skip)))
 (.seq (.reg [
    ⟨(some 13), none, .mov (.tmp 0)⟩,
    ⟨(some 14), none, .mov (.tmp 1)⟩,
    ⟨(some 15), none, .len (.tmp 14)⟩,
    ⟨(some 16), none, .mkrow [(.int .i64 0), (.int .i64 0)] 2 [(0, 1, (.tmp 13)), (1, 1, (.tmp 15))]⟩,
    ⟨(some 5), none, .mov (.tmp 16)⟩])
 (.seq (.seq (.reg [
     ⟨(some 17), none, .mov (.tmp 1)⟩,
     ⟨(some 18), none, .len (.tmp 17)⟩,
     ⟨(some 19), none, .mov (.const (.int .i64 0))⟩])
  (.block 0
    (.loop
      (.seq (.reg [
         ⟨(some 20), none, .bin .lss (.tmp 19) (.tmp 18)⟩])
      (.seq (.ite (.tmp 20)
         (.skip)
         (.exit 0))
      (.seq (.block 1
         (.seq (.reg [
            ⟨(some 21), none, .iadr 7 none (.tmp 17) (.tmp 19)⟩,
            ⟨(some 22), none, .load (.tmp 21) (some 7)⟩,
            ⟨(some 7), none, .alloc [(.int .i64 0), (.int .i64 0), (.int .i64 0), (.int .i64 0), (.int .i64 0), (.int .i64 0), (.bool false)]⟩,
            ⟨none, none, .store (.tmp 7) (.tmp 22) 7⟩])
         (.seq (.reg [
            ⟨(some 8), none, .mov (.const (.int .i64 0))⟩])
         (.seq (.seq (.reg [
             ⟨(some 23), none, .fadr 6 (.tmp 7)⟩,
             ⟨(some 24), none, .load (.tmp 23) none⟩])
          (.ite (.tmp 24)
            (.reg [
              ⟨(some 8), none, .mov (.const (.int .i64 1))⟩])
            (.skip)))
         (.reg [
           ⟨(some 25), none, .mov (.tmp 5)⟩,
           ⟨(some 26), none, .fadr 0 (.tmp 7)⟩,
           ⟨(some 27), none, .load (.tmp 26) none⟩,
           ⟨(some 28), none, .fadr 1 (.tmp 7)⟩,
           ⟨(some 29), none, .load (.tmp 28) none⟩,
           ⟨(some 30), none, .fadr 2 (.tmp 7)⟩,
           ⟨(some 31), none, .load (.tmp 30) none⟩,
           ⟨(some 32), none, .fadr 3 (.tmp 7)⟩,
           ⟨(some 33), none, .load (.tmp 32) none⟩,
           ⟨(some 34), none, .fadr 4 (.tmp 7)⟩,
           ⟨(some 35), none, .load (.tmp 34) none⟩,
           ⟨(some 36), none, .fadr 5 (.tmp 7)⟩,
           ⟨(some 37), none, .load (.tmp 36) none⟩,
           ⟨(some 38), none, .mov (.tmp 8)⟩,
           ⟨(some 39), none, .mkrow [(.int .i64 0), (.int .i64 0), (.int .i64 0), (.int .i64 0), (.int .i64 0), (.int .i64 0), (.int .i64 0)] 7 [(0, 1, (.tmp 27)), (1, 1, (.tmp 29)), (2, 1, (.tmp 31)), (3, 1, (.tmp 33)), (4, 1, (.tmp 35)), (5, 1, (.tmp 37)), (6, 1, (.tmp 38))]⟩,
           ⟨(some 40), none, .append 1 8 (.tmp 25) (.tmp 39)⟩,
           ⟨(some 5), none, .mov (.tmp 40)⟩])))))
      (.reg [
        ⟨(some 41), none, .bin .add (.tmp 19) (.const (.int .i64 1))⟩,
        ⟨(some 19), none, .mov (.tmp 41)⟩])))))))
 (.seq (.reg [
    ⟨(some 42), none, .mov (.tmp 5)⟩,
    ⟨(some 43), none, .call 23 [(.tmp 42)]⟩,
    ⟨(some 4), none, .mov (.tmp 43)⟩])
 (.ret)))))⟩
theorem st60 : stF Try.prog qt 60 = some il60 := by kernel_rfl
def body60_0 : IL := .seq (.reg [
    ⟨(some 20), none, .bin .lss (.tmp 19) (.tmp 18)⟩])
 (.seq (.ite (.tmp 20)
    (.skip)
    (.exit 0))
 (.seq (.block 1
    (.seq (.reg [
       ⟨(some 21), none, .iadr 7 none (.tmp 17) (.tmp 19)⟩,
       ⟨(some 22), none, .load (.tmp 21) (some 7)⟩,
       ⟨(some 7), none, .alloc [(.int .i64 0), (.int .i64 0), (.int .i64 0), (.int .i64 0), (.int .i64 0), (.int .i64 0), (.bool false)]⟩,
       ⟨none, none, .store (.tmp 7) (.tmp 22) 7⟩])
    (.seq (.reg [
       ⟨(some 8), none, .mov (.const (.int .i64 0))⟩])
    (.seq (.seq (.reg [
        ⟨(some 23), none, .fadr 6 (.tmp 7)⟩,
        ⟨(some 24), none, .load (.tmp 23) none⟩])
     (.ite (.tmp 24)
       (.reg [
         ⟨(some 8), none, .mov (.const (.int .i64 1))⟩])
       (.skip)))
    (.reg [
      ⟨(some 25), none, .mov (.tmp 5)⟩,
      ⟨(some 26), none, .fadr 0 (.tmp 7)⟩,
      ⟨(some 27), none, .load (.tmp 26) none⟩,
      ⟨(some 28), none, .fadr 1 (.tmp 7)⟩,
      ⟨(some 29), none, .load (.tmp 28) none⟩,
      ⟨(some 30), none, .fadr 2 (.tmp 7)⟩,
      ⟨(some 31), none, .load (.tmp 30) none⟩,
      ⟨(some 32), none, .fadr 3 (.tmp 7)⟩,
      ⟨(some 33), none, .load (.tmp 32) none⟩,
      ⟨(some 34), none, .fadr 4 (.tmp 7)⟩,
      ⟨(some 35), none, .load (.tmp 34) none⟩,
      ⟨(some 36), none, .fadr 5 (.tmp 7)⟩,
      ⟨(some 37), none, .load (.tmp 36) none⟩,
      ⟨(some 38), none, .mov (.tmp 8)⟩,
      ⟨(some 39), none, .mkrow [(.int .i64 0), (.int .i64 0), (.int .i64 0), (.int .i64 0), (.int .i64 0), (.int .i64 0), (.int .i64 0)] 7 [(0, 1, (.tmp 27)), (1, 1, (.tmp 29)), (2, 1, (.tmp 31)), (3, 1, (.tmp 33)), (4, 1, (.tmp 35)), (5, 1, (.tmp 37)), (6, 1, (.tmp 38))]⟩,
      ⟨(some 40), none, .append 1 8 (.tmp 25) (.tmp 39)⟩,
      ⟨(some 5), none, .mov (.tmp 40)⟩])))))
 (.reg [
   ⟨(some 41), none, .bin .add (.tmp 19) (.const (.int .i64 1))⟩,
   ⟨(some 19), none, .mov (.tmp 41)⟩])))
def hn60y (aa al a2 : Option Addr) (na ca nl cl n2 c2 : Nat) (i x0 x1 x2 x3 x4 x5 : Int) (b1 o1 : Nat) (H J J2 X : Heap) : Hs := (.sym (.pur 22000021 (.pointer (some ⟨b1, o1, none⟩)) (.bas 7000022 (.agg ⟨[(.int .i64 x0), (.int .i64 x1), (.int .i64 x2), (.int .i64 x3), (.int .i64 x4), (.int .i64 x5), (.bool true)]⟩) (.con (.use 30000040 (.raw (.slice a2 n2 c2)) ⟨[(1, .seg J2)], [.seg X]⟩ .nil)))) .nil)
theorem tree60y (aa al a2 : Option Addr) (na ca nl cl n2 c2 : Nat) (i x0 x1 x2 x3 x4 x5 : Int) (b1 o1 : Nat) (H J J2 X : Heap) : pieceS [] (gE 0) (cE 0) 100 (fun i => exL i body60_0 || inL [4, 5] i) body60_0 (hn60y aa al a2 na ca nl cl n2 c2 i x0 x1 x2 x3 x4 x5 b1 o1 H J J2 X) (frS 44 [(4, (.raw (.slice none 0 0))), (5, (.raw (.slice al nl cl))), (17, (.raw (.slice aa na ca))), (18, (sI (na : Int))), (19, (sI i))]) [.seg H, .seg J] =
(.br (decide (i < (na : Int)))
 (.claim (opA (Plain.env [] (gE 0)) (.iadr 7 none (.const (.slice aa na ca)) (.const (.int .i64 i))) [] [] = some ((.pointer (some ⟨b1, o1, none⟩)), []))
 (.claim (opA (Plain.env [] (gE 0)) (.load (.const (.pointer (some ⟨b1, o1, none⟩))) (some 7)) [] H = some ((.agg ⟨[(.int .i64 x0), (.int .i64 x1), (.int .i64 x2), (.int .i64 x3), (.int .i64 x4), (.int .i64 x5), (.bool true)]⟩), H))
 (.claim (List.length J2 = List.length J) (.claim (opA (Plain.env [] (gE 0)) (.append 1 8 (.const (.slice al nl cl)) (.const (denV (ofs [.seg H, .seg J, .blk .fix [(sI x0), (sI x1), (sI x2), (sI x3), (sI x4), (sI x5), (sB true)], .blk .fix [(sI x0), (sI x1), (sI x2), (sI x3), (sI x4), (sI x5), (sI 1)]]) (.sl 3 0 7 7)))) [] (denH [.seg H, .seg J, .blk .fix [(sI x0), (sI x1), (sI x2), (sI x3), (sI x4), (sI x5), (sB true)], .blk .fix [(sI x0), (sI x1), (sI x2), (sI x3), (sI x4), (sI x5), (sI 1)]]) = some ((.slice a2 n2 c2), denH [.seg H, .seg J2, .blk .fix [(sI x0), (sI x1), (sI x2), (sI x3), (sI x4), (sI x5), (sB true)], .blk .fix [(sI x0), (sI x1), (sI x2), (sI x3), (sI x4), (sI x5), (sI 1)], .seg X]))
 (.ret .normal (frS 44 [(4, (.raw (.slice none 0 0))), (5, (.raw (.slice a2 n2 c2))), (17, (.raw (.slice aa na ca))), (18, (sI (na : Int))), (19, (sI (IntKind.wrap .i64 (i + 1))))]) [.seg H, .seg J2, .blk .fix [(sI x0), (sI x1), (sI x2), (sI x3), (sI x4), (sI x5), (sB true)], .blk .fix [(sI x0), (sI x1), (sI x2), (sI x3), (sI x4), (sI x5), (sI 1)], .seg X])))))
 (.ret (.exit 0) (frS 44 [(4, (.raw (.slice none 0 0))), (5, (.raw (.slice al nl cl))), (17, (.raw (.slice aa na ca))), (18, (sI (na : Int))), (19, (sI i))]) [.seg H, .seg J])) := by kernel_rfl
def hn60n (aa al a2 : Option Addr) (na ca nl cl n2 c2 : Nat) (i x0 x1 x2 x3 x4 x5 : Int) (b1 o1 : Nat) (H J J2 X : Heap) : Hs := (.sym (.pur 22000021 (.pointer (some ⟨b1, o1, none⟩)) (.bas 7000022 (.agg ⟨[(.int .i64 x0), (.int .i64 x1), (.int .i64 x2), (.int .i64 x3), (.int .i64 x4), (.int .i64 x5), (.bool false)]⟩) (.con (.use 30000040 (.raw (.slice a2 n2 c2)) ⟨[(1, .seg J2)], [.seg X]⟩ .nil)))) .nil)
theorem tree60n (aa al a2 : Option Addr) (na ca nl cl n2 c2 : Nat) (i x0 x1 x2 x3 x4 x5 : Int) (b1 o1 : Nat) (H J J2 X : Heap) : pieceS [] (gE 0) (cE 0) 100 (fun i => exL i body60_0 || inL [4, 5] i) body60_0 (hn60n aa al a2 na ca nl cl n2 c2 i x0 x1 x2 x3 x4 x5 b1 o1 H J J2 X) (frS 44 [(4, (.raw (.slice none 0 0))), (5, (.raw (.slice al nl cl))), (17, (.raw (.slice aa na ca))), (18, (sI (na : Int))), (19, (sI i))]) [.seg H, .seg J] =
(.br (decide (i < (na : Int)))
 (.claim (opA (Plain.env [] (gE 0)) (.iadr 7 none (.const (.slice aa na ca)) (.const (.int .i64 i))) [] [] = some ((.pointer (some ⟨b1, o1, none⟩)), []))
 (.claim (opA (Plain.env [] (gE 0)) (.load (.const (.pointer (some ⟨b1, o1, none⟩))) (some 7)) [] H = some ((.agg ⟨[(.int .i64 x0), (.int .i64 x1), (.int .i64 x2), (.int .i64 x3), (.int .i64 x4), (.int .i64 x5), (.bool false)]⟩), H))
 (.claim (List.length J2 = List.length J) (.claim (opA (Plain.env [] (gE 0)) (.append 1 8 (.const (.slice al nl cl)) (.const (denV (ofs [.seg H, .seg J, .blk .fix [(sI x0), (sI x1), (sI x2), (sI x3), (sI x4), (sI x5), (sB false)], .blk .fix [(sI x0), (sI x1), (sI x2), (sI x3), (sI x4), (sI x5), (sI 0)]]) (.sl 3 0 7 7)))) [] (denH [.seg H, .seg J, .blk .fix [(sI x0), (sI x1), (sI x2), (sI x3), (sI x4), (sI x5), (sB false)], .blk .fix [(sI x0), (sI x1), (sI x2), (sI x3), (sI x4), (sI x5), (sI 0)]]) = some ((.slice a2 n2 c2), denH [.seg H, .seg J2, .blk .fix [(sI x0), (sI x1), (sI x2), (sI x3), (sI x4), (sI x5), (sB false)], .blk .fix [(sI x0), (sI x1), (sI x2), (sI x3), (sI x4), (sI x5), (sI 0)], .seg X]))
 (.ret .normal (frS 44 [(4, (.raw (.slice none 0 0))), (5, (.raw (.slice a2 n2 c2))), (17, (.raw (.slice aa na ca))), (18, (sI (na : Int))), (19, (sI (IntKind.wrap .i64 (i + 1))))]) [.seg H, .seg J2, .blk .fix [(sI x0), (sI x1), (sI x2), (sI x3), (sI x4), (sI x5), (sB false)], .blk .fix [(sI x0), (sI x1), (sI x2), (sI x3), (sI x4), (sI x5), (sI 0)], .seg X])))))
 (.ret (.exit 0) (frS 44 [(4, (.raw (.slice none 0 0))), (5, (.raw (.slice al nl cl))), (17, (.raw (.slice aa na ca))), (18, (sI (na : Int))), (19, (sI i))]) [.seg H, .seg J])) := by kernel_rfl
def hn60r (aa al a2 : Option Addr) (na ca nl cl n2 c2 : Nat) (p : Int) (bx : Option Blk) (H J X : Heap) : Hs := (.use 26000011 (sB true) ⟨[], []⟩ (.con (.lp 0 [4, 5] (frS 44 [(4, (.raw (.slice none 0 0))), (5, (.raw (.slice al nl cl)))]) ⟨[(1, .raw bx)], [.seg J]⟩ (.use 26000043 (.raw (.slice a2 n2 c2)) ⟨[], [.seg X]⟩ .nil))))
theorem tree60r (aa al a2 : Option Addr) (na ca nl cl n2 c2 : Nat) (p : Int) (bx : Option Blk) (H J X : Heap) : fnS [] (gE 0) (cE 0) 100 il60 (hn60r aa al a2 na ca nl cl n2 c2 p bx H J X) [(sI p), (.raw (.slice aa na ca))] [.seg H] =
(.claim (opA (Plain.env [] (gE 0)) (.call 90 [(.const (.int .i64 p)), (.const (.slice aa na ca))]) [] (denH [.seg H]) = some ((.bool true), denH [.seg H]))
 (.claim (Wp (Plain.env [] (gE 0)) (inL [4, 5]) (.block 0 (.loop body60_0)) (denF [.seg H, .blk .fix [(sI p), (sI (na : Int))]] (frS 44 [(4, (.raw (.slice none 0 0))), (5, (.sl 1 0 2 2)), (17, (.raw (.slice aa na ca))), (18, (sI (na : Int))), (19, (sI 0))])) (denH [.seg H, .blk .fix [(sI p), (sI (na : Int))]]) fun e_ s_ h_ => e_ = .normal ∧ s_ = denF [.seg H, .raw bx, .seg J] (frS 44 [(4, (.raw (.slice none 0 0))), (5, (.raw (.slice al nl cl)))]) ∧ h_ = denH [.seg H, .raw bx, .seg J])
 (.claim (opA (Plain.env [] (gE 0)) (.call 23 [(.const (.slice al nl cl))]) [] (denH [.seg H, .raw bx, .seg J]) = some ((.slice a2 n2 c2), denH [.seg H, .raw bx, .seg J, .seg X]))
 (.ret .ret [(.raw (.slice a2 n2 c2))] [.seg H, .raw bx, .seg J, .seg X])))) := by kernel_rfl
def hn60w (aa : Option Addr) (na ca : Nat) (p : Int) (H : Heap) : Hs := (.use 26000011 (sB false) ⟨[], []⟩ (.con .nil))
theorem tree60w (aa : Option Addr) (na ca : Nat) (p : Int) (H : Heap) : fnS [] (gE 0) (cE 0) 100 il60 (hn60w aa na ca p H) [(sI p), (.raw (.slice aa na ca))] [.seg H] =
(.claim (opA (Plain.env [] (gE 0)) (.call 90 [(.const (.int .i64 p)), (.const (.slice aa na ca))]) [] (denH [.seg H]) = some ((.bool false), denH [.seg H]))
 (.ret .ret [(.raw (.slice none 0 0))] [.seg H])) := by kernel_rfl
theorem loop {H : Heap} {aa : Option Addr} {ca : Nat} {p : Int} {l : List R7} (hs : RowsW 7 H (.slice aa l.length ca) (l.map e7)) (hn : l.length ≤ 1000000) :
    ∃ (bx : Option Blk) (J : Heap) (al : Option Addr) (nl cl : Nat), Wp (Plain.env [] (gE 0)) (inL [4, 5]) (.block 0 (.loop body60_0)) (denF [.seg H, .blk .fix [(sI p), (sI (l.length : Int))]] (frS 44 [(4, (.raw (.slice none 0 0))), (5, (.sl 1 0 2 2)), (17, (.raw (.slice aa l.length ca))), (18, (sI (l.length : Int))), (19, (sI 0))])) (denH [.seg H, .blk .fix [(sI p), (sI (l.length : Int))]]) (fun e_ s_ h_ => e_ = .normal ∧ s_ = denF [.seg H, .raw bx, .seg J] (frS 44 [(4, (.raw (.slice none 0 0))), (5, (.raw (.slice al nl cl)))]) ∧ h_ = denH [.seg H, .raw bx, .seg J]) ∧ LsL 1 H (bx :: J) (.slice al nl cl) ((tapeI p l).map ir) := by
  have key : Wp (Plain.env [] (gE 0)) (inL [4, 5]) (.block 0 (.loop body60_0)) (denF [.seg H, .blk .fix [(sI p), (sI (l.length : Int))]] (frS 44 [(4, (.raw (.slice none 0 0))), (5, (.sl 1 0 2 2)), (17, (.raw (.slice aa l.length ca))), (18, (sI (l.length : Int))), (19, (sI 0))])) (denH [.seg H, .blk .fix [(sI p), (sI (l.length : Int))]]) fun e_ s_ h_ => ∃ (bx : Option Blk) (J : Heap) (al : Option Addr) (nl cl : Nat), (e_ = .normal ∧ s_ = denF [.seg H, .raw bx, .seg J] (frS 44 [(4, (.raw (.slice none 0 0))), (5, (.raw (.slice al nl cl)))]) ∧ h_ = denH [.seg H, .raw bx, .seg J]) ∧ LsL 1 H (bx :: J) (.slice al nl cl) ((tapeI p l).map ir) := by
    refine Wp.bl (fun m t h => ∃ (i : Nat) (J : Heap) (al : Option Addr) (cl : Nat), i + m = l.length ∧ t = denF [.seg H, .seg J] (frS 44 [(4, (.raw (.slice none 0 0))), (5, (.raw (.slice al (2 + 7 * i) cl))), (17, (.raw (.slice aa l.length ca))), (18, (sI (l.length : Int))), (19, (sI i))]) ∧ h = denH [.seg H, .seg J] ∧ LsL 1 H J (.slice al (2 + 7 * i) cl) ((tapeP p l.length (l.take i)).map ir)) ?_ l.length _ _
      ⟨0, [some ⟨.fix, [.int .i64 p, .int .i64 l.length]⟩], some ⟨H.length + 0, 0, none⟩, 2, by omega, ?_, by simp [denH, denL, It.den, den0], .inr ⟨0, by simp [tapeP], by simp [tapeP], ir_w _, by simp [tapeP, ir]⟩⟩
    rotate_left
    · rw [frS_den, frS_den]
      simp [denV, denA, den0, ofs, It.len, off]
    rintro m t h ⟨i, J, al, cl, hi, rfl, rfl, hl⟩
    by_cases hlt : i < l.length
    · obtain ⟨⟨xa, xb, xc, xd, xe, xf, xg⟩, hx⟩ := getE hlt
      obtain ⟨b1, o1, r1⟩ := hs.rowM hx
      obtain ⟨a2, c2, J2, X, q1, q2, q3⟩ := appLit (I := [.seg H]) (R := [.blk .fix [sI xa, sI xb, sI xc, sI xd, sI xe, sI xf, sB xg]]) (R0 := [some ⟨.fix, e7 ⟨xa, xb, xc, xd, xe, xf, xg⟩⟩]) (w := 1) (eby := 8) (n := 7) (new := (lineI ⟨xa, xb, xc, xd, xe, xf, xg⟩).map ir) (cs := [sI xa, sI xb, sI xc, sI xd, sI xe, sI xf, sI (if xg then 1 else 0)]) (J := J) (l := .slice al (2 + 7 * i) cl) (rows := (tapeP p l.length (l.take i)).map ir) rfl (fun _ => rfl) (by simpa [denH, denL, It.den] using hl) (fun _ => rfl) (ir_w _) rfl (by simp [lineI]) (by decide) (by simp [tapeP_len]; omega) (by simp [tapeP_len]; omega)
      have hlen : ((tapeP p l.length (l.take i)).map ir).length = 2 + 7 * i := by rw [List.length_map, tapeP_len, List.length_take]; omega
      have e0 : denH [.seg H] = H := by simp [denH, denL, It.den]
      rw [hlen] at q2 q3
      rw [e0] at q3
      cases xg
      · refine Wp.tree (cE_ok 0) (tree60n aa al a2 l.length ca (2 + 7 * i) cl (2 + 7 * i + 7) c2 i xa xb xc xd xe xf b1 o1 H J J2 X) ⟨rfl, rfl⟩ ⟨fun _ => ⟨r1.ptr _ _, r1.all _, q1, q2 (Plain.env [] (gE 0)), end_next (m - 1) (by omega) ⟨i + 1, J2 ++ (some ⟨.fix, e7 ⟨xa, xb, xc, xd, xe, xf, false⟩⟩ :: some ⟨.fix, ((lineI ⟨xa, xb, xc, xd, xe, xf, false⟩).map ir).flatten⟩ :: X), a2, c2, by omega, ?_, by simp [denH, denL, It.den, den0, e7, lineI, ir], ?_⟩⟩, fun q => by simp at q; omega⟩
        · rw [wrap64 (x := (i : Int) + 1) (by omega) (by omega)]; show denF _ _ = denF _ _; kernel_rfl
        · rw [WB.take_one hx, tapeP_snoc, List.map_append]
          exact .inl q3
      · refine Wp.tree (cE_ok 0) (tree60y aa al a2 l.length ca (2 + 7 * i) cl (2 + 7 * i + 7) c2 i xa xb xc xd xe xf b1 o1 H J J2 X) ⟨rfl, rfl⟩ ⟨fun _ => ⟨r1.ptr _ _, r1.all _, q1, q2 (Plain.env [] (gE 0)), end_next (m - 1) (by omega) ⟨i + 1, J2 ++ (some ⟨.fix, e7 ⟨xa, xb, xc, xd, xe, xf, true⟩⟩ :: some ⟨.fix, ((lineI ⟨xa, xb, xc, xd, xe, xf, true⟩).map ir).flatten⟩ :: X), a2, c2, by omega, ?_, by simp [denH, denL, It.den, den0, e7, lineI, ir], ?_⟩⟩, fun q => by simp at q; omega⟩
        · rw [wrap64 (x := (i : Int) + 1) (by omega) (by omega)]; show denF _ _ = denF _ _; kernel_rfl
        · rw [WB.take_one hx, tapeP_snoc, List.map_append]
          exact .inl q3
    · have hil : i = l.length := by omega
      refine Wp.tree (cE_ok 0) (tree60n aa al al l.length ca (2 + 7 * i) cl 0 0 i 0 0 0 0 0 0 0 0 H J J J) ⟨rfl, rfl⟩ ⟨fun q => by simp at q; omega, fun _ => ?_⟩
      obtain ⟨bx, J, rfl⟩ := hl.cons (by simp [tapeP])
      refine end_exit ⟨bx, J, al, 2 + 7 * i, cl, ⟨rfl, by show denF _ _ = denF _ _; kernel_rfl, by simp [denH, denL, It.den]⟩, ?_⟩
      rw [hil, List.take_length] at hl
      rw [hil]
      exact hl
  obtain ⟨e, t1, h1, ⟨bx, J, al, nl, cl, ⟨rfl, rfl, rfl⟩, hl⟩, w⟩ := key.exact
  exact ⟨bx, J, al, nl, cl, w, hl⟩
theorem sim {H : Heap} {s : Value} {p : Int} {l : List R7} (hs : RowsW 7 H s (l.map e7)) (hn : l.length ≤ 140737488355328) : Sim Try.prog 60 [.int .i64 p, s] H fun v h' => v = freshV H ((encF p l).map br) ∧ h' = H ++ freshX 1 ((encF p l).map br) := by
  obtain ⟨sa, sc, rfl⟩ := hs.slcM
  have h0 : RowsW 7 (denH [.seg H]) (.slice sa l.length sc) (l.map e7) := by simpa [denH, denL, It.den] using hs
  refine Sim.fresh (w := 1) (rows := (encF p l).map br) ?_ (all_flat _ fun _ => rfl)
  cases ok : tapeOk p l with
  | false =>
    have e0 : encF p l = [] := by unfold encF; rw [ok]; rfl
    rw [e0]
    have := fnS_tree (Q := fun v h' => ∃ X, h' = H ++ X ∧ LsS 1 H X v [] ∧ (([] : List (List Value)) = [] → v = .slice none 0 0)) mixed (gE_ok 0) (gE_q 0) (cE_ok 0) st60 (tree60w sa l.length sc p H) ⟨rfl, rfl⟩ ⟨opA_call (args := [_, _]) rfl (by rw [← ok]; exact R90.call h0 hn), [], by simp [denH, denL, It.den], .nil, fun _ => rfl⟩
    simpa [denH, denL, It.den, denF, denV, denA, den0] using this
  | true =>
    have hl := tapeOk_len ok
    have e0 : encF p l = byt (tapeI p l) := by unfold encF; rw [ok]; rfl
    have hne : ¬ (encF p l).map br = [] := by rw [e0]; intro q; have := congrArg List.length q; simp [byt_len, tapeI, tapeP_len] at this; omega
    obtain ⟨bx, J, al, nl, cl, w, hL⟩ := loop (p := p) hs (by omega)
    have hr := hL.rows (by decide) []
    rw [List.append_nil] at hr
    obtain ⟨a2, c2, X, g2, r2⟩ := fresh_useL (w := 1) (I := [.seg H, .raw bx, .seg J]) (rows := (byt (tapeI p l)).map br) rfl (br_w _)
    rw [List.length_map] at g2 r2
    have g3 := (WB.callB (h := denH [.seg H, .raw bx, .seg J]) (zs := tapeI p l) (by simpa [denH, denL, It.den] using hr) (by simp [tapeI, tapeP_len]; omega)).trans (congrArg some g2)
    have := fnS_tree (Q := fun v h' => ∃ X, h' = H ++ X ∧ LsS 1 H X v ((encF p l).map br) ∧ ((encF p l).map br = [] → v = .slice none 0 0)) mixed (gE_ok 0) (gE_q 0) (cE_ok 0) st60 (tree60r sa al a2 l.length sc nl cl (byt (tapeI p l)).length c2 p bx H J X) ⟨rfl, rfl⟩ ⟨opA_call (args := [_, _]) rfl (by rw [← ok]; exact R90.call h0 hn), w, opA_call (args := [_]) rfl g3, bx :: (J ++ X), by simp [denH, denL, It.den], ?_, fun q => absurd q hne⟩
    · simpa [denH, denL, It.den, denF, denV, denA, den0] using this
    · rw [e0]
      exact LsS.ahead (A := bx :: J) (by simpa [denH, denL, It.den, denV, denA, den0] using r2)
def pre (x : Int × List R7) (args : List Value) (h : Heap) : Prop := ∃ s, args = [.int .i64 x.1, s] ∧ RowsW 7 h s (x.2.map e7) ∧ x.2.length ≤ 140737488355328
def res (x : Int × List R7) (h : Heap) : Value × Heap := (freshV h ((encF x.1 x.2).map br), h ++ freshX 1 ((encF x.1 x.2).map br))
theorem summ : Summ Try.prog 60 (smry pre res) := smry_ok fun x args h ⟨s, e, hs, hn⟩ => by subst e; exact sim hs hn
theorem call {h : Heap} {s : Value} {p : Int} {l : List R7} (hs : RowsW 7 h s (l.map e7)) (hn : l.length ≤ 140737488355328) : smry pre res [.int .i64 p, s] h = some (res (p, l) h) :=
  smry_some (x := (p, l)) ⟨s, rfl, hs, hn⟩ fun y ⟨s', e, hs', _⟩ => by
    obtain ⟨p', l'⟩ := y
    simp only [List.cons.injEq, Value.int.injEq, true_and, and_true] at e
    obtain ⟨rfl, rfl⟩ := e
    rw [show l' = l from map_inj e7_1 (hs'.uniq hs)]
theorem use {I : SH} (hI : I.all (It.bnd I.length) = true) {s : Value} {p : Int} {l : List R7} (hs : RowsW 7 (denH I) s (l.map e7)) (hn : l.length ≤ 140737488355328) :
    ∃ a c X, smry pre res [.int .i64 p, s] (denH I) = some (.slice a (encF p l).length c, denH (I ++ [.seg X])) ∧ RowsW 1 (denH (I ++ [.seg X])) (.slice a (encF p l).length c) ((encF p l).map br) := by
  obtain ⟨a, c, X, e, h⟩ := fresh_use (w := 1) (rows := (encF p l).map br) hI (br_w _) (by decide)
  rw [List.length_map] at e h
  exact ⟨a, c, X, (call hs hn).trans (congrArg some e), h⟩
end E60
namespace E63
open WB (gE cE gE_ok gE_q cE_ok)
/-- cascade/cascaderef11.Tape -/
def il63 : FnIL := ⟨39, [.tmp 4],
 .seq (.reg [
    ⟨(some 4), none, .mov (.const (.slice none 0 0))⟩])
 (.seq (.reg [
    ⟨(some 9), none, .mov (.tmp 0)⟩,
    ⟨(some 10), none, .mov (.tmp 1)⟩,
    ⟨(some 11), none, .len (.tmp 10)⟩,
    ⟨(some 12), none, .mkrow [(.int .i64 0), (.int .i64 0)] 2 [(0, 1, (.tmp 9)), (1, 1, (.tmp 11))]⟩,
    ⟨(some 5), none, .mov (.tmp 12)⟩])
 (.seq (.seq (.reg [
     ⟨(some 13), none, .mov (.tmp 1)⟩,
     ⟨(some 14), none, .len (.tmp 13)⟩,
     ⟨(some 15), none, .mov (.const (.int .i64 0))⟩])
  (.block 0
    (.loop
      (.seq (.reg [
         ⟨(some 16), none, .bin .lss (.tmp 15) (.tmp 14)⟩])
      (.seq (.ite (.tmp 16)
         (.skip)
         (.exit 0))
      (.seq (.block 1
         (.seq (.reg [
            ⟨(some 17), none, .iadr 7 none (.tmp 13) (.tmp 15)⟩,
            ⟨(some 18), none, .load (.tmp 17) (some 7)⟩,
            ⟨(some 7), none, .alloc [(.int .i64 0), (.int .i64 0), (.int .i64 0), (.int .i64 0), (.int .i64 0), (.int .i64 0), (.bool false)]⟩,
            ⟨none, none, .store (.tmp 7) (.tmp 18) 7⟩])
         (.seq (.reg [
            ⟨(some 8), none, .mov (.const (.int .i64 0))⟩])
         (.seq (.seq (.reg [
             ⟨(some 19), none, .fadr 6 (.tmp 7)⟩,
             ⟨(some 20), none, .load (.tmp 19) none⟩])
          (.ite (.tmp 20)
            (.reg [
              ⟨(some 8), none, .mov (.const (.int .i64 1))⟩])
            (.skip)))
         (.reg [
           ⟨(some 21), none, .mov (.tmp 5)⟩,
           ⟨(some 22), none, .fadr 0 (.tmp 7)⟩,
           ⟨(some 23), none, .load (.tmp 22) none⟩,
           ⟨(some 24), none, .fadr 1 (.tmp 7)⟩,
           ⟨(some 25), none, .load (.tmp 24) none⟩,
           ⟨(some 26), none, .fadr 2 (.tmp 7)⟩,
           ⟨(some 27), none, .load (.tmp 26) none⟩,
           ⟨(some 28), none, .fadr 3 (.tmp 7)⟩,
           ⟨(some 29), none, .load (.tmp 28) none⟩,
           ⟨(some 30), none, .fadr 4 (.tmp 7)⟩,
           ⟨(some 31), none, .load (.tmp 30) none⟩,
           ⟨(some 32), none, .fadr 5 (.tmp 7)⟩,
           ⟨(some 33), none, .load (.tmp 32) none⟩,
           ⟨(some 34), none, .mov (.tmp 8)⟩,
           ⟨(some 35), none, .mkrow [(.int .i64 0), (.int .i64 0), (.int .i64 0), (.int .i64 0), (.int .i64 0), (.int .i64 0), (.int .i64 0)] 7 [(0, 1, (.tmp 23)), (1, 1, (.tmp 25)), (2, 1, (.tmp 27)), (3, 1, (.tmp 29)), (4, 1, (.tmp 31)), (5, 1, (.tmp 33)), (6, 1, (.tmp 34))]⟩,
           ⟨(some 36), none, .append 1 8 (.tmp 21) (.tmp 35)⟩,
           ⟨(some 5), none, .mov (.tmp 36)⟩])))))
      (.reg [
        ⟨(some 37), none, .bin .add (.tmp 15) (.const (.int .i64 1))⟩,
        ⟨(some 15), none, .mov (.tmp 37)⟩])))))))
 (.seq (.reg [
    ⟨(some 38), none, .mov (.tmp 5)⟩,
    ⟨(some 4), none, .mov (.tmp 38)⟩])
 (.ret))))⟩
theorem st63 : stF Try.prog qt 63 = some il63 := by kernel_rfl
def body63_0 : IL := .seq (.reg [
    ⟨(some 16), none, .bin .lss (.tmp 15) (.tmp 14)⟩])
 (.seq (.ite (.tmp 16)
    (.skip)
    (.exit 0))
 (.seq (.block 1
    (.seq (.reg [
       ⟨(some 17), none, .iadr 7 none (.tmp 13) (.tmp 15)⟩,
       ⟨(some 18), none, .load (.tmp 17) (some 7)⟩,
       ⟨(some 7), none, .alloc [(.int .i64 0), (.int .i64 0), (.int .i64 0), (.int .i64 0), (.int .i64 0), (.int .i64 0), (.bool false)]⟩,
       ⟨none, none, .store (.tmp 7) (.tmp 18) 7⟩])
    (.seq (.reg [
       ⟨(some 8), none, .mov (.const (.int .i64 0))⟩])
    (.seq (.seq (.reg [
        ⟨(some 19), none, .fadr 6 (.tmp 7)⟩,
        ⟨(some 20), none, .load (.tmp 19) none⟩])
     (.ite (.tmp 20)
       (.reg [
         ⟨(some 8), none, .mov (.const (.int .i64 1))⟩])
       (.skip)))
    (.reg [
      ⟨(some 21), none, .mov (.tmp 5)⟩,
      ⟨(some 22), none, .fadr 0 (.tmp 7)⟩,
      ⟨(some 23), none, .load (.tmp 22) none⟩,
      ⟨(some 24), none, .fadr 1 (.tmp 7)⟩,
      ⟨(some 25), none, .load (.tmp 24) none⟩,
      ⟨(some 26), none, .fadr 2 (.tmp 7)⟩,
      ⟨(some 27), none, .load (.tmp 26) none⟩,
      ⟨(some 28), none, .fadr 3 (.tmp 7)⟩,
      ⟨(some 29), none, .load (.tmp 28) none⟩,
      ⟨(some 30), none, .fadr 4 (.tmp 7)⟩,
      ⟨(some 31), none, .load (.tmp 30) none⟩,
      ⟨(some 32), none, .fadr 5 (.tmp 7)⟩,
      ⟨(some 33), none, .load (.tmp 32) none⟩,
      ⟨(some 34), none, .mov (.tmp 8)⟩,
      ⟨(some 35), none, .mkrow [(.int .i64 0), (.int .i64 0), (.int .i64 0), (.int .i64 0), (.int .i64 0), (.int .i64 0), (.int .i64 0)] 7 [(0, 1, (.tmp 23)), (1, 1, (.tmp 25)), (2, 1, (.tmp 27)), (3, 1, (.tmp 29)), (4, 1, (.tmp 31)), (5, 1, (.tmp 33)), (6, 1, (.tmp 34))]⟩,
      ⟨(some 36), none, .append 1 8 (.tmp 21) (.tmp 35)⟩,
      ⟨(some 5), none, .mov (.tmp 36)⟩])))))
 (.reg [
   ⟨(some 37), none, .bin .add (.tmp 15) (.const (.int .i64 1))⟩,
   ⟨(some 15), none, .mov (.tmp 37)⟩])))
def hn63y (aa al a2 : Option Addr) (na ca nl cl n2 c2 : Nat) (i x0 x1 x2 x3 x4 x5 : Int) (b1 o1 : Nat) (H J J2 X : Heap) : Hs := (.sym (.pur 22000017 (.pointer (some ⟨b1, o1, none⟩)) (.bas 7000018 (.agg ⟨[(.int .i64 x0), (.int .i64 x1), (.int .i64 x2), (.int .i64 x3), (.int .i64 x4), (.int .i64 x5), (.bool true)]⟩) (.con (.use 30000036 (.raw (.slice a2 n2 c2)) ⟨[(1, .seg J2)], [.seg X]⟩ .nil)))) .nil)
theorem tree63y (aa al a2 : Option Addr) (na ca nl cl n2 c2 : Nat) (i x0 x1 x2 x3 x4 x5 : Int) (b1 o1 : Nat) (H J J2 X : Heap) : pieceS [] (gE 0) (cE 0) 100 (fun i => exL i body63_0 || inL [4, 5] i) body63_0 (hn63y aa al a2 na ca nl cl n2 c2 i x0 x1 x2 x3 x4 x5 b1 o1 H J J2 X) (frS 39 [(4, (.raw (.slice none 0 0))), (5, (.raw (.slice al nl cl))), (13, (.raw (.slice aa na ca))), (14, (sI (na : Int))), (15, (sI i))]) [.seg H, .seg J] =
(.br (decide (i < (na : Int)))
 (.claim (opA (Plain.env [] (gE 0)) (.iadr 7 none (.const (.slice aa na ca)) (.const (.int .i64 i))) [] [] = some ((.pointer (some ⟨b1, o1, none⟩)), []))
 (.claim (opA (Plain.env [] (gE 0)) (.load (.const (.pointer (some ⟨b1, o1, none⟩))) (some 7)) [] H = some ((.agg ⟨[(.int .i64 x0), (.int .i64 x1), (.int .i64 x2), (.int .i64 x3), (.int .i64 x4), (.int .i64 x5), (.bool true)]⟩), H))
 (.claim (List.length J2 = List.length J) (.claim (opA (Plain.env [] (gE 0)) (.append 1 8 (.const (.slice al nl cl)) (.const (denV (ofs [.seg H, .seg J, .blk .fix [(sI x0), (sI x1), (sI x2), (sI x3), (sI x4), (sI x5), (sB true)], .blk .fix [(sI x0), (sI x1), (sI x2), (sI x3), (sI x4), (sI x5), (sI 1)]]) (.sl 3 0 7 7)))) [] (denH [.seg H, .seg J, .blk .fix [(sI x0), (sI x1), (sI x2), (sI x3), (sI x4), (sI x5), (sB true)], .blk .fix [(sI x0), (sI x1), (sI x2), (sI x3), (sI x4), (sI x5), (sI 1)]]) = some ((.slice a2 n2 c2), denH [.seg H, .seg J2, .blk .fix [(sI x0), (sI x1), (sI x2), (sI x3), (sI x4), (sI x5), (sB true)], .blk .fix [(sI x0), (sI x1), (sI x2), (sI x3), (sI x4), (sI x5), (sI 1)], .seg X]))
 (.ret .normal (frS 39 [(4, (.raw (.slice none 0 0))), (5, (.raw (.slice a2 n2 c2))), (13, (.raw (.slice aa na ca))), (14, (sI (na : Int))), (15, (sI (IntKind.wrap .i64 (i + 1))))]) [.seg H, .seg J2, .blk .fix [(sI x0), (sI x1), (sI x2), (sI x3), (sI x4), (sI x5), (sB true)], .blk .fix [(sI x0), (sI x1), (sI x2), (sI x3), (sI x4), (sI x5), (sI 1)], .seg X])))))
 (.ret (.exit 0) (frS 39 [(4, (.raw (.slice none 0 0))), (5, (.raw (.slice al nl cl))), (13, (.raw (.slice aa na ca))), (14, (sI (na : Int))), (15, (sI i))]) [.seg H, .seg J])) := by kernel_rfl
def hn63n (aa al a2 : Option Addr) (na ca nl cl n2 c2 : Nat) (i x0 x1 x2 x3 x4 x5 : Int) (b1 o1 : Nat) (H J J2 X : Heap) : Hs := (.sym (.pur 22000017 (.pointer (some ⟨b1, o1, none⟩)) (.bas 7000018 (.agg ⟨[(.int .i64 x0), (.int .i64 x1), (.int .i64 x2), (.int .i64 x3), (.int .i64 x4), (.int .i64 x5), (.bool false)]⟩) (.con (.use 30000036 (.raw (.slice a2 n2 c2)) ⟨[(1, .seg J2)], [.seg X]⟩ .nil)))) .nil)
theorem tree63n (aa al a2 : Option Addr) (na ca nl cl n2 c2 : Nat) (i x0 x1 x2 x3 x4 x5 : Int) (b1 o1 : Nat) (H J J2 X : Heap) : pieceS [] (gE 0) (cE 0) 100 (fun i => exL i body63_0 || inL [4, 5] i) body63_0 (hn63n aa al a2 na ca nl cl n2 c2 i x0 x1 x2 x3 x4 x5 b1 o1 H J J2 X) (frS 39 [(4, (.raw (.slice none 0 0))), (5, (.raw (.slice al nl cl))), (13, (.raw (.slice aa na ca))), (14, (sI (na : Int))), (15, (sI i))]) [.seg H, .seg J] =
(.br (decide (i < (na : Int)))
 (.claim (opA (Plain.env [] (gE 0)) (.iadr 7 none (.const (.slice aa na ca)) (.const (.int .i64 i))) [] [] = some ((.pointer (some ⟨b1, o1, none⟩)), []))
 (.claim (opA (Plain.env [] (gE 0)) (.load (.const (.pointer (some ⟨b1, o1, none⟩))) (some 7)) [] H = some ((.agg ⟨[(.int .i64 x0), (.int .i64 x1), (.int .i64 x2), (.int .i64 x3), (.int .i64 x4), (.int .i64 x5), (.bool false)]⟩), H))
 (.claim (List.length J2 = List.length J) (.claim (opA (Plain.env [] (gE 0)) (.append 1 8 (.const (.slice al nl cl)) (.const (denV (ofs [.seg H, .seg J, .blk .fix [(sI x0), (sI x1), (sI x2), (sI x3), (sI x4), (sI x5), (sB false)], .blk .fix [(sI x0), (sI x1), (sI x2), (sI x3), (sI x4), (sI x5), (sI 0)]]) (.sl 3 0 7 7)))) [] (denH [.seg H, .seg J, .blk .fix [(sI x0), (sI x1), (sI x2), (sI x3), (sI x4), (sI x5), (sB false)], .blk .fix [(sI x0), (sI x1), (sI x2), (sI x3), (sI x4), (sI x5), (sI 0)]]) = some ((.slice a2 n2 c2), denH [.seg H, .seg J2, .blk .fix [(sI x0), (sI x1), (sI x2), (sI x3), (sI x4), (sI x5), (sB false)], .blk .fix [(sI x0), (sI x1), (sI x2), (sI x3), (sI x4), (sI x5), (sI 0)], .seg X]))
 (.ret .normal (frS 39 [(4, (.raw (.slice none 0 0))), (5, (.raw (.slice a2 n2 c2))), (13, (.raw (.slice aa na ca))), (14, (sI (na : Int))), (15, (sI (IntKind.wrap .i64 (i + 1))))]) [.seg H, .seg J2, .blk .fix [(sI x0), (sI x1), (sI x2), (sI x3), (sI x4), (sI x5), (sB false)], .blk .fix [(sI x0), (sI x1), (sI x2), (sI x3), (sI x4), (sI x5), (sI 0)], .seg X])))))
 (.ret (.exit 0) (frS 39 [(4, (.raw (.slice none 0 0))), (5, (.raw (.slice al nl cl))), (13, (.raw (.slice aa na ca))), (14, (sI (na : Int))), (15, (sI i))]) [.seg H, .seg J])) := by kernel_rfl
def hn63 (aa al : Option Addr) (na ca nl cl : Nat) (p : Int) (bx : Option Blk) (H J : Heap) : Hs := (.lp 0 [4, 5] (frS 39 [(4, (.raw (.slice none 0 0))), (5, (.raw (.slice al nl cl)))]) ⟨[(1, .raw bx)], [.seg J]⟩ .nil)
theorem tree63 (aa al : Option Addr) (na ca nl cl : Nat) (p : Int) (bx : Option Blk) (H J : Heap) : fnS [] (gE 0) (cE 0) 100 il63 (hn63 aa al na ca nl cl p bx H J) [(sI p), (.raw (.slice aa na ca))] [.seg H] =
(.claim (Wp (Plain.env [] (gE 0)) (inL [4, 5]) (.block 0 (.loop body63_0)) (denF [.seg H, .blk .fix [(sI p), (sI (na : Int))]] (frS 39 [(4, (.raw (.slice none 0 0))), (5, (.sl 1 0 2 2)), (13, (.raw (.slice aa na ca))), (14, (sI (na : Int))), (15, (sI 0))])) (denH [.seg H, .blk .fix [(sI p), (sI (na : Int))]]) fun e_ s_ h_ => e_ = .normal ∧ s_ = denF [.seg H, .raw bx, .seg J] (frS 39 [(4, (.raw (.slice none 0 0))), (5, (.raw (.slice al nl cl)))]) ∧ h_ = denH [.seg H, .raw bx, .seg J])
 (.ret .ret [(.raw (.slice al nl cl))] [.seg H, .raw bx, .seg J])) := by kernel_rfl
theorem loop {H : Heap} {aa : Option Addr} {ca : Nat} {p : Int} {l : List R7} (hs : RowsW 7 H (.slice aa l.length ca) (l.map e7)) (hn : l.length ≤ 1000000) :
    ∃ (bx : Option Blk) (J : Heap) (al : Option Addr) (nl cl : Nat), Wp (Plain.env [] (gE 0)) (inL [4, 5]) (.block 0 (.loop body63_0)) (denF [.seg H, .blk .fix [(sI p), (sI (l.length : Int))]] (frS 39 [(4, (.raw (.slice none 0 0))), (5, (.sl 1 0 2 2)), (13, (.raw (.slice aa l.length ca))), (14, (sI (l.length : Int))), (15, (sI 0))])) (denH [.seg H, .blk .fix [(sI p), (sI (l.length : Int))]]) (fun e_ s_ h_ => e_ = .normal ∧ s_ = denF [.seg H, .raw bx, .seg J] (frS 39 [(4, (.raw (.slice none 0 0))), (5, (.raw (.slice al nl cl)))]) ∧ h_ = denH [.seg H, .raw bx, .seg J]) ∧ LsL 1 H (bx :: J) (.slice al nl cl) ((tapeI p l).map ir) := by
  have key : Wp (Plain.env [] (gE 0)) (inL [4, 5]) (.block 0 (.loop body63_0)) (denF [.seg H, .blk .fix [(sI p), (sI (l.length : Int))]] (frS 39 [(4, (.raw (.slice none 0 0))), (5, (.sl 1 0 2 2)), (13, (.raw (.slice aa l.length ca))), (14, (sI (l.length : Int))), (15, (sI 0))])) (denH [.seg H, .blk .fix [(sI p), (sI (l.length : Int))]]) fun e_ s_ h_ => ∃ (bx : Option Blk) (J : Heap) (al : Option Addr) (nl cl : Nat), (e_ = .normal ∧ s_ = denF [.seg H, .raw bx, .seg J] (frS 39 [(4, (.raw (.slice none 0 0))), (5, (.raw (.slice al nl cl)))]) ∧ h_ = denH [.seg H, .raw bx, .seg J]) ∧ LsL 1 H (bx :: J) (.slice al nl cl) ((tapeI p l).map ir) := by
    refine Wp.bl (fun m t h => ∃ (i : Nat) (J : Heap) (al : Option Addr) (cl : Nat), i + m = l.length ∧ t = denF [.seg H, .seg J] (frS 39 [(4, (.raw (.slice none 0 0))), (5, (.raw (.slice al (2 + 7 * i) cl))), (13, (.raw (.slice aa l.length ca))), (14, (sI (l.length : Int))), (15, (sI i))]) ∧ h = denH [.seg H, .seg J] ∧ LsL 1 H J (.slice al (2 + 7 * i) cl) ((tapeP p l.length (l.take i)).map ir)) ?_ l.length _ _
      ⟨0, [some ⟨.fix, [.int .i64 p, .int .i64 l.length]⟩], some ⟨H.length + 0, 0, none⟩, 2, by omega, ?_, by simp [denH, denL, It.den, den0], .inr ⟨0, by simp [tapeP], by simp [tapeP], ir_w _, by simp [tapeP, ir]⟩⟩
    rotate_left
    · rw [frS_den, frS_den]
      simp [denV, denA, den0, ofs, It.len, off]
    rintro m t h ⟨i, J, al, cl, hi, rfl, rfl, hl⟩
    by_cases hlt : i < l.length
    · obtain ⟨⟨xa, xb, xc, xd, xe, xf, xg⟩, hx⟩ := getE hlt
      obtain ⟨b1, o1, r1⟩ := hs.rowM hx
      obtain ⟨a2, c2, J2, X, q1, q2, q3⟩ := appLit (I := [.seg H]) (R := [.blk .fix [sI xa, sI xb, sI xc, sI xd, sI xe, sI xf, sB xg]]) (R0 := [some ⟨.fix, e7 ⟨xa, xb, xc, xd, xe, xf, xg⟩⟩]) (w := 1) (eby := 8) (n := 7) (new := (lineI ⟨xa, xb, xc, xd, xe, xf, xg⟩).map ir) (cs := [sI xa, sI xb, sI xc, sI xd, sI xe, sI xf, sI (if xg then 1 else 0)]) (J := J) (l := .slice al (2 + 7 * i) cl) (rows := (tapeP p l.length (l.take i)).map ir) rfl (fun _ => rfl) (by simpa [denH, denL, It.den] using hl) (fun _ => rfl) (ir_w _) rfl (by simp [lineI]) (by decide) (by simp [tapeP_len]; omega) (by simp [tapeP_len]; omega)
      have hlen : ((tapeP p l.length (l.take i)).map ir).length = 2 + 7 * i := by rw [List.length_map, tapeP_len, List.length_take]; omega
      have e0 : denH [.seg H] = H := by simp [denH, denL, It.den]
      rw [hlen] at q2 q3
      rw [e0] at q3
      cases xg
      · refine Wp.tree (cE_ok 0) (tree63n aa al a2 l.length ca (2 + 7 * i) cl (2 + 7 * i + 7) c2 i xa xb xc xd xe xf b1 o1 H J J2 X) ⟨rfl, rfl⟩ ⟨fun _ => ⟨r1.ptr _ _, r1.all _, q1, q2 (Plain.env [] (gE 0)), end_next (m - 1) (by omega) ⟨i + 1, J2 ++ (some ⟨.fix, e7 ⟨xa, xb, xc, xd, xe, xf, false⟩⟩ :: some ⟨.fix, ((lineI ⟨xa, xb, xc, xd, xe, xf, false⟩).map ir).flatten⟩ :: X), a2, c2, by omega, ?_, by simp [denH, denL, It.den, den0, e7, lineI, ir], ?_⟩⟩, fun q => by simp at q; omega⟩
        · rw [wrap64 (x := (i : Int) + 1) (by omega) (by omega)]; show denF _ _ = denF _ _; kernel_rfl
        · rw [WB.take_one hx, tapeP_snoc, List.map_append]
          exact .inl q3
      · refine Wp.tree (cE_ok 0) (tree63y aa al a2 l.length ca (2 + 7 * i) cl (2 + 7 * i + 7) c2 i xa xb xc xd xe xf b1 o1 H J J2 X) ⟨rfl, rfl⟩ ⟨fun _ => ⟨r1.ptr _ _, r1.all _, q1, q2 (Plain.env [] (gE 0)), end_next (m - 1) (by omega) ⟨i + 1, J2 ++ (some ⟨.fix, e7 ⟨xa, xb, xc, xd, xe, xf, true⟩⟩ :: some ⟨.fix, ((lineI ⟨xa, xb, xc, xd, xe, xf, true⟩).map ir).flatten⟩ :: X), a2, c2, by omega, ?_, by simp [denH, denL, It.den, den0, e7, lineI, ir], ?_⟩⟩, fun q => by simp at q; omega⟩
        · rw [wrap64 (x := (i : Int) + 1) (by omega) (by omega)]; show denF _ _ = denF _ _; kernel_rfl
        · rw [WB.take_one hx, tapeP_snoc, List.map_append]
          exact .inl q3
    · have hil : i = l.length := by omega
      refine Wp.tree (cE_ok 0) (tree63n aa al al l.length ca (2 + 7 * i) cl 0 0 i 0 0 0 0 0 0 0 0 H J J J) ⟨rfl, rfl⟩ ⟨fun q => by simp at q; omega, fun _ => ?_⟩
      obtain ⟨bx, J, rfl⟩ := hl.cons (by simp [tapeP])
      refine end_exit ⟨bx, J, al, 2 + 7 * i, cl, ⟨rfl, by show denF _ _ = denF _ _; kernel_rfl, by simp [denH, denL, It.den]⟩, ?_⟩
      rw [hil, List.take_length] at hl
      rw [hil]
      exact hl
  obtain ⟨e, t1, h1, ⟨bx, J, al, nl, cl, ⟨rfl, rfl, rfl⟩, hl⟩, w⟩ := key.exact
  exact ⟨bx, J, al, nl, cl, w, hl⟩
theorem summ : Summ Try.prog 63 (runE (Plain.env [] (gE 0)) il63) := Summ.runE mixed (gE_ok 0) (gE_q 0) st63
theorem use {I : SH} (hI : I.all (It.bnd I.length) = true) {s : Value} {p : Int} {l : List R7} (hs : RowsW 7 (denH I) s (l.map e7)) (hn : l.length ≤ 1000000) :
    ∃ a n c X, runE (Plain.env [] (gE 0)) il63 [.int .i64 p, s] (denH I) = some (.slice a n c, denH (I ++ [.seg X])) ∧ RowsW 1 (denH (I ++ [.seg X])) (.slice a n c) ((tapeI p l).map ir) := by
  obtain ⟨aa, ca, rfl⟩ := hs.slcM
  obtain ⟨bx, J, al, nl, cl, w, hL⟩ := loop (p := p) hs hn
  obtain ⟨v, h', r, ⟨rfl, rfl⟩⟩ := fnS_run (Q := fun v h' => v = .slice al nl cl ∧ h' = denH I ++ (bx :: J)) (cE_ok 0) (tree63 aa al l.length ca nl cl p bx (denH I) J) ⟨rfl, rfl⟩ ⟨w, rfl, by simp [denH, denL, It.den]⟩
  have hr := hL.rows (by decide) []
  rw [List.append_nil] at hr
  refine ⟨al, nl, cl, bx :: J, ?_, ?_⟩
  · rw [denH_snoc I hI]
    have e0 : denH [.seg (denH I)] = denH I := by simp [denH, denL, It.den]
    rw [e0] at r
    exact r
  · rw [denH_snoc I hI]; exact hr
end E63
end TE
end Go.Proofs.Ytgdojnamjkhknaa
