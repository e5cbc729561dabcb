/-
  A list with room behind it, all of one mark; is such a list as it was? Three types of one text.
-/
import Derived.Test.YtgdojnamjkhknaaWFn
import Derived.Test.YtgdojnamjkhknaaSamA
import Derived.Test.YtgdojnamjkhknaaSamC
import Derived.Test.YtgdojnamjkhknaaLnA
namespace Go.Proofs.Ytgdojnamjkhknaa
open Go.Am
set_option linter.all false
set_option maxRecDepth 100000
namespace RM
/-- What a list with room holds. -/
abbrev rows {α : Type} (enc : α → List Value) (l : List α) (x : α) : List (List Value) := (l ++ List.replicate 80 x).map enc
theorem rows_eq {α : Type} (enc : α → List Value) (l : List α) (x : α) : rows enc l x = l.map enc ++ List.replicate 80 (enc x) := by simp [rows]
theorem rows_w {α : Type} {enc : α → List Value} {w : Nat} (he : ∀ a, (enc a).length = w) (l : List α) (x : α) : ∀ r ∈ rows enc l x, r.length = w := flen _ he
theorem half_w {α : Type} {enc : α → List Value} {w : Nat} (he : ∀ a, (enc a).length = w) {z : List Value} (hz : z.length = w) (l : List α) (x : α) (a b : Nat) : ∀ r ∈ l.map enc ++ List.replicate a (enc x) ++ List.replicate b z, r.length = w := fun r hr => by
  rcases List.mem_append.1 hr with hr | hr
  · rcases List.mem_append.1 hr with hr | hr
    · exact flen _ he r hr
    · rw [(List.mem_replicate.1 hr).2]; exact he x
  · rw [(List.mem_replicate.1 hr).2]; exact hz
theorem half_get {α : Type} {enc : α → List Value} {z : List Value} (l : List α) (x : α) (a b : Nat) : (l.map enc ++ List.replicate a (enc x) ++ List.replicate (b + 1) z)[l.length + a]? = some z := by
  rw [List.getElem?_append_right (by simp)]
  simp
theorem half_set {α : Type} {enc : α → List Value} {z : List Value} (l : List α) (x : α) (a b : Nat) : (l.map enc ++ List.replicate a (enc x) ++ List.replicate (b + 1) z).set (l.length + a) (enc x) = l.map enc ++ List.replicate (a + 1) (enc x) ++ List.replicate b z := by
  rw [List.replicate_succ, show l.length + a = (l.map enc ++ List.replicate a (enc x)).length by simp, set_app, List.replicate_succ']
  simp
end RM
namespace R31
open WB (gE cE gE_ok gE_q cE_ok)
/-- cascade/cascadebook.Roomy[int] -/
def il31 : FnIL := ⟨27, [.tmp 4],
 .seq (.reg [
    ⟨(some 4), none, .mov (.const (.slice none 0 0))⟩])
 (.seq (.reg [
    ⟨(some 7), none, .mov (.tmp 0)⟩,
    ⟨(some 8), none, .len (.tmp 7)⟩,
    ⟨(some 9), none, .bin .add (.tmp 8) (.const (.int .i64 80))⟩,
    ⟨(some 10), none, .mkslice 1 8 [(.int .i64 0)] (.tmp 9) (.tmp 9)⟩,
    ⟨(some 5), none, .mov (.tmp 10)⟩])
 (.seq (.reg [
    ⟨(some 11), none, .mov (.tmp 5)⟩,
    ⟨(some 12), none, .mov (.tmp 0)⟩,
    ⟨(some 13), none, .copy 1 (.tmp 11) (.tmp 12)⟩])
 (.seq (.seq (.reg [
     ⟨(some 14), none, .mov (.tmp 0)⟩,
     ⟨(some 15), none, .len (.tmp 14)⟩,
     ⟨(some 6), none, .mov (.tmp 15)⟩])
  (.block 0
    (.loop
      (.seq (.seq (.reg [
          ⟨(some 16), none, .mov (.tmp 6)⟩,
          ⟨(some 17), none, .mov (.tmp 5)⟩,
          ⟨(some 18), none, .len (.tmp 17)⟩,
          ⟨(some 19), none, .bin .lss (.tmp 16) (.tmp 18)⟩])
       (.ite (.tmp 19)
         (.skip)
         (.exit 0)))
      (.seq (.block 1
         (.reg [
           ⟨(some 22), none, .mov (.tmp 5)⟩,
           ⟨(some 23), none, .mov (.tmp 6)⟩,
           ⟨(some 24), none, .mov (.tmp 1)⟩,
           ⟨(some 25), none, .iadr 1 none (.tmp 22) (.tmp 23)⟩,
           ⟨none, none, .store (.tmp 25) (.tmp 24) 1⟩]))
      (.reg [
        ⟨(some 20), none, .mov (.tmp 6)⟩,
        ⟨(some 21), none, .bin .add (.tmp 20) (.const (.int .i64 1))⟩,
        ⟨(some 6), none, .mov (.tmp 21)⟩]))))))
 (.seq (.reg [
    ⟨(some 26), none, .mov (.tmp 5)⟩,
    ⟨(some 4), none, .mov (.tmp 26)⟩])
 (.ret)))))⟩
theorem st31 : stF Try.prog qt 31 = some il31 := by kernel_rfl
def body31_0 : IL := .seq (.seq (.reg [
     ⟨(some 16), none, .mov (.tmp 6)⟩,
     ⟨(some 17), none, .mov (.tmp 5)⟩,
     ⟨(some 18), none, .len (.tmp 17)⟩,
     ⟨(some 19), none, .bin .lss (.tmp 16) (.tmp 18)⟩])
  (.ite (.tmp 19)
    (.skip)
    (.exit 0)))
 (.seq (.block 1
    (.reg [
      ⟨(some 22), none, .mov (.tmp 5)⟩,
      ⟨(some 23), none, .mov (.tmp 6)⟩,
      ⟨(some 24), none, .mov (.tmp 1)⟩,
      ⟨(some 25), none, .iadr 1 none (.tmp 22) (.tmp 23)⟩,
      ⟨none, none, .store (.tmp 25) (.tmp 24) 1⟩]))
 (.reg [
   ⟨(some 20), none, .mov (.tmp 6)⟩,
   ⟨(some 21), none, .bin .add (.tmp 20) (.const (.int .i64 1))⟩,
   ⟨(some 6), none, .mov (.tmp 21)⟩]))
def hn31t (fa : Addr) (m : Nat) (i x0 : Int) (B o : Nat) (H J0 J1 : Heap) : Hs := (.sym (.pur 22000025 (.pointer (some ⟨B, o, none⟩)) (.use 8009999 (.raw (.tuple ⟨[]⟩)) ⟨[(1, .seg J1)], []⟩ .nil)) .nil)
theorem tree31t (fa : Addr) (m : Nat) (i x0 : Int) (B o : Nat) (H J0 J1 : Heap) : pieceS [] (gE 0) (cE 0) 100 (fun i => exL i body31_0 || inL [4, 5] i) body31_0 (hn31t fa m i x0 B o H J0 J1) (frS 27 [(1, (sI x0)), (4, (.raw (.slice none 0 0))), (5, (.raw (.slice (some fa) m m))), (6, (sI i))]) [.seg H, .seg J0] =
(.br (decide (i < (m : Int)))
 (.claim (opA (Plain.env [] (gE 0)) (.iadr 1 none (.const (.slice (some fa) m m)) (.const (.int .i64 i))) [] [] = some ((.pointer (some ⟨B, o, none⟩)), []))
 (.claim (List.length J1 = List.length J0) (.claim (opA (Plain.env [] (gE 0)) (.store (.const (.pointer (some ⟨B, o, none⟩))) (.const (.int .i64 x0)) 1) [] (denH [.seg H, .seg J0]) = some ((.tuple ⟨[]⟩), denH [.seg H, .seg J1]))
 (.ret .normal (frS 27 [(1, (sI x0)), (4, (.raw (.slice none 0 0))), (5, (.raw (.slice (some fa) m m))), (6, (sI (IntKind.wrap .i64 (i + 1))))]) [.seg H, .seg J1]))))
 (.ret (.exit 0) (frS 27 [(1, (sI x0)), (4, (.raw (.slice none 0 0))), (5, (.raw (.slice (some fa) m m))), (6, (sI i))]) [.seg H, .seg J0])) := by kernel_rfl
def hn31 (aa : Option Addr) (na ca m : Nat) (x0 : Int) (fa : Addr) (H J0 J1 J2 : Heap) : Hs := (.pur 10000009 (.int .i64 (m : Int)) (.use 16000010 (.raw (.slice (some fa) m m)) ⟨[], [.seg J0]⟩ (.use 31000013 (sI (na : Int)) ⟨[(1, .seg J1)], []⟩ (.lp 0 [4, 5] (frS 27 [(4, (.raw (.slice none 0 0))), (5, (.raw (.slice (some fa) m m)))]) ⟨[(1, .seg J2)], []⟩ .nil))))
theorem tree31 (aa : Option Addr) (na ca m : Nat) (x0 : Int) (fa : Addr) (H J0 J1 J2 : Heap) : fnS [] (gE 0) (cE 0) 100 il31 (hn31 aa na ca m x0 fa H J0 J1 J2) [(.raw (.slice aa na ca)), (sI x0)] [.seg H] =
(.claim (opA (Plain.env [] (gE 0)) (.bin .add (.const (.int .i64 (na : Int))) (.const (.int .i64 80))) [] [] = some ((.int .i64 (m : Int)), []))
 (.claim (opA (Plain.env [] (gE 0)) (.mkslice 1 8 [(.int .i64 0)] (.const (.int .i64 (m : Int))) (.const (.int .i64 (m : Int)))) [] (denH [.seg H]) = some ((.slice (some fa) m m), denH [.seg H, .seg J0]))
 (.claim (List.length J1 = List.length J0) (.claim (opA (Plain.env [] (gE 0)) (.copy 1 (.const (.slice (some fa) m m)) (.const (.slice aa na ca))) [] (denH [.seg H, .seg J0]) = some ((.int .i64 (na : Int)), denH [.seg H, .seg J1]))
 (.claim (List.length J2 = List.length J1) (.claim (Wp (Plain.env [] (gE 0)) (inL [4, 5]) (.block 0 (.loop body31_0)) (denF [.seg H, .seg J1] (frS 27 [(1, (sI x0)), (4, (.raw (.slice none 0 0))), (5, (.raw (.slice (some fa) m m))), (6, (sI (na : Int)))])) (denH [.seg H, .seg J1]) fun e_ s_ h_ => e_ = .normal ∧ s_ = denF [.seg H, .seg J2] (frS 27 [(4, (.raw (.slice none 0 0))), (5, (.raw (.slice (some fa) m m)))]) ∧ h_ = denH [.seg H, .seg J2])
 (.ret .ret [(.raw (.slice (some fa) m m))] [.seg H, .seg J2]))))))) := by kernel_rfl
abbrev fa (H : Heap) (x : Int) : Addr := ⟨(H : Heap).length, 0, none⟩
abbrev it (H J : Heap) (x : Int) : SH := [.seg H, .seg J]
theorem it_eq (H : Heap) (x : Int) (J : Heap) : denH (it H J x) = H ++ J := by simp [denH, denL, It.den]
theorem loop {H : Heap} {x : Int} {l : List Int} (hb : l.length ≤ 1000000000) :
    Wp (Plain.env [] (gE 0)) (inL [4, 5]) (.block 0 (.loop body31_0)) (denF (it H [fxB (l.map ir ++ List.replicate 80 [.int .i64 0])] x) (frS 27 [(1, (sI x)), (4, nS), (5, rS (some (fa H x)) (l.length + 80) (l.length + 80)), (6, (sI l.length))])) (denH (it H [fxB (l.map ir ++ List.replicate 80 [.int .i64 0])] x)) fun e s h => e = .normal ∧ s = denF (it H [fxB (RM.rows ir l x)] x) (frS 27 [(4, nS), (5, rS (some (fa H x)) (l.length + 80) (l.length + 80))]) ∧ h = denH (it H [fxB (RM.rows ir l x)] x) := by
  refine Wp.bl (fun m t h => ∃ k : Nat, k + m = 80 ∧ t = denF (it H [fxB (l.map ir ++ List.replicate k (ir x) ++ List.replicate m [.int .i64 0])] x) (frS 27 [(1, (sI x)), (4, nS), (5, rS (some (fa H x)) (l.length + 80) (l.length + 80)), (6, (sI ((l.length + k : Nat) : Int)))]) ∧ h = denH (it H [fxB (l.map ir ++ List.replicate k (ir x) ++ List.replicate m [.int .i64 0])] x)) ?_ 80 _ _ ⟨0, rfl, by simp only [List.replicate_zero, List.append_nil, Nat.add_zero], by simp only [List.replicate_zero, List.append_nil]⟩
  rintro m t h ⟨k, hk, rfl, rfl⟩
  cases m with
  | succ m =>
    obtain ⟨g1, g2⟩ := st_fx (w := 1) (H := H) (X := []) (rows := l.map ir ++ List.replicate k (ir x) ++ List.replicate (m + 1) [.int .i64 0]) (RM.half_w (enc := ir) (w := 1) (z := [.int .i64 0]) (fun _ => rfl) rfl l x k (m + 1)) (n := l.length + 80) (c := l.length + 80) (vs := ir x) (RM.half_get (enc := ir) (z := [.int .i64 0]) l x k m) rfl (by omega)
    rw [RM.half_set] at g2
    have tr := tree31t (fa H x) (l.length + 80) ((l.length + k : Nat) : Int) x (H : Heap).length ((l.length + k) * 1) H [fxB (l.map ir ++ List.replicate k (ir x) ++ List.replicate (m + 1) [.int .i64 0])] [fxB (l.map ir ++ List.replicate (k + 1) (ir x) ++ List.replicate m [.int .i64 0])]
    refine Wp.tree (cE_ok 0) tr ⟨rfl, rfl⟩ ⟨fun _ => ⟨g1 _ _, rfl, ?_, end_next m (by omega) ⟨k + 1, by omega, ?_, rfl⟩⟩, fun q => by simp at q; omega⟩
    · have := g2 (Plain.env [] (gE 0)) (.int .i64 x) rfl rfl
      rw [← it_eq H x, ← it_eq H x] at this
      exact this
    · rw [wrap64 (by omega) (by omega)]; rfl
  | zero =>
    have tr := tree31t (fa H x) (l.length + 80) ((l.length + k : Nat) : Int) x 0 0 H [fxB (l.map ir ++ List.replicate k (ir x) ++ List.replicate 0 [.int .i64 0])] []
    refine Wp.tree (cE_ok 0) tr ⟨rfl, rfl⟩ ⟨fun q => by simp at q; omega, fun _ => end_exit ⟨rfl, ?_, ?_⟩⟩
    · have hk8 : k = 80 := by omega
      subst hk8
      rw [RM.rows_eq, List.replicate_zero, List.append_nil]
      show denF _ _ = denF _ _; kernel_rfl
    · have hk8 : k = 80 := by omega
      subst hk8
      rw [RM.rows_eq, List.replicate_zero, List.append_nil]
theorem sim {H : Heap} {s : Value} {x : Int} {l : List Int} (hs : RowsW 1 H s (l.map ir)) (hb : l.length ≤ 1000000000) : Sim Try.prog 31 [s, (.int .i64 x)] H fun v h' => v = .slice (some (fa H x)) (l.length + 80) (l.length + 80) ∧ h' = denH (it H [fxB (RM.rows ir l x)] x) := by
  obtain ⟨aa, ca, rfl⟩ := hs.slcM
  have hz : RowsW 1 (H ++ [fxB (List.replicate (l.length + 80) [.int .i64 0])]) (.slice aa l.length ca) (l.map ir) := by
    have := hs.app ([fxB (List.replicate (l.length + 80) [.int .i64 0])])
    simpa using this
  have mk := mk_fx (w := 1) (eby := 8) (z := [.int .i64 0]) (m := l.length + 80) (H := H) rfl (by omega) (by omega) (Plain.env [] (gE 0))
  have cp := cp_fx (w := 1) (H := H) (old := List.replicate (l.length + 80) [.int .i64 0]) hz (fun r hr => by rw [(List.mem_replicate.1 hr).2]; rfl) (flen _ (fun _ => rfl)) (n := l.length + 80) (by simp) (by simp) (Plain.env [] (gE 0))
  rw [List.length_map, List.drop_replicate, show l.length + 80 - l.length = 80 by omega] at cp
  have lp := loop (H := H) (x := x) hb
  obtain ⟨J0, e0⟩ : ∃ J : Heap, J = [fxB (List.replicate (l.length + 80) [.int .i64 0])] := ⟨_, rfl⟩
  obtain ⟨J1, e1⟩ : ∃ J : Heap, J = [fxB (l.map ir ++ List.replicate 80 [.int .i64 0])] := ⟨_, rfl⟩
  obtain ⟨J2, e2⟩ : ∃ J : Heap, J = [fxB (RM.rows ir l x)] := ⟨_, rfl⟩
  have q1 : J1.length = J0.length := by rw [e0, e1]; rfl
  have q2 : J2.length = J1.length := by rw [e2, e1]; rfl
  rw [← e0] at mk cp
  rw [← e1] at cp lp
  rw [← e2] at lp
  rw [← e2]
  clear e0 e1 e2
  have := fnS_tree (Q := fun v h' => v = .slice (some (fa H x)) (l.length + 80) (l.length + 80) ∧ h' = denH (it H J2 x)) mixed (gE_ok 0) (gE_q 0) (cE_ok 0) st31 (tree31 aa l.length ca (l.length + 80) x (fa H x) H J0 J1 J2) ⟨rfl, rfl⟩ ⟨?_, ?_, q1, ?_, q2, lp, rfl, rfl⟩
  · simpa [denH, denL, It.den, denF, denV, denA, den0] using this
  · simp only [opA, pureA, ev, binA, intBin, if_true]
    congr 3
    rw [wrap64 (by omega) (by omega)]; omega
  · rw [show denH [.seg H] = H from by simp [denH, denL, It.den], show denH [.seg H, .seg J0] = H ++ J0 from it_eq H x _]
    exact mk
  · rw [show denH [.seg H, .seg J0] = H ++ J0 from it_eq H x _, show denH [.seg H, .seg J1] = H ++ J1 from it_eq H x _]
    exact cp
/-- The summary of Roomy. -/
def pre (p : List Int × Int) (args : List Value) (h : Heap) : Prop := ∃ s x, x = p.2 ∧ args = [s, (.int .i64 x)] ∧ RowsW 1 h s (p.1.map ir) ∧ p.1.length ≤ 1000000000
def res (p : List Int × Int) (h : Heap) : Value × Heap := (.slice (some (fa h p.2)) (p.1.length + 80) (p.1.length + 80), denH (it h [fxB (RM.rows ir p.1 p.2)] p.2))
theorem summ : Summ Try.prog 31 (smry pre res) := smry_ok fun p args h ⟨s, x, ex, e, hs, hb⟩ => by subst e ex; exact sim hs hb
theorem use {I : SH} (hI : I.all (It.bnd I.length) = true) {s : Value} {l : List Int} {x : Int} (hs : RowsW 1 (denH I) s (l.map ir)) (hb : l.length ≤ 1000000000) :
    ∃ a X, smry pre res [s, (.int .i64 x)] (denH I) = some (.slice (some a) (l.length + 80) (l.length + 80), denH (I ++ [.seg X])) ∧ RowsW 1 (denH (I ++ [.seg X])) (.slice (some a) (l.length + 80) (l.length + 80)) ((l ++ List.replicate 80 x).map ir) := by
  have e : denH (I ++ [.seg ([fxB (RM.rows ir l x)])]) = denH (it (denH I) [fxB (RM.rows ir l x)] x) := by
    rw [denH_snoc I hI, it_eq]
  refine ⟨fa (denH I) x, [fxB (RM.rows ir l x)], ?_, ?_⟩
  · rw [e]
    exact smry_some (x := (l, x)) ⟨s, x, rfl, rfl, hs, hb⟩ fun y ⟨s', x', ex, e', hs', _⟩ => by
      simp only [List.cons.injEq, and_true] at e'
      obtain ⟨rfl, e'⟩ := e'
      have h1 := map_inj ir_1 (hs.uniq hs')
      have h2 : x = x' := by simpa using e'
      obtain ⟨y1, y2⟩ := y
      simp only at h1 ex
      subst h1 h2 ex
      rfl
  · rw [e, it_eq]
    exact fx_rows (w := 1) (H := (denH I)) (X := []) (rows := RM.rows ir l x) (RM.rows_w (enc := ir) (w := 1) (fun _ => rfl) l x) (n := l.length + 80) (by simp only [RM.rows, List.length_map, List.length_append, List.length_replicate])
end R31
namespace T35
noncomputable def gK : Env := fun f => match f with
  | 33 => smry (preSame 1 ir) resSame
  | _ => fun _ _ => none
theorem gK_ok : EnvOk Try.prog gK := fun f => by
  unfold gK
  split
  · exact S33.sim
  · exact fun args h v h' e => by cases e
theorem gK_q : QuietEnv qt gK := fun f args h v h' hf e => by cases hf
noncomputable abbrev gE (k : Nat) : Env := inE [] [] k gK
noncomputable abbrev cE (k : Nat) : CallS := callS [] [] gK 100 k
theorem gE_q (k : Nat) : QuietEnv qt (Plain.env [] (gE k)) := Plain.quiet (inE_quiet gK_q (fun f F h => by cases h) k)
theorem gE_ok (k : Nat) : EnvOk Try.prog (Plain.env [] (gE k)) := Plain.ok .nil (inE_ok (qt := qt) mixed .nil .nil (fun f F h => by cases h) gK_ok gK_q k)
theorem cE_ok (k : Nat) : CallOk (Plain.env [] (gE k)) (cE k) := callS_ok k
/-- cascade/cascadebook.Intact[int] -/
def il35 : FnIL := ⟨37, [.tmp 6],
 .seq (.reg [
    ⟨(some 6), none, .mov (.const (.bool false))⟩])
 (.seq (.seq (.reg [
     ⟨(some 8), none, .mov (.tmp 0)⟩,
     ⟨(some 9), none, .len (.tmp 8)⟩,
     ⟨(some 10), none, .mov (.tmp 1)⟩,
     ⟨(some 11), none, .len (.tmp 10)⟩,
     ⟨(some 12), none, .bin .add (.tmp 11) (.const (.int .i64 80))⟩,
     ⟨(some 13), none, .bin .neq (.tmp 9) (.tmp 12)⟩,
     ⟨(some 14), none, .mov (.tmp 13)⟩,
     ⟨(some 15), (some (14, false)), .mov (.tmp 0)⟩,
     ⟨(some 16), (some (14, false)), .mov (.tmp 1)⟩,
     ⟨(some 17), (some (14, false)), .len (.tmp 16)⟩,
     ⟨(some 18), (some (14, false)), .slice 1 (.tmp 15) none (some (.tmp 17)) none⟩,
     ⟨(some 19), (some (14, false)), .mov (.tmp 1)⟩,
     ⟨(some 20), (some (14, false)), .call 33 [(.tmp 18), (.tmp 19)]⟩,
     ⟨(some 21), (some (14, false)), .un .not (.tmp 20)⟩,
     ⟨(some 22), none, .pick (.tmp 14) (.const (.bool true)) (.tmp 21)⟩])
  (.ite (.tmp 22)
    (.seq (.reg [
       ⟨(some 6), none, .mov (.const (.bool false))⟩])
    (.ret))
    (.skip)))
 (.seq (.seq (.reg [
     ⟨(some 23), none, .mov (.tmp 1)⟩,
     ⟨(some 24), none, .len (.tmp 23)⟩,
     ⟨(some 7), none, .mov (.tmp 24)⟩])
  (.block 0
    (.loop
      (.seq (.seq (.reg [
          ⟨(some 25), none, .mov (.tmp 7)⟩,
          ⟨(some 26), none, .mov (.tmp 0)⟩,
          ⟨(some 27), none, .len (.tmp 26)⟩,
          ⟨(some 28), none, .bin .lss (.tmp 25) (.tmp 27)⟩])
       (.ite (.tmp 28)
         (.skip)
         (.exit 0)))
      (.seq (.block 1
         (.seq (.reg [
            ⟨(some 31), none, .mov (.tmp 0)⟩,
            ⟨(some 32), none, .mov (.tmp 7)⟩,
            ⟨(some 33), none, .iadr 1 none (.tmp 31) (.tmp 32)⟩,
            ⟨(some 34), none, .load (.tmp 33) none⟩,
            ⟨(some 35), none, .mov (.tmp 2)⟩,
            ⟨(some 36), none, .bin .neq (.tmp 34) (.tmp 35)⟩])
         (.ite (.tmp 36)
           (.seq (.reg [
              ⟨(some 6), none, .mov (.const (.bool false))⟩])
           (.ret))
           (.skip))))
      (.reg [
        ⟨(some 29), none, .mov (.tmp 7)⟩,
        ⟨(some 30), none, .bin .add (.tmp 29) (.const (.int .i64 1))⟩,
        ⟨(some 7), none, .mov (.tmp 30)⟩]))))))
 (.seq (.reg [
    ⟨(some 6), none, .mov (.const (.bool true))⟩])
 (.ret))))⟩
theorem st35 : stF Try.prog qt 35 = some il35 := by kernel_rfl
def body35_0 : IL := .seq (.seq (.reg [
     ⟨(some 25), none, .mov (.tmp 7)⟩,
     ⟨(some 26), none, .mov (.tmp 0)⟩,
     ⟨(some 27), none, .len (.tmp 26)⟩,
     ⟨(some 28), none, .bin .lss (.tmp 25) (.tmp 27)⟩])
  (.ite (.tmp 28)
    (.skip)
    (.exit 0)))
 (.seq (.block 1
    (.seq (.reg [
       ⟨(some 31), none, .mov (.tmp 0)⟩,
       ⟨(some 32), none, .mov (.tmp 7)⟩,
       ⟨(some 33), none, .iadr 1 none (.tmp 31) (.tmp 32)⟩,
       ⟨(some 34), none, .load (.tmp 33) none⟩,
       ⟨(some 35), none, .mov (.tmp 2)⟩,
       ⟨(some 36), none, .bin .neq (.tmp 34) (.tmp 35)⟩])
    (.ite (.tmp 36)
      (.seq (.reg [
         ⟨(some 6), none, .mov (.const (.bool false))⟩])
      (.ret))
      (.skip))))
 (.reg [
   ⟨(some 29), none, .mov (.tmp 7)⟩,
   ⟨(some 30), none, .bin .add (.tmp 29) (.const (.int .i64 1))⟩,
   ⟨(some 7), none, .mov (.tmp 30)⟩]))
def hn35t (af : Option Addr) (nf cf : Nat) (i x0 y0 : Int) (b1 o1 : Nat) (H : Heap) : Hs := (.sym (.pur 22000033 (.pointer (some ⟨b1, o1, none⟩)) (.bas 7000034 (.int .i64 y0) (.no .nil))) .nil)
theorem tree35t (af : Option Addr) (nf cf : Nat) (i x0 y0 : Int) (b1 o1 : Nat) (H : Heap) : pieceS [] (gE 0) (cE 0) 100 (fun i => exL i body35_0 || inL [6] i) body35_0 (hn35t af nf cf i x0 y0 b1 o1 H) (frS 37 [(0, (.raw (.slice af nf cf))), (2, (sI x0)), (6, (sB false)), (7, (sI i))]) [.seg H] =
(.br (decide (i < (nf : Int)))
 (.claim (opA (Plain.env [] (gE 0)) (.iadr 1 none (.const (.slice af nf cf)) (.const (.int .i64 i))) [] [] = some ((.pointer (some ⟨b1, o1, none⟩)), []))
 (.claim (opA (Plain.env [] (gE 0)) (.load (.const (.pointer (some ⟨b1, o1, none⟩))) none) [] H = some ((.int .i64 y0), H))
 (.req (!(y0 != x0)) (.ret .normal (frS 37 [(0, (.raw (.slice af nf cf))), (2, (sI x0)), (6, (sB false)), (7, (sI (IntKind.wrap .i64 (i + 1))))]) [.seg H]))))
 (.ret (.exit 0) (frS 37 [(0, (.raw (.slice af nf cf))), (2, (sI x0)), (6, (sB false)), (7, (sI i))]) [.seg H])) := by kernel_rfl
def hn35 (af au aa : Option Addr) (nf nu na cf cu ca m : Nat) (x0 : Int) (H : Heap) : Hs := (.pur 10000012 (.int .i64 (m : Int)) (.no (.con (.con (.con (.bas 17000018 (.slice au nu cu) (.con (.con (.use 26000020 (sB true) ⟨[], []⟩ (.con (.con (.con (.lp 0 [6] (frS 37 [(6, (sB false))]) ⟨[], []⟩ .nil)))))))))))))
theorem tree35 (af au aa : Option Addr) (nf nu na cf cu ca m : Nat) (x0 : Int) (H : Heap) : fnS [] (gE 0) (cE 0) 100 il35 (hn35 af au aa nf nu na cf cu ca m x0 H) [(.raw (.slice af nf cf)), (.raw (.slice aa na ca)), (sI x0)] [.seg H] =
(.claim (opA (Plain.env [] (gE 0)) (.bin .add (.const (.int .i64 (na : Int))) (.const (.int .i64 80))) [] [] = some ((.int .i64 (m : Int)), []))
 (.req (!((nf : Int) != (m : Int))) (.claim (opA (Plain.env [] (gE 0)) (.slice 1 (.const (.slice af nf cf)) none (some (.const (.int .i64 (na : Int)))) none) [] H = some ((.slice au nu cu), H))
 (.claim (opA (Plain.env [] (gE 0)) (.call 33 [(.const (.slice au nu cu)), (.const (.slice aa na ca))]) [] (denH [.seg H]) = some ((.bool true), denH [.seg H]))
 (.claim (Wp (Plain.env [] (gE 0)) (inL [6]) (.block 0 (.loop body35_0)) (denF [.seg H] (frS 37 [(0, (.raw (.slice af nf cf))), (2, (sI x0)), (6, (sB false)), (7, (sI (na : Int)))])) (denH [.seg H]) fun e_ s_ h_ => e_ = .normal ∧ s_ = denF [.seg H] (frS 37 [(6, (sB false))]) ∧ h_ = denH [.seg H])
 (.ret .ret [(sB true)] [.seg H])))))) := by kernel_rfl
abbrev it (H : Heap) (x : Int) : SH := [.seg H]
theorem loop {H : Heap} {x : Int} {l : List Int} {af : Option Addr} {cf : Nat} (hf : RowsW 1 H (.slice af (l.length + 80) cf) ((l ++ List.replicate 80 x).map ir)) (hb : l.length ≤ 1000000000) :
    Wp (Plain.env [] (gE 0)) (inL [6]) (.block 0 (.loop body35_0)) (denF (it H x) (frS 37 [(0, rS af (l.length + 80) cf), (2, (sI x)), (6, (sB false)), (7, (sI l.length))])) (denH (it H x)) fun e s h => e = .normal ∧ s = denF (it H x) (frS 37 [(6, (sB false))]) ∧ h = denH (it H x) := by
  refine Wp.bl (fun m t h => ∃ k : Nat, k + m = 80 ∧ t = denF (it H x) (frS 37 [(0, rS af (l.length + 80) cf), (2, (sI x)), (6, (sB false)), (7, (sI ((l.length + k : Nat) : Int)))]) ∧ h = denH (it H x)) ?_ 80 _ _ ⟨0, rfl, rfl, rfl⟩
  rintro m t h ⟨k, hk, rfl, rfl⟩
  by_cases hlt : k < 80
  · have hg : (l ++ List.replicate 80 x)[l.length + k]? = some x := by
      rw [List.getElem?_append_right (by omega), Nat.add_sub_cancel_left, List.getElem?_replicate, if_pos hlt]
    obtain ⟨b1, o1, r1⟩ := hf.rowM hg
    refine Wp.tree (cE_ok 0) (tree35t af (l.length + 80) cf ((l.length + k : Nat) : Int) x x b1 o1 H) ⟨rfl, rfl⟩ ⟨fun _ => ⟨r1.ptr _ _, r1.one _, by simp, end_next (m - 1) (by omega) ⟨k + 1, by omega, ?_, rfl⟩⟩, fun q => by simp at q; omega⟩
    rw [wrap64 (by omega) (by omega)]; rfl
  · refine Wp.tree (cE_ok 0) (tree35t af (l.length + 80) cf ((l.length + k : Nat) : Int) x x 0 0 H) ⟨rfl, rfl⟩ ⟨fun q => by simp at q; omega, fun _ => end_exit ⟨rfl, by show denF _ _ = denF _ _; kernel_rfl, rfl⟩⟩
theorem sim {H : Heap} {a b : Value} {x : Int} {l : List Int} (ha : RowsW 1 H a ((l ++ List.replicate 80 x).map ir)) (hs : RowsW 1 H b (l.map ir)) (hb : l.length ≤ 1000000000) : Sim Try.prog 35 [a, b, (.int .i64 x)] H fun v h' => v = .bool true ∧ h' = H := by
  obtain ⟨af, cf, rfl⟩ := ha.slcM
  obtain ⟨aa, ca, rfl⟩ := hs.slcM
  rw [List.length_append, List.length_replicate] at ha ⊢
  obtain ⟨u, hcu, hu⟩ := ha.cutM (lo := 0) (hi := l.length) (by omega) (by simp) none (some (.const (.int .i64 l.length))) (.inl ⟨rfl, rfl⟩) (.inr rfl)
  rw [List.drop_zero, List.take_left] at hu
  obtain ⟨au, cu, rfl⟩ := hu.slcM
  have hu0 : RowsW 1 (denH [.seg H]) (.slice au l.length cu) (l.map ir) := by simpa [denH, denL, It.den] using hu
  have hs0 : RowsW 1 (denH [.seg H]) (.slice aa l.length ca) (l.map ir) := by simpa [denH, denL, It.den] using hs
  have eS := callSame ir_1 (hu0.up (I := [.seg H]) rfl []) (hs0.up (I := [.seg H]) rfl []) (by omega)
  rw [same_t rfl] at eS
  refine (Sim.plain (R := fun v => v = .bool true) ?_ (fun v hv => by subst hv; rfl)).mono fun v h' q => q
  have := fnS_tree (Q := fun v h' => v = .bool true ∧ ∃ X, h' = H ++ X) mixed (gE_ok 0) (gE_q 0) (cE_ok 0) st35 (tree35 af au aa (l.length + 80) l.length l.length cf cu ca (l.length + 80) x H) ⟨rfl, rfl⟩ ⟨?_, by simp, hcu _, opA_call (args := [_, _]) rfl eS, loop ha hb, rfl, [], by simp [denH, denL, It.den]⟩
  · simpa [denH, denL, It.den, denF, denV, denA, den0] using this
  · simp only [opA, pureA, ev, binA, intBin, if_true]
    congr 3
    rw [wrap64 (by omega) (by omega)]; omega
/-- The summary of Intact, of what is as it was. -/
def pre (p : List Int × Int) (args : List Value) (h : Heap) : Prop := ∃ a b x, x = p.2 ∧ args = [a, b, (.int .i64 x)] ∧ RowsW 1 h a ((p.1 ++ List.replicate 80 p.2).map ir) ∧ RowsW 1 h b (p.1.map ir) ∧ p.1.length ≤ 1000000000
def res (p : List Int × Int) (h : Heap) : Value × Heap := (.bool true, h)
theorem summ : Summ Try.prog 35 (smry pre res) := smry_ok fun p args h ⟨a, b, x, ex, e, ha, hs, hb⟩ => by subst e ex; exact sim ha hs hb
theorem call {h : Heap} {a b : Value} {l : List Int} {x : Int} (ha : RowsW 1 h a ((l ++ List.replicate 80 x).map ir)) (hs : RowsW 1 h b (l.map ir)) (hb : l.length ≤ 1000000000) : smry pre res [a, b, (.int .i64 x)] h = some (.bool true, h) :=
  smry_some (x := (l, x)) ⟨a, b, x, rfl, rfl, ha, hs, hb⟩ fun _ _ => rfl
end T35
namespace R65
open WB (gE cE gE_ok gE_q cE_ok)
/-- cascade/cascadebook.Roomy[byte] -/
def il65 : FnIL := ⟨27, [.tmp 4],
 .seq (.reg [
    ⟨(some 4), none, .mov (.const (.slice none 0 0))⟩])
 (.seq (.reg [
    ⟨(some 7), none, .mov (.tmp 0)⟩,
    ⟨(some 8), none, .len (.tmp 7)⟩,
    ⟨(some 9), none, .bin .add (.tmp 8) (.const (.int .i64 80))⟩,
    ⟨(some 10), none, .mkslice 1 1 [(.int .u8 0)] (.tmp 9) (.tmp 9)⟩,
    ⟨(some 5), none, .mov (.tmp 10)⟩])
 (.seq (.reg [
    ⟨(some 11), none, .mov (.tmp 5)⟩,
    ⟨(some 12), none, .mov (.tmp 0)⟩,
    ⟨(some 13), none, .copy 1 (.tmp 11) (.tmp 12)⟩])
 (.seq (.seq (.reg [
     ⟨(some 14), none, .mov (.tmp 0)⟩,
     ⟨(some 15), none, .len (.tmp 14)⟩,
     ⟨(some 6), none, .mov (.tmp 15)⟩])
  (.block 0
    (.loop
      (.seq (.seq (.reg [
          ⟨(some 16), none, .mov (.tmp 6)⟩,
          ⟨(some 17), none, .mov (.tmp 5)⟩,
          ⟨(some 18), none, .len (.tmp 17)⟩,
          ⟨(some 19), none, .bin .lss (.tmp 16) (.tmp 18)⟩])
       (.ite (.tmp 19)
         (.skip)
         (.exit 0)))
      (.seq (.block 1
         (.reg [
           ⟨(some 22), none, .mov (.tmp 5)⟩,
           ⟨(some 23), none, .mov (.tmp 6)⟩,
           ⟨(some 24), none, .mov (.tmp 1)⟩,
           ⟨(some 25), none, .iadr 1 none (.tmp 22) (.tmp 23)⟩,
           ⟨none, none, .store (.tmp 25) (.tmp 24) 1⟩]))
      (.reg [
        ⟨(some 20), none, .mov (.tmp 6)⟩,
        ⟨(some 21), none, .bin .add (.tmp 20) (.const (.int .i64 1))⟩,
        ⟨(some 6), none, .mov (.tmp 21)⟩]))))))
 (.seq (.reg [
    ⟨(some 26), none, .mov (.tmp 5)⟩,
    ⟨(some 4), none, .mov (.tmp 26)⟩])
 (.ret)))))⟩
theorem st65 : stF Try.prog qt 65 = some il65 := by kernel_rfl
def body65_0 : IL := .seq (.seq (.reg [
     ⟨(some 16), none, .mov (.tmp 6)⟩,
     ⟨(some 17), none, .mov (.tmp 5)⟩,
     ⟨(some 18), none, .len (.tmp 17)⟩,
     ⟨(some 19), none, .bin .lss (.tmp 16) (.tmp 18)⟩])
  (.ite (.tmp 19)
    (.skip)
    (.exit 0)))
 (.seq (.block 1
    (.reg [
      ⟨(some 22), none, .mov (.tmp 5)⟩,
      ⟨(some 23), none, .mov (.tmp 6)⟩,
      ⟨(some 24), none, .mov (.tmp 1)⟩,
      ⟨(some 25), none, .iadr 1 none (.tmp 22) (.tmp 23)⟩,
      ⟨none, none, .store (.tmp 25) (.tmp 24) 1⟩]))
 (.reg [
   ⟨(some 20), none, .mov (.tmp 6)⟩,
   ⟨(some 21), none, .bin .add (.tmp 20) (.const (.int .i64 1))⟩,
   ⟨(some 6), none, .mov (.tmp 21)⟩]))
def hn65t (fa : Addr) (m : Nat) (i x0 : Int) (B o : Nat) (H J0 J1 : Heap) : Hs := (.sym (.pur 22000025 (.pointer (some ⟨B, o, none⟩)) (.use 8009999 (.raw (.tuple ⟨[]⟩)) ⟨[(1, .seg J1)], []⟩ .nil)) .nil)
theorem tree65t (fa : Addr) (m : Nat) (i x0 : Int) (B o : Nat) (H J0 J1 : Heap) : pieceS [] (gE 0) (cE 0) 100 (fun i => exL i body65_0 || inL [4, 5] i) body65_0 (hn65t fa m i x0 B o H J0 J1) (frS 27 [(1, (.raw (.int .u8 x0))), (4, (.raw (.slice none 0 0))), (5, (.raw (.slice (some fa) m m))), (6, (sI i))]) [.seg H, .seg J0] =
(.br (decide (i < (m : Int)))
 (.claim (opA (Plain.env [] (gE 0)) (.iadr 1 none (.const (.slice (some fa) m m)) (.const (.int .i64 i))) [] [] = some ((.pointer (some ⟨B, o, none⟩)), []))
 (.claim (List.length J1 = List.length J0) (.claim (opA (Plain.env [] (gE 0)) (.store (.const (.pointer (some ⟨B, o, none⟩))) (.const (.int .u8 x0)) 1) [] (denH [.seg H, .seg J0]) = some ((.tuple ⟨[]⟩), denH [.seg H, .seg J1]))
 (.ret .normal (frS 27 [(1, (.raw (.int .u8 x0))), (4, (.raw (.slice none 0 0))), (5, (.raw (.slice (some fa) m m))), (6, (sI (IntKind.wrap .i64 (i + 1))))]) [.seg H, .seg J1]))))
 (.ret (.exit 0) (frS 27 [(1, (.raw (.int .u8 x0))), (4, (.raw (.slice none 0 0))), (5, (.raw (.slice (some fa) m m))), (6, (sI i))]) [.seg H, .seg J0])) := by kernel_rfl
def hn65 (aa : Option Addr) (na ca m : Nat) (x0 : Int) (fa : Addr) (H J0 J1 J2 : Heap) : Hs := (.pur 10000009 (.int .i64 (m : Int)) (.use 16000010 (.raw (.slice (some fa) m m)) ⟨[], [.seg J0]⟩ (.use 31000013 (sI (na : Int)) ⟨[(1, .seg J1)], []⟩ (.lp 0 [4, 5] (frS 27 [(4, (.raw (.slice none 0 0))), (5, (.raw (.slice (some fa) m m)))]) ⟨[(1, .seg J2)], []⟩ .nil))))
theorem tree65 (aa : Option Addr) (na ca m : Nat) (x0 : Int) (fa : Addr) (H J0 J1 J2 : Heap) : fnS [] (gE 0) (cE 0) 100 il65 (hn65 aa na ca m x0 fa H J0 J1 J2) [(.raw (.slice aa na ca)), (.raw (.int .u8 x0))] [.seg H] =
(.claim (opA (Plain.env [] (gE 0)) (.bin .add (.const (.int .i64 (na : Int))) (.const (.int .i64 80))) [] [] = some ((.int .i64 (m : Int)), []))
 (.claim (opA (Plain.env [] (gE 0)) (.mkslice 1 1 [(.int .u8 0)] (.const (.int .i64 (m : Int))) (.const (.int .i64 (m : Int)))) [] (denH [.seg H]) = some ((.slice (some fa) m m), denH [.seg H, .seg J0]))
 (.claim (List.length J1 = List.length J0) (.claim (opA (Plain.env [] (gE 0)) (.copy 1 (.const (.slice (some fa) m m)) (.const (.slice aa na ca))) [] (denH [.seg H, .seg J0]) = some ((.int .i64 (na : Int)), denH [.seg H, .seg J1]))
 (.claim (List.length J2 = List.length J1) (.claim (Wp (Plain.env [] (gE 0)) (inL [4, 5]) (.block 0 (.loop body65_0)) (denF [.seg H, .seg J1] (frS 27 [(1, (.raw (.int .u8 x0))), (4, (.raw (.slice none 0 0))), (5, (.raw (.slice (some fa) m m))), (6, (sI (na : Int)))])) (denH [.seg H, .seg J1]) fun e_ s_ h_ => e_ = .normal ∧ s_ = denF [.seg H, .seg J2] (frS 27 [(4, (.raw (.slice none 0 0))), (5, (.raw (.slice (some fa) m m)))]) ∧ h_ = denH [.seg H, .seg J2])
 (.ret .ret [(.raw (.slice (some fa) m m))] [.seg H, .seg J2]))))))) := by kernel_rfl
abbrev fa (H : Heap) (x : Int) : Addr := ⟨(H : Heap).length, 0, none⟩
abbrev it (H J : Heap) (x : Int) : SH := [.seg H, .seg J]
theorem it_eq (H : Heap) (x : Int) (J : Heap) : denH (it H J x) = H ++ J := by simp [denH, denL, It.den]
theorem loop {H : Heap} {x : Int} {l : List Int} (hb : l.length ≤ 1000000000) :
    Wp (Plain.env [] (gE 0)) (inL [4, 5]) (.block 0 (.loop body65_0)) (denF (it H [fxB (l.map br ++ List.replicate 80 [.int .u8 0])] x) (frS 27 [(1, (.raw (.int .u8 x))), (4, nS), (5, rS (some (fa H x)) (l.length + 80) (l.length + 80)), (6, (sI l.length))])) (denH (it H [fxB (l.map br ++ List.replicate 80 [.int .u8 0])] x)) fun e s h => e = .normal ∧ s = denF (it H [fxB (RM.rows br l x)] x) (frS 27 [(4, nS), (5, rS (some (fa H x)) (l.length + 80) (l.length + 80))]) ∧ h = denH (it H [fxB (RM.rows br l x)] x) := by
  refine Wp.bl (fun m t h => ∃ k : Nat, k + m = 80 ∧ t = denF (it H [fxB (l.map br ++ List.replicate k (br x) ++ List.replicate m [.int .u8 0])] x) (frS 27 [(1, (.raw (.int .u8 x))), (4, nS), (5, rS (some (fa H x)) (l.length + 80) (l.length + 80)), (6, (sI ((l.length + k : Nat) : Int)))]) ∧ h = denH (it H [fxB (l.map br ++ List.replicate k (br x) ++ List.replicate m [.int .u8 0])] x)) ?_ 80 _ _ ⟨0, rfl, by simp only [List.replicate_zero, List.append_nil, Nat.add_zero], by simp only [List.replicate_zero, List.append_nil]⟩
  rintro m t h ⟨k, hk, rfl, rfl⟩
  cases m with
  | succ m =>
    obtain ⟨g1, g2⟩ := st_fx (w := 1) (H := H) (X := []) (rows := l.map br ++ List.replicate k (br x) ++ List.replicate (m + 1) [.int .u8 0]) (RM.half_w (enc := br) (w := 1) (z := [.int .u8 0]) (fun _ => rfl) rfl l x k (m + 1)) (n := l.length + 80) (c := l.length + 80) (vs := br x) (RM.half_get (enc := br) (z := [.int .u8 0]) l x k m) rfl (by omega)
    rw [RM.half_set] at g2
    have tr := tree65t (fa H x) (l.length + 80) ((l.length + k : Nat) : Int) x (H : Heap).length ((l.length + k) * 1) H [fxB (l.map br ++ List.replicate k (br x) ++ List.replicate (m + 1) [.int .u8 0])] [fxB (l.map br ++ List.replicate (k + 1) (br x) ++ List.replicate m [.int .u8 0])]
    refine Wp.tree (cE_ok 0) tr ⟨rfl, rfl⟩ ⟨fun _ => ⟨g1 _ _, rfl, ?_, end_next m (by omega) ⟨k + 1, by omega, ?_, rfl⟩⟩, fun q => by simp at q; omega⟩
    · have := g2 (Plain.env [] (gE 0)) (.int .u8 x) rfl rfl
      rw [← it_eq H x, ← it_eq H x] at this
      exact this
    · rw [wrap64 (by omega) (by omega)]; rfl
  | zero =>
    have tr := tree65t (fa H x) (l.length + 80) ((l.length + k : Nat) : Int) x 0 0 H [fxB (l.map br ++ List.replicate k (br x) ++ List.replicate 0 [.int .u8 0])] []
    refine Wp.tree (cE_ok 0) tr ⟨rfl, rfl⟩ ⟨fun q => by simp at q; omega, fun _ => end_exit ⟨rfl, ?_, ?_⟩⟩
    · have hk8 : k = 80 := by omega
      subst hk8
      rw [RM.rows_eq, List.replicate_zero, List.append_nil]
      show denF _ _ = denF _ _; kernel_rfl
    · have hk8 : k = 80 := by omega
      subst hk8
      rw [RM.rows_eq, List.replicate_zero, List.append_nil]
theorem sim {H : Heap} {s : Value} {x : Int} {l : List Int} (hs : RowsW 1 H s (l.map br)) (hb : l.length ≤ 1000000000) : Sim Try.prog 65 [s, (.int .u8 x)] H fun v h' => v = .slice (some (fa H x)) (l.length + 80) (l.length + 80) ∧ h' = denH (it H [fxB (RM.rows br l x)] x) := by
  obtain ⟨aa, ca, rfl⟩ := hs.slcM
  have hz : RowsW 1 (H ++ [fxB (List.replicate (l.length + 80) [.int .u8 0])]) (.slice aa l.length ca) (l.map br) := by
    have := hs.app ([fxB (List.replicate (l.length + 80) [.int .u8 0])])
    simpa using this
  have mk := mk_fx (w := 1) (eby := 1) (z := [.int .u8 0]) (m := l.length + 80) (H := H) rfl (by omega) (by omega) (Plain.env [] (gE 0))
  have cp := cp_fx (w := 1) (H := H) (old := List.replicate (l.length + 80) [.int .u8 0]) hz (fun r hr => by rw [(List.mem_replicate.1 hr).2]; rfl) (flen _ (fun _ => rfl)) (n := l.length + 80) (by simp) (by simp) (Plain.env [] (gE 0))
  rw [List.length_map, List.drop_replicate, show l.length + 80 - l.length = 80 by omega] at cp
  have lp := loop (H := H) (x := x) hb
  obtain ⟨J0, e0⟩ : ∃ J : Heap, J = [fxB (List.replicate (l.length + 80) [.int .u8 0])] := ⟨_, rfl⟩
  obtain ⟨J1, e1⟩ : ∃ J : Heap, J = [fxB (l.map br ++ List.replicate 80 [.int .u8 0])] := ⟨_, rfl⟩
  obtain ⟨J2, e2⟩ : ∃ J : Heap, J = [fxB (RM.rows br l x)] := ⟨_, rfl⟩
  have q1 : J1.length = J0.length := by rw [e0, e1]; rfl
  have q2 : J2.length = J1.length := by rw [e2, e1]; rfl
  rw [← e0] at mk cp
  rw [← e1] at cp lp
  rw [← e2] at lp
  rw [← e2]
  clear e0 e1 e2
  have := fnS_tree (Q := fun v h' => v = .slice (some (fa H x)) (l.length + 80) (l.length + 80) ∧ h' = denH (it H J2 x)) mixed (gE_ok 0) (gE_q 0) (cE_ok 0) st65 (tree65 aa l.length ca (l.length + 80) x (fa H x) H J0 J1 J2) ⟨rfl, rfl⟩ ⟨?_, ?_, q1, ?_, q2, lp, rfl, rfl⟩
  · simpa [denH, denL, It.den, denF, denV, denA, den0] using this
  · simp only [opA, pureA, ev, binA, intBin, if_true]
    congr 3
    rw [wrap64 (by omega) (by omega)]; omega
  · rw [show denH [.seg H] = H from by simp [denH, denL, It.den], show denH [.seg H, .seg J0] = H ++ J0 from it_eq H x _]
    exact mk
  · rw [show denH [.seg H, .seg J0] = H ++ J0 from it_eq H x _, show denH [.seg H, .seg J1] = H ++ J1 from it_eq H x _]
    exact cp
/-- The summary of Roomy. -/
def pre (p : List Int × Int) (args : List Value) (h : Heap) : Prop := ∃ s x, x = p.2 ∧ args = [s, (.int .u8 x)] ∧ RowsW 1 h s (p.1.map br) ∧ p.1.length ≤ 1000000000
def res (p : List Int × Int) (h : Heap) : Value × Heap := (.slice (some (fa h p.2)) (p.1.length + 80) (p.1.length + 80), denH (it h [fxB (RM.rows br p.1 p.2)] p.2))
theorem summ : Summ Try.prog 65 (smry pre res) := smry_ok fun p args h ⟨s, x, ex, e, hs, hb⟩ => by subst e ex; exact sim hs hb
theorem use {I : SH} (hI : I.all (It.bnd I.length) = true) {s : Value} {l : List Int} {x : Int} (hs : RowsW 1 (denH I) s (l.map br)) (hb : l.length ≤ 1000000000) :
    ∃ a X, smry pre res [s, (.int .u8 x)] (denH I) = some (.slice (some a) (l.length + 80) (l.length + 80), denH (I ++ [.seg X])) ∧ RowsW 1 (denH (I ++ [.seg X])) (.slice (some a) (l.length + 80) (l.length + 80)) ((l ++ List.replicate 80 x).map br) := by
  have e : denH (I ++ [.seg ([fxB (RM.rows br l x)])]) = denH (it (denH I) [fxB (RM.rows br l x)] x) := by
    rw [denH_snoc I hI, it_eq]
  refine ⟨fa (denH I) x, [fxB (RM.rows br l x)], ?_, ?_⟩
  · rw [e]
    exact smry_some (x := (l, x)) ⟨s, x, rfl, rfl, hs, hb⟩ fun y ⟨s', x', ex, e', hs', _⟩ => by
      simp only [List.cons.injEq, and_true] at e'
      obtain ⟨rfl, e'⟩ := e'
      have h1 := map_inj br_1 (hs.uniq hs')
      have h2 : x = x' := by simpa using e'
      obtain ⟨y1, y2⟩ := y
      simp only at h1 ex
      subst h1 h2 ex
      rfl
  · rw [e, it_eq]
    exact fx_rows (w := 1) (H := (denH I)) (X := []) (rows := RM.rows br l x) (RM.rows_w (enc := br) (w := 1) (fun _ => rfl) l x) (n := l.length + 80) (by simp only [RM.rows, List.length_map, List.length_append, List.length_replicate])
end R65
namespace T66
noncomputable def gK : Env := fun f => match f with
  | 27 => smry (preSame 1 br) resSame
  | _ => fun _ _ => none
theorem gK_ok : EnvOk Try.prog gK := fun f => by
  unfold gK
  split
  · exact S27.sim
  · exact fun args h v h' e => by cases e
theorem gK_q : QuietEnv qt gK := fun f args h v h' hf e => by cases hf
noncomputable abbrev gE (k : Nat) : Env := inE [] [] k gK
noncomputable abbrev cE (k : Nat) : CallS := callS [] [] gK 100 k
theorem gE_q (k : Nat) : QuietEnv qt (Plain.env [] (gE k)) := Plain.quiet (inE_quiet gK_q (fun f F h => by cases h) k)
theorem gE_ok (k : Nat) : EnvOk Try.prog (Plain.env [] (gE k)) := Plain.ok .nil (inE_ok (qt := qt) mixed .nil .nil (fun f F h => by cases h) gK_ok gK_q k)
theorem cE_ok (k : Nat) : CallOk (Plain.env [] (gE k)) (cE k) := callS_ok k
/-- cascade/cascadebook.Intact[byte] -/
def il66 : FnIL := ⟨37, [.tmp 6],
 .seq (.reg [
    ⟨(some 6), none, .mov (.const (.bool false))⟩])
 (.seq (.seq (.reg [
     ⟨(some 8), none, .mov (.tmp 0)⟩,
     ⟨(some 9), none, .len (.tmp 8)⟩,
     ⟨(some 10), none, .mov (.tmp 1)⟩,
     ⟨(some 11), none, .len (.tmp 10)⟩,
     ⟨(some 12), none, .bin .add (.tmp 11) (.const (.int .i64 80))⟩,
     ⟨(some 13), none, .bin .neq (.tmp 9) (.tmp 12)⟩,
     ⟨(some 14), none, .mov (.tmp 13)⟩,
     ⟨(some 15), (some (14, false)), .mov (.tmp 0)⟩,
     ⟨(some 16), (some (14, false)), .mov (.tmp 1)⟩,
     ⟨(some 17), (some (14, false)), .len (.tmp 16)⟩,
     ⟨(some 18), (some (14, false)), .slice 1 (.tmp 15) none (some (.tmp 17)) none⟩,
     ⟨(some 19), (some (14, false)), .mov (.tmp 1)⟩,
     ⟨(some 20), (some (14, false)), .call 27 [(.tmp 18), (.tmp 19)]⟩,
     ⟨(some 21), (some (14, false)), .un .not (.tmp 20)⟩,
     ⟨(some 22), none, .pick (.tmp 14) (.const (.bool true)) (.tmp 21)⟩])
  (.ite (.tmp 22)
    (.seq (.reg [
       ⟨(some 6), none, .mov (.const (.bool false))⟩])
    (.ret))
    (.skip)))
 (.seq (.seq (.reg [
     ⟨(some 23), none, .mov (.tmp 1)⟩,
     ⟨(some 24), none, .len (.tmp 23)⟩,
     ⟨(some 7), none, .mov (.tmp 24)⟩])
  (.block 0
    (.loop
      (.seq (.seq (.reg [
          ⟨(some 25), none, .mov (.tmp 7)⟩,
          ⟨(some 26), none, .mov (.tmp 0)⟩,
          ⟨(some 27), none, .len (.tmp 26)⟩,
          ⟨(some 28), none, .bin .lss (.tmp 25) (.tmp 27)⟩])
       (.ite (.tmp 28)
         (.skip)
         (.exit 0)))
      (.seq (.block 1
         (.seq (.reg [
            ⟨(some 31), none, .mov (.tmp 0)⟩,
            ⟨(some 32), none, .mov (.tmp 7)⟩,
            ⟨(some 33), none, .iadr 1 none (.tmp 31) (.tmp 32)⟩,
            ⟨(some 34), none, .load (.tmp 33) none⟩,
            ⟨(some 35), none, .mov (.tmp 2)⟩,
            ⟨(some 36), none, .bin .neq (.tmp 34) (.tmp 35)⟩])
         (.ite (.tmp 36)
           (.seq (.reg [
              ⟨(some 6), none, .mov (.const (.bool false))⟩])
           (.ret))
           (.skip))))
      (.reg [
        ⟨(some 29), none, .mov (.tmp 7)⟩,
        ⟨(some 30), none, .bin .add (.tmp 29) (.const (.int .i64 1))⟩,
        ⟨(some 7), none, .mov (.tmp 30)⟩]))))))
 (.seq (.reg [
    ⟨(some 6), none, .mov (.const (.bool true))⟩])
 (.ret))))⟩
theorem st66 : stF Try.prog qt 66 = some il66 := by kernel_rfl
def body66_0 : IL := .seq (.seq (.reg [
     ⟨(some 25), none, .mov (.tmp 7)⟩,
     ⟨(some 26), none, .mov (.tmp 0)⟩,
     ⟨(some 27), none, .len (.tmp 26)⟩,
     ⟨(some 28), none, .bin .lss (.tmp 25) (.tmp 27)⟩])
  (.ite (.tmp 28)
    (.skip)
    (.exit 0)))
 (.seq (.block 1
    (.seq (.reg [
       ⟨(some 31), none, .mov (.tmp 0)⟩,
       ⟨(some 32), none, .mov (.tmp 7)⟩,
       ⟨(some 33), none, .iadr 1 none (.tmp 31) (.tmp 32)⟩,
       ⟨(some 34), none, .load (.tmp 33) none⟩,
       ⟨(some 35), none, .mov (.tmp 2)⟩,
       ⟨(some 36), none, .bin .neq (.tmp 34) (.tmp 35)⟩])
    (.ite (.tmp 36)
      (.seq (.reg [
         ⟨(some 6), none, .mov (.const (.bool false))⟩])
      (.ret))
      (.skip))))
 (.reg [
   ⟨(some 29), none, .mov (.tmp 7)⟩,
   ⟨(some 30), none, .bin .add (.tmp 29) (.const (.int .i64 1))⟩,
   ⟨(some 7), none, .mov (.tmp 30)⟩]))
def hn66t (af : Option Addr) (nf cf : Nat) (i x0 y0 : Int) (b1 o1 : Nat) (H : Heap) : Hs := (.sym (.pur 22000033 (.pointer (some ⟨b1, o1, none⟩)) (.bas 7000034 (.int .u8 y0) (.no .nil))) .nil)
theorem tree66t (af : Option Addr) (nf cf : Nat) (i x0 y0 : Int) (b1 o1 : Nat) (H : Heap) : pieceS [] (gE 0) (cE 0) 100 (fun i => exL i body66_0 || inL [6] i) body66_0 (hn66t af nf cf i x0 y0 b1 o1 H) (frS 37 [(0, (.raw (.slice af nf cf))), (2, (.raw (.int .u8 x0))), (6, (sB false)), (7, (sI i))]) [.seg H] =
(.br (decide (i < (nf : Int)))
 (.claim (opA (Plain.env [] (gE 0)) (.iadr 1 none (.const (.slice af nf cf)) (.const (.int .i64 i))) [] [] = some ((.pointer (some ⟨b1, o1, none⟩)), []))
 (.claim (opA (Plain.env [] (gE 0)) (.load (.const (.pointer (some ⟨b1, o1, none⟩))) none) [] H = some ((.int .u8 y0), H))
 (.req (!(y0 != x0)) (.ret .normal (frS 37 [(0, (.raw (.slice af nf cf))), (2, (.raw (.int .u8 x0))), (6, (sB false)), (7, (sI (IntKind.wrap .i64 (i + 1))))]) [.seg H]))))
 (.ret (.exit 0) (frS 37 [(0, (.raw (.slice af nf cf))), (2, (.raw (.int .u8 x0))), (6, (sB false)), (7, (sI i))]) [.seg H])) := by kernel_rfl
def hn66 (af au aa : Option Addr) (nf nu na cf cu ca m : Nat) (x0 : Int) (H : Heap) : Hs := (.pur 10000012 (.int .i64 (m : Int)) (.no (.con (.con (.con (.bas 17000018 (.slice au nu cu) (.con (.con (.use 26000020 (sB true) ⟨[], []⟩ (.con (.con (.con (.lp 0 [6] (frS 37 [(6, (sB false))]) ⟨[], []⟩ .nil)))))))))))))
theorem tree66 (af au aa : Option Addr) (nf nu na cf cu ca m : Nat) (x0 : Int) (H : Heap) : fnS [] (gE 0) (cE 0) 100 il66 (hn66 af au aa nf nu na cf cu ca m x0 H) [(.raw (.slice af nf cf)), (.raw (.slice aa na ca)), (.raw (.int .u8 x0))] [.seg H] =
(.claim (opA (Plain.env [] (gE 0)) (.bin .add (.const (.int .i64 (na : Int))) (.const (.int .i64 80))) [] [] = some ((.int .i64 (m : Int)), []))
 (.req (!((nf : Int) != (m : Int))) (.claim (opA (Plain.env [] (gE 0)) (.slice 1 (.const (.slice af nf cf)) none (some (.const (.int .i64 (na : Int)))) none) [] H = some ((.slice au nu cu), H))
 (.claim (opA (Plain.env [] (gE 0)) (.call 27 [(.const (.slice au nu cu)), (.const (.slice aa na ca))]) [] (denH [.seg H]) = some ((.bool true), denH [.seg H]))
 (.claim (Wp (Plain.env [] (gE 0)) (inL [6]) (.block 0 (.loop body66_0)) (denF [.seg H] (frS 37 [(0, (.raw (.slice af nf cf))), (2, (.raw (.int .u8 x0))), (6, (sB false)), (7, (sI (na : Int)))])) (denH [.seg H]) fun e_ s_ h_ => e_ = .normal ∧ s_ = denF [.seg H] (frS 37 [(6, (sB false))]) ∧ h_ = denH [.seg H])
 (.ret .ret [(sB true)] [.seg H])))))) := by kernel_rfl
abbrev it (H : Heap) (x : Int) : SH := [.seg H]
theorem loop {H : Heap} {x : Int} {l : List Int} {af : Option Addr} {cf : Nat} (hf : RowsW 1 H (.slice af (l.length + 80) cf) ((l ++ List.replicate 80 x).map br)) (hb : l.length ≤ 1000000000) :
    Wp (Plain.env [] (gE 0)) (inL [6]) (.block 0 (.loop body66_0)) (denF (it H x) (frS 37 [(0, rS af (l.length + 80) cf), (2, (.raw (.int .u8 x))), (6, (sB false)), (7, (sI l.length))])) (denH (it H x)) fun e s h => e = .normal ∧ s = denF (it H x) (frS 37 [(6, (sB false))]) ∧ h = denH (it H x) := by
  refine Wp.bl (fun m t h => ∃ k : Nat, k + m = 80 ∧ t = denF (it H x) (frS 37 [(0, rS af (l.length + 80) cf), (2, (.raw (.int .u8 x))), (6, (sB false)), (7, (sI ((l.length + k : Nat) : Int)))]) ∧ h = denH (it H x)) ?_ 80 _ _ ⟨0, rfl, rfl, rfl⟩
  rintro m t h ⟨k, hk, rfl, rfl⟩
  by_cases hlt : k < 80
  · have hg : (l ++ List.replicate 80 x)[l.length + k]? = some x := by
      rw [List.getElem?_append_right (by omega), Nat.add_sub_cancel_left, List.getElem?_replicate, if_pos hlt]
    obtain ⟨b1, o1, r1⟩ := hf.rowM hg
    refine Wp.tree (cE_ok 0) (tree66t af (l.length + 80) cf ((l.length + k : Nat) : Int) x x b1 o1 H) ⟨rfl, rfl⟩ ⟨fun _ => ⟨r1.ptr _ _, r1.one _, by simp, end_next (m - 1) (by omega) ⟨k + 1, by omega, ?_, rfl⟩⟩, fun q => by simp at q; omega⟩
    rw [wrap64 (by omega) (by omega)]; rfl
  · refine Wp.tree (cE_ok 0) (tree66t af (l.length + 80) cf ((l.length + k : Nat) : Int) x x 0 0 H) ⟨rfl, rfl⟩ ⟨fun q => by simp at q; omega, fun _ => end_exit ⟨rfl, by show denF _ _ = denF _ _; kernel_rfl, rfl⟩⟩
theorem sim {H : Heap} {a b : Value} {x : Int} {l : List Int} (ha : RowsW 1 H a ((l ++ List.replicate 80 x).map br)) (hs : RowsW 1 H b (l.map br)) (hb : l.length ≤ 1000000000) : Sim Try.prog 66 [a, b, (.int .u8 x)] H fun v h' => v = .bool true ∧ h' = H := by
  obtain ⟨af, cf, rfl⟩ := ha.slcM
  obtain ⟨aa, ca, rfl⟩ := hs.slcM
  rw [List.length_append, List.length_replicate] at ha ⊢
  obtain ⟨u, hcu, hu⟩ := ha.cutM (lo := 0) (hi := l.length) (by omega) (by simp) none (some (.const (.int .i64 l.length))) (.inl ⟨rfl, rfl⟩) (.inr rfl)
  rw [List.drop_zero, List.take_left] at hu
  obtain ⟨au, cu, rfl⟩ := hu.slcM
  have hu0 : RowsW 1 (denH [.seg H]) (.slice au l.length cu) (l.map br) := by simpa [denH, denL, It.den] using hu
  have hs0 : RowsW 1 (denH [.seg H]) (.slice aa l.length ca) (l.map br) := by simpa [denH, denL, It.den] using hs
  have eS := callSame br_1 (hu0.up (I := [.seg H]) rfl []) (hs0.up (I := [.seg H]) rfl []) (by omega)
  rw [same_t rfl] at eS
  refine (Sim.plain (R := fun v => v = .bool true) ?_ (fun v hv => by subst hv; rfl)).mono fun v h' q => q
  have := fnS_tree (Q := fun v h' => v = .bool true ∧ ∃ X, h' = H ++ X) mixed (gE_ok 0) (gE_q 0) (cE_ok 0) st66 (tree66 af au aa (l.length + 80) l.length l.length cf cu ca (l.length + 80) x H) ⟨rfl, rfl⟩ ⟨?_, by simp, hcu _, opA_call (args := [_, _]) rfl eS, loop ha hb, rfl, [], by simp [denH, denL, It.den]⟩
  · simpa [denH, denL, It.den, denF, denV, denA, den0] using this
  · simp only [opA, pureA, ev, binA, intBin, if_true]
    congr 3
    rw [wrap64 (by omega) (by omega)]; omega
/-- The summary of Intact, of what is as it was. -/
def pre (p : List Int × Int) (args : List Value) (h : Heap) : Prop := ∃ a b x, x = p.2 ∧ args = [a, b, (.int .u8 x)] ∧ RowsW 1 h a ((p.1 ++ List.replicate 80 p.2).map br) ∧ RowsW 1 h b (p.1.map br) ∧ p.1.length ≤ 1000000000
def res (p : List Int × Int) (h : Heap) : Value × Heap := (.bool true, h)
theorem summ : Summ Try.prog 66 (smry pre res) := smry_ok fun p args h ⟨a, b, x, ex, e, ha, hs, hb⟩ => by subst e ex; exact sim ha hs hb
theorem call {h : Heap} {a b : Value} {l : List Int} {x : Int} (ha : RowsW 1 h a ((l ++ List.replicate 80 x).map br)) (hs : RowsW 1 h b (l.map br)) (hb : l.length ≤ 1000000000) : smry pre res [a, b, (.int .u8 x)] h = some (.bool true, h) :=
  smry_some (x := (l, x)) ⟨a, b, x, rfl, rfl, ha, hs, hb⟩ fun _ _ => rfl
end T66
namespace R53
open WB (gE cE gE_ok gE_q cE_ok)
/-- cascade/cascadebook.Roomy[cascade/api.Line] -/
def il53 : FnIL := ⟨27, [.tmp 4],
 .seq (.reg [
    ⟨(some 3), none, .box (.tmp 1)⟩,
    ⟨(some 4), none, .mov (.const (.slice none 0 0))⟩])
 (.seq (.reg [
    ⟨(some 7), none, .mov (.tmp 0)⟩,
    ⟨(some 8), none, .len (.tmp 7)⟩,
    ⟨(some 9), none, .bin .add (.tmp 8) (.const (.int .i64 80))⟩,
    ⟨(some 10), none, .mkslice 7 56 [(.int .i64 0), (.int .i64 0), (.int .i64 0), (.int .i64 0), (.int .i64 0), (.int .i64 0), (.bool false)] (.tmp 9) (.tmp 9)⟩,
    ⟨(some 5), none, .mov (.tmp 10)⟩])
 (.seq (.reg [
    ⟨(some 11), none, .mov (.tmp 5)⟩,
    ⟨(some 12), none, .mov (.tmp 0)⟩,
    ⟨(some 13), none, .copy 7 (.tmp 11) (.tmp 12)⟩])
 (.seq (.seq (.reg [
     ⟨(some 14), none, .mov (.tmp 0)⟩,
     ⟨(some 15), none, .len (.tmp 14)⟩,
     ⟨(some 6), none, .mov (.tmp 15)⟩])
  (.block 0
    (.loop
      (.seq (.seq (.reg [
          ⟨(some 16), none, .mov (.tmp 6)⟩,
          ⟨(some 17), none, .mov (.tmp 5)⟩,
          ⟨(some 18), none, .len (.tmp 17)⟩,
          ⟨(some 19), none, .bin .lss (.tmp 16) (.tmp 18)⟩])
       (.ite (.tmp 19)
         (.skip)
         (.exit 0)))
      (.seq (.block 1
         (.reg [
           ⟨(some 22), none, .mov (.tmp 5)⟩,
           ⟨(some 23), none, .mov (.tmp 6)⟩,
           ⟨(some 24), none, .load (.tmp 3) (some 7)⟩,
           ⟨(some 25), none, .iadr 7 none (.tmp 22) (.tmp 23)⟩,
           ⟨none, none, .store (.tmp 25) (.tmp 24) 7⟩]))
      (.reg [
        ⟨(some 20), none, .mov (.tmp 6)⟩,
        ⟨(some 21), none, .bin .add (.tmp 20) (.const (.int .i64 1))⟩,
        ⟨(some 6), none, .mov (.tmp 21)⟩]))))))
 (.seq (.reg [
    ⟨(some 26), none, .mov (.tmp 5)⟩,
    ⟨(some 4), none, .mov (.tmp 26)⟩])
 (.ret)))))⟩
theorem st53 : stF Try.prog qt 53 = some il53 := by kernel_rfl
def body53_0 : IL := .seq (.seq (.reg [
     ⟨(some 16), none, .mov (.tmp 6)⟩,
     ⟨(some 17), none, .mov (.tmp 5)⟩,
     ⟨(some 18), none, .len (.tmp 17)⟩,
     ⟨(some 19), none, .bin .lss (.tmp 16) (.tmp 18)⟩])
  (.ite (.tmp 19)
    (.skip)
    (.exit 0)))
 (.seq (.block 1
    (.reg [
      ⟨(some 22), none, .mov (.tmp 5)⟩,
      ⟨(some 23), none, .mov (.tmp 6)⟩,
      ⟨(some 24), none, .load (.tmp 3) (some 7)⟩,
      ⟨(some 25), none, .iadr 7 none (.tmp 22) (.tmp 23)⟩,
      ⟨none, none, .store (.tmp 25) (.tmp 24) 7⟩]))
 (.reg [
   ⟨(some 20), none, .mov (.tmp 6)⟩,
   ⟨(some 21), none, .bin .add (.tmp 20) (.const (.int .i64 1))⟩,
   ⟨(some 6), none, .mov (.tmp 21)⟩]))
def hn53t (fa : Addr) (m : Nat) (i x0 x1 x2 x3 x4 x5 : Int) (xb : Bool) (B o : Nat) (H J0 J1 : Heap) : Hs := (.sym (.pur 22000025 (.pointer (some ⟨B, o, none⟩)) (.use 8009999 (.raw (.tuple ⟨[]⟩)) ⟨[(2, .seg J1)], []⟩ .nil)) .nil)
theorem tree53t (fa : Addr) (m : Nat) (i x0 x1 x2 x3 x4 x5 : Int) (xb : Bool) (B o : Nat) (H J0 J1 : Heap) : pieceS [] (gE 0) (cE 0) 100 (fun i => exL i body53_0 || inL [4, 5] i) body53_0 (hn53t fa m i x0 x1 x2 x3 x4 x5 xb B o H J0 J1) (frS 27 [(3, (.ptr 1 0)), (4, (.raw (.slice none 0 0))), (5, (.raw (.slice (some fa) m m))), (6, (sI i))]) [.seg H, .blk .fix [(sI x0), (sI x1), (sI x2), (sI x3), (sI x4), (sI x5), (sB xb)], .seg J0] =
(.br (decide (i < (m : Int)))
 (.claim (opA (Plain.env [] (gE 0)) (.iadr 7 none (.const (.slice (some fa) m m)) (.const (.int .i64 i))) [] [] = some ((.pointer (some ⟨B, o, none⟩)), []))
 (.claim (List.length J1 = List.length J0) (.claim (opA (Plain.env [] (gE 0)) (.store (.const (.pointer (some ⟨B, o, none⟩))) (.const (.agg ⟨[(.int .i64 x0), (.int .i64 x1), (.int .i64 x2), (.int .i64 x3), (.int .i64 x4), (.int .i64 x5), (.bool xb)]⟩)) 7) [] (denH [.seg H, .blk .fix [(sI x0), (sI x1), (sI x2), (sI x3), (sI x4), (sI x5), (sB xb)], .seg J0]) = some ((.tuple ⟨[]⟩), denH [.seg H, .blk .fix [(sI x0), (sI x1), (sI x2), (sI x3), (sI x4), (sI x5), (sB xb)], .seg J1]))
 (.ret .normal (frS 27 [(3, (.ptr 1 0)), (4, (.raw (.slice none 0 0))), (5, (.raw (.slice (some fa) m m))), (6, (sI (IntKind.wrap .i64 (i + 1))))]) [.seg H, .blk .fix [(sI x0), (sI x1), (sI x2), (sI x3), (sI x4), (sI x5), (sB xb)], .seg J1]))))
 (.ret (.exit 0) (frS 27 [(3, (.ptr 1 0)), (4, (.raw (.slice none 0 0))), (5, (.raw (.slice (some fa) m m))), (6, (sI i))]) [.seg H, .blk .fix [(sI x0), (sI x1), (sI x2), (sI x3), (sI x4), (sI x5), (sB xb)], .seg J0])) := by kernel_rfl
def hn53 (aa : Option Addr) (na ca m : Nat) (x0 x1 x2 x3 x4 x5 : Int) (xb : Bool) (fa : Addr) (H J0 J1 J2 : Heap) : Hs := (.pur 10000009 (.int .i64 (m : Int)) (.use 16000010 (.raw (.slice (some fa) m m)) ⟨[], [.seg J0]⟩ (.use 31000013 (sI (na : Int)) ⟨[(2, .seg J1)], []⟩ (.lp 0 [4, 5] (frS 27 [(4, (.raw (.slice none 0 0))), (5, (.raw (.slice (some fa) m m)))]) ⟨[(2, .seg J2)], []⟩ .nil))))
theorem tree53 (aa : Option Addr) (na ca m : Nat) (x0 x1 x2 x3 x4 x5 : Int) (xb : Bool) (fa : Addr) (H J0 J1 J2 : Heap) : fnS [] (gE 0) (cE 0) 100 il53 (hn53 aa na ca m x0 x1 x2 x3 x4 x5 xb fa H J0 J1 J2) [(.raw (.slice aa na ca)), (.raw (.agg ⟨[(.int .i64 x0), (.int .i64 x1), (.int .i64 x2), (.int .i64 x3), (.int .i64 x4), (.int .i64 x5), (.bool xb)]⟩))] [.seg H] =
(.claim (opA (Plain.env [] (gE 0)) (.bin .add (.const (.int .i64 (na : Int))) (.const (.int .i64 80))) [] [] = some ((.int .i64 (m : Int)), []))
 (.claim (opA (Plain.env [] (gE 0)) (.mkslice 7 56 [(.int .i64 0), (.int .i64 0), (.int .i64 0), (.int .i64 0), (.int .i64 0), (.int .i64 0), (.bool false)] (.const (.int .i64 (m : Int))) (.const (.int .i64 (m : Int)))) [] (denH [.seg H, .blk .fix [(sI x0), (sI x1), (sI x2), (sI x3), (sI x4), (sI x5), (sB xb)]]) = some ((.slice (some fa) m m), denH [.seg H, .blk .fix [(sI x0), (sI x1), (sI x2), (sI x3), (sI x4), (sI x5), (sB xb)], .seg J0]))
 (.claim (List.length J1 = List.length J0) (.claim (opA (Plain.env [] (gE 0)) (.copy 7 (.const (.slice (some fa) m m)) (.const (.slice aa na ca))) [] (denH [.seg H, .blk .fix [(sI x0), (sI x1), (sI x2), (sI x3), (sI x4), (sI x5), (sB xb)], .seg J0]) = some ((.int .i64 (na : Int)), denH [.seg H, .blk .fix [(sI x0), (sI x1), (sI x2), (sI x3), (sI x4), (sI x5), (sB xb)], .seg J1]))
 (.claim (List.length J2 = List.length J1) (.claim (Wp (Plain.env [] (gE 0)) (inL [4, 5]) (.block 0 (.loop body53_0)) (denF [.seg H, .blk .fix [(sI x0), (sI x1), (sI x2), (sI x3), (sI x4), (sI x5), (sB xb)], .seg J1] (frS 27 [(3, (.ptr 1 0)), (4, (.raw (.slice none 0 0))), (5, (.raw (.slice (some fa) m m))), (6, (sI (na : Int)))])) (denH [.seg H, .blk .fix [(sI x0), (sI x1), (sI x2), (sI x3), (sI x4), (sI x5), (sB xb)], .seg J1]) fun e_ s_ h_ => e_ = .normal ∧ s_ = denF [.seg H, .blk .fix [(sI x0), (sI x1), (sI x2), (sI x3), (sI x4), (sI x5), (sB xb)], .seg J2] (frS 27 [(4, (.raw (.slice none 0 0))), (5, (.raw (.slice (some fa) m m)))]) ∧ h_ = denH [.seg H, .blk .fix [(sI x0), (sI x1), (sI x2), (sI x3), (sI x4), (sI x5), (sB xb)], .seg J2])
 (.ret .ret [(.raw (.slice (some fa) m m))] [.seg H, .blk .fix [(sI x0), (sI x1), (sI x2), (sI x3), (sI x4), (sI x5), (sB xb)], .seg J2]))))))) := by kernel_rfl
abbrev fa (H : Heap) (x : R7) : Addr := ⟨((H ++ [some ⟨.fix, e7 x⟩]) : Heap).length, 0, none⟩
abbrev it (H J : Heap) (x : R7) : SH := [.seg H, .blk .fix [sI x.a, sI x.b, sI x.c, sI x.d, sI x.e, sI x.f, sB x.g], .seg J]
theorem it_eq (H : Heap) (x : R7) (J : Heap) : denH (it H J x) = (H ++ [some ⟨.fix, e7 x⟩]) ++ J := by simp [denH, denL, It.den, den0, e7]
theorem loop {H : Heap} {x : R7} {l : List R7} (hb : l.length ≤ 1000000000) :
    Wp (Plain.env [] (gE 0)) (inL [4, 5]) (.block 0 (.loop body53_0)) (denF (it H [fxB (l.map e7 ++ List.replicate 80 [.int .i64 0, .int .i64 0, .int .i64 0, .int .i64 0, .int .i64 0, .int .i64 0, .bool false])] x) (frS 27 [(3, .ptr 1 0), (4, nS), (5, rS (some (fa H x)) (l.length + 80) (l.length + 80)), (6, (sI l.length))])) (denH (it H [fxB (l.map e7 ++ List.replicate 80 [.int .i64 0, .int .i64 0, .int .i64 0, .int .i64 0, .int .i64 0, .int .i64 0, .bool false])] x)) fun e s h => e = .normal ∧ s = denF (it H [fxB (RM.rows e7 l x)] x) (frS 27 [(4, nS), (5, rS (some (fa H x)) (l.length + 80) (l.length + 80))]) ∧ h = denH (it H [fxB (RM.rows e7 l x)] x) := by
  refine Wp.bl (fun m t h => ∃ k : Nat, k + m = 80 ∧ t = denF (it H [fxB (l.map e7 ++ List.replicate k (e7 x) ++ List.replicate m [.int .i64 0, .int .i64 0, .int .i64 0, .int .i64 0, .int .i64 0, .int .i64 0, .bool false])] x) (frS 27 [(3, .ptr 1 0), (4, nS), (5, rS (some (fa H x)) (l.length + 80) (l.length + 80)), (6, (sI ((l.length + k : Nat) : Int)))]) ∧ h = denH (it H [fxB (l.map e7 ++ List.replicate k (e7 x) ++ List.replicate m [.int .i64 0, .int .i64 0, .int .i64 0, .int .i64 0, .int .i64 0, .int .i64 0, .bool false])] x)) ?_ 80 _ _ ⟨0, rfl, by simp only [List.replicate_zero, List.append_nil, Nat.add_zero], by simp only [List.replicate_zero, List.append_nil]⟩
  rintro m t h ⟨k, hk, rfl, rfl⟩
  cases m with
  | succ m =>
    obtain ⟨g1, g2⟩ := st_fx (w := 7) (H := (H ++ [some ⟨.fix, e7 x⟩])) (X := []) (rows := l.map e7 ++ List.replicate k (e7 x) ++ List.replicate (m + 1) [.int .i64 0, .int .i64 0, .int .i64 0, .int .i64 0, .int .i64 0, .int .i64 0, .bool false]) (RM.half_w (enc := e7) (w := 7) (z := [.int .i64 0, .int .i64 0, .int .i64 0, .int .i64 0, .int .i64 0, .int .i64 0, .bool false]) (fun _ => rfl) rfl l x k (m + 1)) (n := l.length + 80) (c := l.length + 80) (vs := e7 x) (RM.half_get (enc := e7) (z := [.int .i64 0, .int .i64 0, .int .i64 0, .int .i64 0, .int .i64 0, .int .i64 0, .bool false]) l x k m) rfl (by omega)
    rw [RM.half_set] at g2
    have tr := tree53t (fa H x) (l.length + 80) ((l.length + k : Nat) : Int) x.a x.b x.c x.d x.e x.f x.g ((H ++ [some ⟨.fix, e7 x⟩]) : Heap).length ((l.length + k) * 7) H [fxB (l.map e7 ++ List.replicate k (e7 x) ++ List.replicate (m + 1) [.int .i64 0, .int .i64 0, .int .i64 0, .int .i64 0, .int .i64 0, .int .i64 0, .bool false])] [fxB (l.map e7 ++ List.replicate (k + 1) (e7 x) ++ List.replicate m [.int .i64 0, .int .i64 0, .int .i64 0, .int .i64 0, .int .i64 0, .int .i64 0, .bool false])]
    refine Wp.tree (cE_ok 0) tr ⟨rfl, rfl⟩ ⟨fun _ => ⟨g1 _ _, rfl, ?_, end_next m (by omega) ⟨k + 1, by omega, ?_, rfl⟩⟩, fun q => by simp at q; omega⟩
    · have := g2 (Plain.env [] (gE 0)) (.agg ⟨e7 x⟩) rfl rfl
      rw [← it_eq H x, ← it_eq H x] at this
      exact this
    · rw [wrap64 (by omega) (by omega)]; rfl
  | zero =>
    have tr := tree53t (fa H x) (l.length + 80) ((l.length + k : Nat) : Int) x.a x.b x.c x.d x.e x.f x.g 0 0 H [fxB (l.map e7 ++ List.replicate k (e7 x) ++ List.replicate 0 [.int .i64 0, .int .i64 0, .int .i64 0, .int .i64 0, .int .i64 0, .int .i64 0, .bool false])] []
    refine Wp.tree (cE_ok 0) tr ⟨rfl, rfl⟩ ⟨fun q => by simp at q; omega, fun _ => end_exit ⟨rfl, ?_, ?_⟩⟩
    · have hk8 : k = 80 := by omega
      subst hk8
      rw [RM.rows_eq, List.replicate_zero, List.append_nil]
      show denF _ _ = denF _ _; kernel_rfl
    · have hk8 : k = 80 := by omega
      subst hk8
      rw [RM.rows_eq, List.replicate_zero, List.append_nil]
theorem sim {H : Heap} {s : Value} {x : R7} {l : List R7} (hs : RowsW 7 H s (l.map e7)) (hb : l.length ≤ 1000000000) : Sim Try.prog 53 [s, (.agg ⟨e7 x⟩)] H fun v h' => v = .slice (some (fa H x)) (l.length + 80) (l.length + 80) ∧ h' = denH (it H [fxB (RM.rows e7 l x)] x) := by
  obtain ⟨aa, ca, rfl⟩ := hs.slcM
  have hz : RowsW 7 ((H ++ [some ⟨.fix, e7 x⟩]) ++ [fxB (List.replicate (l.length + 80) [.int .i64 0, .int .i64 0, .int .i64 0, .int .i64 0, .int .i64 0, .int .i64 0, .bool false])]) (.slice aa l.length ca) (l.map e7) := by
    have := hs.app ([some ⟨.fix, e7 x⟩] ++ [fxB (List.replicate (l.length + 80) [.int .i64 0, .int .i64 0, .int .i64 0, .int .i64 0, .int .i64 0, .int .i64 0, .bool false])])
    simpa using this
  have mk := mk_fx (w := 7) (eby := 56) (z := [.int .i64 0, .int .i64 0, .int .i64 0, .int .i64 0, .int .i64 0, .int .i64 0, .bool false]) (m := l.length + 80) (H := (H ++ [some ⟨.fix, e7 x⟩])) rfl (by omega) (by omega) (Plain.env [] (gE 0))
  have cp := cp_fx (w := 7) (H := (H ++ [some ⟨.fix, e7 x⟩])) (old := List.replicate (l.length + 80) [.int .i64 0, .int .i64 0, .int .i64 0, .int .i64 0, .int .i64 0, .int .i64 0, .bool false]) hz (fun r hr => by rw [(List.mem_replicate.1 hr).2]; rfl) (flen _ (fun _ => rfl)) (n := l.length + 80) (by simp) (by simp) (Plain.env [] (gE 0))
  rw [List.length_map, List.drop_replicate, show l.length + 80 - l.length = 80 by omega] at cp
  have lp := loop (H := H) (x := x) hb
  obtain ⟨J0, e0⟩ : ∃ J : Heap, J = [fxB (List.replicate (l.length + 80) [.int .i64 0, .int .i64 0, .int .i64 0, .int .i64 0, .int .i64 0, .int .i64 0, .bool false])] := ⟨_, rfl⟩
  obtain ⟨J1, e1⟩ : ∃ J : Heap, J = [fxB (l.map e7 ++ List.replicate 80 [.int .i64 0, .int .i64 0, .int .i64 0, .int .i64 0, .int .i64 0, .int .i64 0, .bool false])] := ⟨_, rfl⟩
  obtain ⟨J2, e2⟩ : ∃ J : Heap, J = [fxB (RM.rows e7 l x)] := ⟨_, rfl⟩
  have q1 : J1.length = J0.length := by rw [e0, e1]; rfl
  have q2 : J2.length = J1.length := by rw [e2, e1]; rfl
  rw [← e0] at mk cp
  rw [← e1] at cp lp
  rw [← e2] at lp
  rw [← e2]
  clear e0 e1 e2
  have := fnS_tree (Q := fun v h' => v = .slice (some (fa H x)) (l.length + 80) (l.length + 80) ∧ h' = denH (it H J2 x)) mixed (gE_ok 0) (gE_q 0) (cE_ok 0) st53 (tree53 aa l.length ca (l.length + 80) x.a x.b x.c x.d x.e x.f x.g (fa H x) H J0 J1 J2) ⟨rfl, rfl⟩ ⟨?_, ?_, q1, ?_, q2, lp, rfl, rfl⟩
  · simpa [denH, denL, It.den, denF, denV, denA, den0, e7] using this
  · simp only [opA, pureA, ev, binA, intBin, if_true]
    congr 3
    rw [wrap64 (by omega) (by omega)]; omega
  · rw [show denH [.seg H, .blk .fix [sI x.a, sI x.b, sI x.c, sI x.d, sI x.e, sI x.f, sB x.g]] = (H ++ [some ⟨.fix, e7 x⟩]) from by simp [denH, denL, It.den, den0, e7], show denH [.seg H, .blk .fix [sI x.a, sI x.b, sI x.c, sI x.d, sI x.e, sI x.f, sB x.g], .seg J0] = (H ++ [some ⟨.fix, e7 x⟩]) ++ J0 from it_eq H x _]
    exact mk
  · rw [show denH [.seg H, .blk .fix [sI x.a, sI x.b, sI x.c, sI x.d, sI x.e, sI x.f, sB x.g], .seg J0] = (H ++ [some ⟨.fix, e7 x⟩]) ++ J0 from it_eq H x _, show denH [.seg H, .blk .fix [sI x.a, sI x.b, sI x.c, sI x.d, sI x.e, sI x.f, sB x.g], .seg J1] = (H ++ [some ⟨.fix, e7 x⟩]) ++ J1 from it_eq H x _]
    exact cp
/-- The summary of Roomy. -/
def pre (p : List R7 × R7) (args : List Value) (h : Heap) : Prop := ∃ s x, x = p.2 ∧ args = [s, (.agg ⟨e7 x⟩)] ∧ RowsW 7 h s (p.1.map e7) ∧ p.1.length ≤ 1000000000
def res (p : List R7 × R7) (h : Heap) : Value × Heap := (.slice (some (fa h p.2)) (p.1.length + 80) (p.1.length + 80), denH (it h [fxB (RM.rows e7 p.1 p.2)] p.2))
theorem summ : Summ Try.prog 53 (smry pre res) := smry_ok fun p args h ⟨s, x, ex, e, hs, hb⟩ => by subst e ex; exact sim hs hb
theorem use {I : SH} (hI : I.all (It.bnd I.length) = true) {s : Value} {l : List R7} {x : R7} (hs : RowsW 7 (denH I) s (l.map e7)) (hb : l.length ≤ 1000000000) :
    ∃ a X, smry pre res [s, (.agg ⟨e7 x⟩)] (denH I) = some (.slice (some a) (l.length + 80) (l.length + 80), denH (I ++ [.seg X])) ∧ RowsW 7 (denH (I ++ [.seg X])) (.slice (some a) (l.length + 80) (l.length + 80)) ((l ++ List.replicate 80 x).map e7) := by
  have e : denH (I ++ [.seg (some ⟨.fix, e7 x⟩ :: [fxB (RM.rows e7 l x)])]) = denH (it (denH I) [fxB (RM.rows e7 l x)] x) := by
    rw [denH_snoc I hI, it_eq]; simp
  refine ⟨fa (denH I) x, some ⟨.fix, e7 x⟩ :: [fxB (RM.rows e7 l x)], ?_, ?_⟩
  · rw [e]
    exact smry_some (x := (l, x)) ⟨s, x, rfl, rfl, hs, hb⟩ fun y ⟨s', x', ex, e', hs', _⟩ => by
      simp only [List.cons.injEq, and_true] at e'
      obtain ⟨rfl, e'⟩ := e'
      have h1 := map_inj e7_1 (hs.uniq hs')
      have h2 : x = x' := e7_1 _ _ (by simpa using e')
      obtain ⟨y1, y2⟩ := y
      simp only at h1 ex
      subst h1 h2 ex
      rfl
  · rw [e, it_eq]
    exact fx_rows (w := 7) (H := ((denH I) ++ [some ⟨.fix, e7 x⟩])) (X := []) (rows := RM.rows e7 l x) (RM.rows_w (enc := e7) (w := 7) (fun _ => rfl) l x) (n := l.length + 80) (by simp only [RM.rows, List.length_map, List.length_append, List.length_replicate])
end R53
namespace T55
noncomputable def gK : Env := fun f => match f with
  | 62 => smry (preSame 7 e7) resSame
  | _ => fun _ _ => none
theorem gK_ok : EnvOk Try.prog gK := fun f => by
  unfold gK
  split
  · exact S62.sim
  · exact fun args h v h' e => by cases e
theorem gK_q : QuietEnv qt gK := fun f args h v h' hf e => by cases hf
noncomputable abbrev gE (k : Nat) : Env := inE [] [] k gK
noncomputable abbrev cE (k : Nat) : CallS := callS [] [] gK 100 k
theorem gE_q (k : Nat) : QuietEnv qt (Plain.env [] (gE k)) := Plain.quiet (inE_quiet gK_q (fun f F h => by cases h) k)
theorem gE_ok (k : Nat) : EnvOk Try.prog (Plain.env [] (gE k)) := Plain.ok .nil (inE_ok (qt := qt) mixed .nil .nil (fun f F h => by cases h) gK_ok gK_q k)
theorem cE_ok (k : Nat) : CallOk (Plain.env [] (gE k)) (cE k) := callS_ok k
/-- cascade/cascadebook.Intact[cascade/api.Line] -/
def il55 : FnIL := ⟨37, [.tmp 6],
 .seq (.reg [
    ⟨(some 5), none, .box (.tmp 2)⟩,
    ⟨(some 6), none, .mov (.const (.bool false))⟩])
 (.seq (.seq (.reg [
     ⟨(some 8), none, .mov (.tmp 0)⟩,
     ⟨(some 9), none, .len (.tmp 8)⟩,
     ⟨(some 10), none, .mov (.tmp 1)⟩,
     ⟨(some 11), none, .len (.tmp 10)⟩,
     ⟨(some 12), none, .bin .add (.tmp 11) (.const (.int .i64 80))⟩,
     ⟨(some 13), none, .bin .neq (.tmp 9) (.tmp 12)⟩,
     ⟨(some 14), none, .mov (.tmp 13)⟩,
     ⟨(some 15), (some (14, false)), .mov (.tmp 0)⟩,
     ⟨(some 16), (some (14, false)), .mov (.tmp 1)⟩,
     ⟨(some 17), (some (14, false)), .len (.tmp 16)⟩,
     ⟨(some 18), (some (14, false)), .slice 7 (.tmp 15) none (some (.tmp 17)) none⟩,
     ⟨(some 19), (some (14, false)), .mov (.tmp 1)⟩,
     ⟨(some 20), (some (14, false)), .call 62 [(.tmp 18), (.tmp 19)]⟩,
     ⟨(some 21), (some (14, false)), .un .not (.tmp 20)⟩,
     ⟨(some 22), none, .pick (.tmp 14) (.const (.bool true)) (.tmp 21)⟩])
  (.ite (.tmp 22)
    (.seq (.reg [
       ⟨(some 6), none, .mov (.const (.bool false))⟩])
    (.ret))
    (.skip)))
 (.seq (.seq (.reg [
     ⟨(some 23), none, .mov (.tmp 1)⟩,
     ⟨(some 24), none, .len (.tmp 23)⟩,
     ⟨(some 7), none, .mov (.tmp 24)⟩])
  (.block 0
    (.loop
      (.seq (.seq (.reg [
          ⟨(some 25), none, .mov (.tmp 7)⟩,
          ⟨(some 26), none, .mov (.tmp 0)⟩,
          ⟨(some 27), none, .len (.tmp 26)⟩,
          ⟨(some 28), none, .bin .lss (.tmp 25) (.tmp 27)⟩])
       (.ite (.tmp 28)
         (.skip)
         (.exit 0)))
      (.seq (.block 1
         (.seq (.dreg [
            ⟨(some 31), none, .mov (.tmp 0)⟩,
            ⟨(some 32), none, .mov (.tmp 7)⟩,
            ⟨(some 33), none, .iadr 7 none (.tmp 31) (.tmp 32)⟩,
            ⟨(some 34), none, .load (.tmp 33) (some 7)⟩,
            ⟨(some 35), none, .load (.tmp 5) (some 7)⟩,
            ⟨(some 36), none, .eqv true (.cells [false, false, false, false, false, false, true]) (.tmp 34) (.tmp 35)⟩] [])
         (.ite (.tmp 36)
           (.seq (.reg [
              ⟨(some 6), none, .mov (.const (.bool false))⟩])
           (.ret))
           (.skip))))
      (.reg [
        ⟨(some 29), none, .mov (.tmp 7)⟩,
        ⟨(some 30), none, .bin .add (.tmp 29) (.const (.int .i64 1))⟩,
        ⟨(some 7), none, .mov (.tmp 30)⟩]))))))
 (.seq (.reg [
    ⟨(some 6), none, .mov (.const (.bool true))⟩])
 (.ret))))⟩
theorem st55 : stF Try.prog qt 55 = some il55 := by kernel_rfl
def body55_0 : IL := .seq (.seq (.reg [
     ⟨(some 25), none, .mov (.tmp 7)⟩,
     ⟨(some 26), none, .mov (.tmp 0)⟩,
     ⟨(some 27), none, .len (.tmp 26)⟩,
     ⟨(some 28), none, .bin .lss (.tmp 25) (.tmp 27)⟩])
  (.ite (.tmp 28)
    (.skip)
    (.exit 0)))
 (.seq (.block 1
    (.seq (.dreg [
       ⟨(some 31), none, .mov (.tmp 0)⟩,
       ⟨(some 32), none, .mov (.tmp 7)⟩,
       ⟨(some 33), none, .iadr 7 none (.tmp 31) (.tmp 32)⟩,
       ⟨(some 34), none, .load (.tmp 33) (some 7)⟩,
       ⟨(some 35), none, .load (.tmp 5) (some 7)⟩,
       ⟨(some 36), none, .eqv true (.cells [false, false, false, false, false, false, true]) (.tmp 34) (.tmp 35)⟩] [])
    (.ite (.tmp 36)
      (.seq (.reg [
         ⟨(some 6), none, .mov (.const (.bool false))⟩])
      (.ret))
      (.skip))))
 (.reg [
   ⟨(some 29), none, .mov (.tmp 7)⟩,
   ⟨(some 30), none, .bin .add (.tmp 29) (.const (.int .i64 1))⟩,
   ⟨(some 7), none, .mov (.tmp 30)⟩]))
def hn55t (af : Option Addr) (nf cf : Nat) (i x0 x1 x2 x3 x4 x5 y0 y1 y2 y3 y4 y5 : Int) (xb : Bool) (yb : Bool) (b1 o1 : Nat) (H : Heap) : Hs := (.sym (.pur 22000033 (.pointer (some ⟨b1, o1, none⟩)) (.bas 7000034 (.agg ⟨[(.int .i64 y0), (.int .i64 y1), (.int .i64 y2), (.int .i64 y3), (.int .i64 y4), (.int .i64 y5), (.bool yb)]⟩) (.no .nil))) .nil)
theorem tree55t (af : Option Addr) (nf cf : Nat) (i x0 x1 x2 x3 x4 x5 y0 y1 y2 y3 y4 y5 : Int) (xb : Bool) (yb : Bool) (b1 o1 : Nat) (H : Heap) : pieceS [] (gE 0) (cE 0) 100 (fun i => exL i body55_0 || inL [6] i) body55_0 (hn55t af nf cf i x0 x1 x2 x3 x4 x5 y0 y1 y2 y3 y4 y5 xb yb b1 o1 H) (frS 37 [(0, (.raw (.slice af nf cf))), (5, (.ptr 1 0)), (6, (sB false)), (7, (sI i))]) [.seg H, .blk .fix [(sI x0), (sI x1), (sI x2), (sI x3), (sI x4), (sI x5), (sB xb)]] =
(.br (decide (i < (nf : Int)))
 (.req true (.claim (opA (Plain.env [] (gE 0)) (.iadr 7 none (.const (.slice af nf cf)) (.const (.int .i64 i))) [] [] = some ((.pointer (some ⟨b1, o1, none⟩)), []))
 (.claim (opA (Plain.env [] (gE 0)) (.load (.const (.pointer (some ⟨b1, o1, none⟩))) (some 7)) [] H = some ((.agg ⟨[(.int .i64 y0), (.int .i64 y1), (.int .i64 y2), (.int .i64 y3), (.int .i64 y4), (.int .i64 y5), (.bool yb)]⟩), H))
 (.req (!(!((y0 == x0) && ((y1 == x1) && ((y2 == x2) && ((y3 == x3) && ((y4 == x4) && ((y5 == x5) && ((yb == xb) && true))))))))) (.ret .normal (frS 37 [(0, (.raw (.slice af nf cf))), (5, (.ptr 1 0)), (6, (sB false)), (7, (sI (IntKind.wrap .i64 (i + 1))))]) [.seg H, .blk .fix [(sI x0), (sI x1), (sI x2), (sI x3), (sI x4), (sI x5), (sB xb)]])))))
 (.ret (.exit 0) (frS 37 [(0, (.raw (.slice af nf cf))), (5, (.ptr 1 0)), (6, (sB false)), (7, (sI i))]) [.seg H, .blk .fix [(sI x0), (sI x1), (sI x2), (sI x3), (sI x4), (sI x5), (sB xb)]])) := by kernel_rfl
def hn55 (af au aa : Option Addr) (nf nu na cf cu ca m : Nat) (x0 x1 x2 x3 x4 x5 : Int) (xb : Bool) (H : Heap) : Hs := (.pur 10000012 (.int .i64 (m : Int)) (.no (.con (.con (.con (.bas 17000018 (.slice au nu cu) (.con (.con (.use 26000020 (sB true) ⟨[], []⟩ (.con (.con (.con (.lp 0 [6] (frS 37 [(6, (sB false))]) ⟨[], []⟩ .nil)))))))))))))
theorem tree55 (af au aa : Option Addr) (nf nu na cf cu ca m : Nat) (x0 x1 x2 x3 x4 x5 : Int) (xb : Bool) (H : Heap) : fnS [] (gE 0) (cE 0) 100 il55 (hn55 af au aa nf nu na cf cu ca m x0 x1 x2 x3 x4 x5 xb H) [(.raw (.slice af nf cf)), (.raw (.slice aa na ca)), (.raw (.agg ⟨[(.int .i64 x0), (.int .i64 x1), (.int .i64 x2), (.int .i64 x3), (.int .i64 x4), (.int .i64 x5), (.bool xb)]⟩))] [.seg H] =
(.claim (opA (Plain.env [] (gE 0)) (.bin .add (.const (.int .i64 (na : Int))) (.const (.int .i64 80))) [] [] = some ((.int .i64 (m : Int)), []))
 (.req (!((nf : Int) != (m : Int))) (.claim (opA (Plain.env [] (gE 0)) (.slice 7 (.const (.slice af nf cf)) none (some (.const (.int .i64 (na : Int)))) none) [] H = some ((.slice au nu cu), H))
 (.claim (opA (Plain.env [] (gE 0)) (.call 62 [(.const (.slice au nu cu)), (.const (.slice aa na ca))]) [] (denH [.seg H, .blk .fix [(sI x0), (sI x1), (sI x2), (sI x3), (sI x4), (sI x5), (sB xb)]]) = some ((.bool true), denH [.seg H, .blk .fix [(sI x0), (sI x1), (sI x2), (sI x3), (sI x4), (sI x5), (sB xb)]]))
 (.claim (Wp (Plain.env [] (gE 0)) (inL [6]) (.block 0 (.loop body55_0)) (denF [.seg H, .blk .fix [(sI x0), (sI x1), (sI x2), (sI x3), (sI x4), (sI x5), (sB xb)]] (frS 37 [(0, (.raw (.slice af nf cf))), (5, (.ptr 1 0)), (6, (sB false)), (7, (sI (na : Int)))])) (denH [.seg H, .blk .fix [(sI x0), (sI x1), (sI x2), (sI x3), (sI x4), (sI x5), (sB xb)]]) fun e_ s_ h_ => e_ = .normal ∧ s_ = denF [.seg H, .blk .fix [(sI x0), (sI x1), (sI x2), (sI x3), (sI x4), (sI x5), (sB xb)]] (frS 37 [(6, (sB false))]) ∧ h_ = denH [.seg H, .blk .fix [(sI x0), (sI x1), (sI x2), (sI x3), (sI x4), (sI x5), (sB xb)]])
 (.ret .ret [(sB true)] [.seg H, .blk .fix [(sI x0), (sI x1), (sI x2), (sI x3), (sI x4), (sI x5), (sB xb)]])))))) := by kernel_rfl
abbrev it (H : Heap) (x : R7) : SH := [.seg H, .blk .fix [sI x.a, sI x.b, sI x.c, sI x.d, sI x.e, sI x.f, sB x.g]]
theorem loop {H : Heap} {x : R7} {l : List R7} {af : Option Addr} {cf : Nat} (hf : RowsW 7 H (.slice af (l.length + 80) cf) ((l ++ List.replicate 80 x).map e7)) (hb : l.length ≤ 1000000000) :
    Wp (Plain.env [] (gE 0)) (inL [6]) (.block 0 (.loop body55_0)) (denF (it H x) (frS 37 [(0, rS af (l.length + 80) cf), (5, .ptr 1 0), (6, (sB false)), (7, (sI l.length))])) (denH (it H x)) fun e s h => e = .normal ∧ s = denF (it H x) (frS 37 [(6, (sB false))]) ∧ h = denH (it H x) := by
  refine Wp.bl (fun m t h => ∃ k : Nat, k + m = 80 ∧ t = denF (it H x) (frS 37 [(0, rS af (l.length + 80) cf), (5, .ptr 1 0), (6, (sB false)), (7, (sI ((l.length + k : Nat) : Int)))]) ∧ h = denH (it H x)) ?_ 80 _ _ ⟨0, rfl, rfl, rfl⟩
  rintro m t h ⟨k, hk, rfl, rfl⟩
  by_cases hlt : k < 80
  · have hg : (l ++ List.replicate 80 x)[l.length + k]? = some x := by
      rw [List.getElem?_append_right (by omega), Nat.add_sub_cancel_left, List.getElem?_replicate, if_pos hlt]
    obtain ⟨b1, o1, r1⟩ := hf.rowM hg
    refine Wp.tree (cE_ok 0) (tree55t af (l.length + 80) cf ((l.length + k : Nat) : Int) x.a x.b x.c x.d x.e x.f x.a x.b x.c x.d x.e x.f x.g x.g b1 o1 H) ⟨rfl, rfl⟩ ⟨fun _ => ⟨rfl, r1.ptr _ _, r1.all _, by simp, end_next (m - 1) (by omega) ⟨k + 1, by omega, ?_, rfl⟩⟩, fun q => by simp at q; omega⟩
    rw [wrap64 (by omega) (by omega)]; rfl
  · refine Wp.tree (cE_ok 0) (tree55t af (l.length + 80) cf ((l.length + k : Nat) : Int) x.a x.b x.c x.d x.e x.f x.a x.b x.c x.d x.e x.f x.g x.g 0 0 H) ⟨rfl, rfl⟩ ⟨fun q => by simp at q; omega, fun _ => end_exit ⟨rfl, by show denF _ _ = denF _ _; kernel_rfl, rfl⟩⟩
theorem sim {H : Heap} {a b : Value} {x : R7} {l : List R7} (ha : RowsW 7 H a ((l ++ List.replicate 80 x).map e7)) (hs : RowsW 7 H b (l.map e7)) (hb : l.length ≤ 1000000000) : Sim Try.prog 55 [a, b, (.agg ⟨e7 x⟩)] H fun v h' => v = .bool true ∧ h' = H := by
  obtain ⟨af, cf, rfl⟩ := ha.slcM
  obtain ⟨aa, ca, rfl⟩ := hs.slcM
  rw [List.length_append, List.length_replicate] at ha ⊢
  obtain ⟨u, hcu, hu⟩ := ha.cutM (lo := 0) (hi := l.length) (by omega) (by simp) none (some (.const (.int .i64 l.length))) (.inl ⟨rfl, rfl⟩) (.inr rfl)
  rw [List.drop_zero, List.take_left] at hu
  obtain ⟨au, cu, rfl⟩ := hu.slcM
  have hu0 : RowsW 7 (denH [.seg H]) (.slice au l.length cu) (l.map e7) := by simpa [denH, denL, It.den] using hu
  have hs0 : RowsW 7 (denH [.seg H]) (.slice aa l.length ca) (l.map e7) := by simpa [denH, denL, It.den] using hs
  have eS := callSame e7_1 (hu0.up (I := [.seg H]) rfl [.blk .fix [sI x.a, sI x.b, sI x.c, sI x.d, sI x.e, sI x.f, sB x.g]]) (hs0.up (I := [.seg H]) rfl [.blk .fix [sI x.a, sI x.b, sI x.c, sI x.d, sI x.e, sI x.f, sB x.g]]) (by omega)
  rw [same_t rfl] at eS
  refine (Sim.plain (R := fun v => v = .bool true) ?_ (fun v hv => by subst hv; rfl)).mono fun v h' q => q
  have := fnS_tree (Q := fun v h' => v = .bool true ∧ ∃ X, h' = H ++ X) mixed (gE_ok 0) (gE_q 0) (cE_ok 0) st55 (tree55 af au aa (l.length + 80) l.length l.length cf cu ca (l.length + 80) x.a x.b x.c x.d x.e x.f x.g H) ⟨rfl, rfl⟩ ⟨?_, by simp, hcu _, opA_call (args := [_, _]) rfl eS, loop ha hb, rfl, [some ⟨.fix, e7 x⟩], by simp [denH, denL, It.den, den0, e7]⟩
  · simpa [denH, denL, It.den, denF, denV, denA, den0, e7] using this
  · simp only [opA, pureA, ev, binA, intBin, if_true]
    congr 3
    rw [wrap64 (by omega) (by omega)]; omega
/-- The summary of Intact, of what is as it was. -/
def pre (p : List R7 × R7) (args : List Value) (h : Heap) : Prop := ∃ a b x, x = p.2 ∧ args = [a, b, (.agg ⟨e7 x⟩)] ∧ RowsW 7 h a ((p.1 ++ List.replicate 80 p.2).map e7) ∧ RowsW 7 h b (p.1.map e7) ∧ p.1.length ≤ 1000000000
def res (p : List R7 × R7) (h : Heap) : Value × Heap := (.bool true, h)
theorem summ : Summ Try.prog 55 (smry pre res) := smry_ok fun p args h ⟨a, b, x, ex, e, ha, hs, hb⟩ => by subst e ex; exact sim ha hs hb
theorem call {h : Heap} {a b : Value} {l : List R7} {x : R7} (ha : RowsW 7 h a ((l ++ List.replicate 80 x).map e7)) (hs : RowsW 7 h b (l.map e7)) (hb : l.length ≤ 1000000000) : smry pre res [a, b, (.agg ⟨e7 x⟩)] h = some (.bool true, h) :=
  smry_some (x := (l, x)) ⟨a, b, x, rfl, rfl, ha, hs, hb⟩ fun _ _ => rfl
end T55
end Go.Proofs.Ytgdojnamjkhknaa
