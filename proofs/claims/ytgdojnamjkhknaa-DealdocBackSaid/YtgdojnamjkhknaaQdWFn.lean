/-
  word: the bytes of whole numbers.
-/
import Derived.Test.YtgdojnamjkhknaaProg
import Derived.Test.YtgdojnamjkhknaaQdLcA
import Derived.KernelRfl
namespace Go.Proofs.Ytgdojnamjkhknaa
open Go.Am
set_option linter.all false
set_option maxRecDepth 100000
theorem mixed : Try.prog.follows .mixedOrders = true := by kernel_rfl
abbrev qt : List Nat := []
namespace WB
noncomputable abbrev gE (k : Nat) : Env := inE [] [] k noEnv
noncomputable abbrev cE (k : Nat) : CallS := callS [] [] noEnv 100 k
theorem gE_q (k : Nat) : QuietEnv qt (Plain.env [] (gE k)) := Plain.quiet (inE_quiet noEnv_quiet (fun f F h => by cases h) k)
theorem gE_ok (k : Nat) : EnvOk Try.prog (Plain.env [] (gE k)) := Plain.ok .nil (inE_ok (qt := qt) mixed .nil .nil (fun f F h => by cases h) noEnv_ok noEnv_quiet k)
theorem cE_ok (k : Nat) : CallOk (Plain.env [] (gE k)) (cE k) := callS_ok k
def body23_2 : IL := .seq (.seq (.reg [ oT 13 (.mov (.tmp 6)), oT 14 (.bin .geq (.tmp 13) (kI 0))]) (.ite (.tmp 14) (.skip) (.exit 2))) (.seq (.block 3 (.reg [ oT 17 (.mov (.tmp 3)), oT 18 (.mov (.tmp 5)), oT 19 (.mov (.tmp 6)), oT 20 (.bin .mul (kI 8) (.tmp 19)), oT 21 (.bin .shr (.tmp 18) (.tmp 20)), oT 22 (.conv .u8 (.tmp 21)), oT 23 (.mkrow [(.int .u8 0)] 1 [(0, 1, (.tmp 22))]), oT 24 (.append 1 1 (.tmp 17) (.tmp 23)), oT 3 (.mov (.tmp 24))])) (.reg [ oT 15 (.mov (.tmp 6)), oT 16 (.bin .sub (.tmp 15) (kI 1)), oT 6 (.mov (.tmp 16))]))
def body23_0 : IL := .seq (.reg [ oT 10 (.bin .lss (.tmp 9) (.tmp 8))]) (.seq (.ite (.tmp 10) (.skip) (.exit 0)) (.seq (.block 1 (.seq (.reg [ oT 11 (.iadr 1 none (.tmp 7) (.tmp 9)), oT 12 (.load (.tmp 11) none), oT 5 (.mov (.tmp 12))]) (.seq (.reg [ oT 6 (.mov (kI 7))]) (.block 2 (.loop (body23_2)))))) (.reg [ oT 25 (.bin .add (.tmp 9) (kI 1)), oT 9 (.mov (.tmp 25))])))
def il23 : FnIL := ⟨27, [.tmp 2], .seq (.reg [ oT 2 (.mov (.const (.slice none 0 0)))]) (.seq (.reg [ oT 3 (.mov (.const (.slice none 0 0)))]) (.seq (.seq (.reg [ oT 7 (.mov (.tmp 0)), oT 8 (.len (.tmp 7)), oT 9 (.mov (kI 0))]) (.block 0 (.loop (body23_0)))) (.seq (.reg [ oT 26 (.mov (.tmp 3)), oT 2 (.mov (.tmp 26))]) (.ret))))⟩
theorem st23 : stF Try.prog qt 23 = some il23 := by kernel_rfl
def hn23i (s l : Value) (z i x m ix : Int) (n : Nat) (cs : List Value) (H J J2 : Heap) : Hs := (.sym (.pur 10000021 (.int .i64 x) (.use 30000024 (.sl 3 0 (n + 1) (n + 1)) ⟨[(1, .seg J2)], [.raw (some ⟨.grown 1, cs⟩)]⟩ .nil)) .nil)
theorem tree23i (s l : Value) (z i x m ix : Int) (n : Nat) (cs : List Value) (H J J2 : Heap) : (fun (Z2 : SV) => (fun (Z0 : SH) => (fun (Z1 : SFr) => pieceS [] (gE 0) (cE 0) 100 (fun i => exL i body23_2 || inL [2, 3, 7, 8, 9] i) body23_2 (hn23i s l z i x m ix n cs H J J2) Z1 [.seg H, .seg J] =
(.br (decide (i ≥ 0))
 (.claim (opA (Plain.env [] (gE 0)) (.bin .shr (kI z) (.const (.int .i64 (IntKind.wrap .i64 (8 * i))))) [] [] = some ((.int .i64 x), []))
 (.claim (List.length J2 = List.length J) (.claim (opA (Plain.env [] (gE 0)) (.append 1 1 (.const l) (.const (denV (ofs [.seg H, .seg J, .blk .fix [Z2]]) (.sl 2 0 1 1)))) [] (denH [.seg H, .seg J, .blk .fix [Z2]]) = some ((denV (ofs Z0) (.sl 3 0 (n + 1) (n + 1))), denH Z0))
 (.ret .normal (frS 27 [(2, nS), (3, (.sl 3 0 (n + 1) (n + 1))), (5, (sI z)), (6, (sI (IntKind.wrap .i64 (i - 1)))), (7, (.raw s)), (8, (sI m)), (9, (sI ix))]) Z0))))
 (.ret (.exit 2) Z1 [.seg H, .seg J]))) (frS 27 [(2, nS), (3, (.raw l)), (5, (sI z)), (6, (sI i)), (7, (.raw s)), (8, (sI m)), (9, (sI ix))])) [.seg H, .seg J2, .blk .fix [Z2], .raw (some ⟨.grown 1, cs⟩)]) (.raw (.int .u8 (IntKind.wrap .u8 (x)))) := by show _ = _; kernel_rfl
def hn23o (s l l2 : Value) (z m ix : Int) (b o : Nat) (H J J2 X : Heap) : Hs := (.sym (.pur 22000011 (.pointer (some ⟨b, o, none⟩)) (.bas 7000012 (.int .i64 z) (.lp 2 [2, 3, 7, 8, 9] (frS 27 [(2, nS), (3, (.raw l2)), (7, (.raw s)), (8, (sI m)), (9, (sI ix))]) ⟨[(1, .seg J2)], [.seg X]⟩ .nil))) .nil)
theorem tree23o (s l l2 : Value) (z m ix : Int) (b o : Nat) (H J J2 X : Heap) : (fun (Z0 : SFr) => (fun (Z1 : SH) => (fun (Z2 : SH) => pieceS [] (gE 0) (cE 0) 100 (fun i => exL i body23_0 || inL [2, 3] i) body23_0 (hn23o s l l2 z m ix b o H J J2 X) Z0 Z2 =
(.br (decide (ix < m))
 (.claim (opA (Plain.env [] (gE 0)) (.iadr 1 none (.const s) (kI ix)) [] [] = some ((.pointer (some ⟨b, o, none⟩)), []))
 (.claim (opA (Plain.env [] (gE 0)) (.load (.const (.pointer (some ⟨b, o, none⟩))) none) [] H = some ((.int .i64 z), H))
 (.claim (List.length J2 = List.length J) (.claim (Wp (Plain.env [] (gE 0)) (inL [2, 3, 7, 8, 9]) (.block 2 (.loop body23_2)) (denF Z2 (frS 27 [(2, nS), (3, (.raw l)), (5, (sI z)), (6, (sI 7)), (7, (.raw s)), (8, (sI m)), (9, (sI ix))])) (denH Z2) fun e_ s_ h_ => e_ = .normal ∧ s_ = denF Z1 (frS 27 [(2, nS), (3, (.raw l2)), (7, (.raw s)), (8, (sI m)), (9, (sI ix))]) ∧ h_ = denH Z1)
 (.ret .normal (frS 27 [(2, nS), (3, (.raw l2)), (7, (.raw s)), (8, (sI m)), (9, (sI (IntKind.wrap .i64 (ix + 1))))]) Z1)))))
 (.ret (.exit 0) Z0 Z2))) [.seg H, .seg J]) [.seg H, .seg J2, .seg X]) (frS 27 [(2, nS), (3, (.raw l)), (7, (.raw s)), (8, (sI m)), (9, (sI ix))]) := by show _ = _; kernel_rfl
def hn23 (s l : Value) (m : Int) (H X : Heap) : Hs := (.pur 28000008 (.int .i64 m) (.lp 0 [2, 3] (frS 27 [(2, nS), (3, (.raw l))]) ⟨[], [.seg X]⟩ .nil))
theorem tree23 (s l : Value) (m : Int) (H X : Heap) : fnS [] (gE 0) (cE 0) 100 il23 (hn23 s l m H X) [(.raw s)] [.seg H] =
(.claim (opA (Plain.env [] (gE 0)) (.len (.const s)) [] [] = some ((.int .i64 m), []))
 (.claim (Wp (Plain.env [] (gE 0)) (inL [2, 3]) (.block 0 (.loop body23_0)) (denF [.seg H] (frS 27 [(2, nS), (3, nS), (7, (.raw s)), (8, (sI m)), (9, (sI 0))])) (denH [.seg H]) fun e_ s_ h_ => e_ = .normal ∧ s_ = denF [.seg H, .seg X] (frS 27 [(2, nS), (3, (.raw l))]) ∧ h_ = denH [.seg H, .seg X])
 (.ret .ret [(.raw l)] [.seg H, .seg X]))) := by kernel_rfl
def wd (z : Int) : List Int := [56, 48, 40, 32, 24, 16, 8, 0].map fun k => IntKind.wrap .u8 (z.fdiv (2 ^ k))
theorem wd_len (z : Int) : (wd z).length = 8 := rfl
def byt (zs : List Int) : List Int := zs.flatMap wd
theorem shr_ok (Γ : Env) (z : Int) (k : Nat) (hk : k < 8) : opA Γ (.bin .shr (kI z) (.const (.int .i64 (IntKind.wrap .i64 (8 * ((7 : Int) - k)))))) [] [] = some (.int .i64 (z.fdiv (2 ^ (8 * (7 - k)))), []) := by
 match k, hk with
 | 0, _ | 1, _ | 2, _ | 3, _ | 4, _ | 5, _ | 6, _ | 7, _ => rfl
theorem wd_take (z : Int) (k : Nat) (hk : k < 8) : (wd z).take (k + 1) = (wd z).take k ++ [IntKind.wrap .u8 (z.fdiv (2 ^ (8 * (7 - k))))] := by
 match k, hk with
 | 0, _ | 1, _ | 2, _ | 3, _ | 4, _ | 5, _ | 6, _ | 7, _ => rfl
abbrev fi (l s : Value) (z i m ix : Int) : SFr := frS 27 [(2, nS), (3, (.raw l)), (5, (sI z)), (6, (sI i)), (7, (.raw s)), (8, (sI m)), (9, (sI ix))]
def LsN (w : Nat) (H J : Heap) (l : Value) (rows : List (List Value)) : Prop := LsS w H J l rows ∧ (rows = [] → l = .slice none 0 0)
theorem inner {H J0 : Heap} {l s : Value} {z m ix : Int} {bs : List Int} (hl : LsN 1 H J0 l (bs.map br)) (hb : bs.length + 8 ≤ 1099511627776) :
  Wp (Plain.env [] (gE 0)) (inL [2, 3, 7, 8, 9]) (.block 2 (.loop body23_2)) (denF [.seg H, .seg J0] (fi l s z 7 m ix)) (denH [.seg H, .seg J0]) fun e t h' => e = .normal ∧ ∃ (J : Heap) (l2 : Value), t = denF [.seg H, .seg J] (frS 27 [(2, nS), (3, (.raw l2)), (7, (.raw s)), (8, (sI m)), (9, (sI ix))]) ∧ h' = denH [.seg H, .seg J] ∧
   J0.length ≤ J.length ∧ LsN 1 H J l2 ((bs ++ wd z).map br) := by
 refine Wp.bl (fun n t h => ∃ (k : Nat) (J : Heap) (l2 : Value), k + n = 8 ∧ t = denF [.seg H, .seg J] (fi l2 s z ((7 : Int) - k) m ix) ∧ h = denH [.seg H, .seg J] ∧ J0.length ≤ J.length ∧ LsN 1 H J l2 ((bs ++ (wd z).take k).map br)) ?_ 8 _ _ ⟨0, J0, l, rfl, rfl, rfl, Nat.le_refl _, by simpa using hl⟩
 rintro n t h ⟨k, J, l2, hk, rfl, rfl, hJ, hl2⟩
 by_cases h8 : k < 8
 ·have hw : (bs ++ (wd z).take k).length = bs.length + k := by simp [wd_len]; omega
  obtain ⟨x, hx⟩ : ∃ x, x = z.fdiv (2 ^ (8 * (7 - k))) := ⟨_, rfl⟩
  obtain ⟨J2, g1, g2, _⟩ := hl2.1.grow (w := 1) (eby := 1) (R := [some ⟨.fix, [.int .u8 (IntKind.wrap .u8 x)]⟩]) (x := .slice (some ⟨H.length + (J.length + 0), 0, none⟩) 1 1) (new := [br (IntKind.wrap .u8 x)]) (src_item (I := [.seg H, .seg J, .blk .fix [.raw (.int .u8 (IntKind.wrap .u8 x))]]) (k := 2) (o := 0) (n := 1) (c := 1) (w := 1) rfl (by simp)) (by decide) (by simp) (by simp [hw]; omega) (by simp [hw]; omega)
  refine Wp.pieceS (cE_ok 0) 100 (hn23i s l2 z ((7 : Int) - k) x m ix (bs ++ (wd z).take k).length (((bs ++ (wd z).take k).map br ++ [br (IntKind.wrap .u8 x)]).flatten) H J J2) ⟨rfl, rfl⟩ ?_
  rw [tree23i]
  refine ⟨fun _ => ⟨hx ▸ shr_ok _ _ _ h8, g1, ?_, ?_⟩, fun q => by simp at q; omega⟩
  ·have := g2 (Plain.env [] (gE 0))
   rw [List.length_map] at this
   exact this
  ·refine ⟨n - 1, by omega, k + 1, J2 ++ [some ⟨.fix, [.int .u8 (IntKind.wrap .u8 x)]⟩, some ⟨.grown 1, ((bs ++ (wd z).take k).map br ++ [br (IntKind.wrap .u8 x)]).flatten⟩], .slice (some ⟨H.length + (J2.length + 1), 0, none⟩) ((bs ++ (wd z).take k).length + 1) ((bs ++ (wd z).take k).length + 1), by omega, ?_, ?_, by simp; omega, ?_, ?_⟩
   ·have e1 : IntKind.wrap .i64 ((7 : Int) - k - 1) = (7 : Int) - ((k + 1 : Nat) : Int) := by rw [wrap64 (by omega) (by omega)]; omega
    rw [e1]
    show denF _ _ = denF _ _
    kernel_rfl
   ·simp [denH, denL, It.den, den0]
   ·have := LsS.made (w := 1) (H := H) (J2 := J2) (R := [some ⟨.fix, [.int .u8 (IntKind.wrap .u8 x)]⟩]) (rows := (bs ++ (wd z).take (k + 1)).map br) (br_w _) (by simp [wd_take z k h8, ← hx]) (n := (bs ++ (wd z).take k).length + 1) (j := J2.length + 1) (by simp [wd_take z k h8, ← hx]; omega) rfl []
    rw [wd_take z k h8, ← hx] at this ⊢
    simpa [← List.append_assoc] using this
   ·intro q; simp [wd_take z k h8, ← hx] at q
 ·have hk8 : k = 8 := by omega
  subst hk8
  refine Wp.pieceS (cE_ok 0) 100 (hn23i s l2 z ((7 : Int) - (8 : Nat)) 0 m ix 0 [] H J J) ⟨rfl, rfl⟩ ?_
  rw [tree23i]
  refine ⟨fun q => by simp at q, fun _ => ?_⟩
  exact end_exit ⟨rfl, J, l2, by show denF _ _ = denF _ _; kernel_rfl, rfl, hJ, by have e8 : (wd z).take 8 = wd z := rfl; rw [e8] at hl2; exact hl2⟩
theorem byt_app (a b : List Int) : byt (a ++ b) = byt a ++ byt b := by simp [byt]
theorem byt_len (zs : List Int) : (byt zs).length = 8 * zs.length := by
 induction zs with
 | nil => rfl
 | cons z l ih => simp only [byt, List.flatMap_cons, List.length_append, wd_len, List.length_cons] at ih ⊢; omega
theorem take_one {α : Type} {l : List α} {k : Nat} {x : α} (h : l[k]? = some x) : l.take (k + 1) = l.take k ++ [x] := by rw [List.take_succ, h]; rfl
abbrev fo (l s : Value) (m ix : Int) : SFr := frS 27 [(2, nS), (3, (.raw l)), (7, (.raw s)), (8, (sI m)), (9, (sI ix))]
theorem outer {H : Heap} {s : Value} {zs : List Int} (hs : RowsW 1 H s (zs.map ir)) (hb : zs.length ≤ 100000000) :
  Wp (Plain.env [] (gE 0)) (inL [2, 3]) (.block 0 (.loop body23_0)) (denF [.seg H] (fo (.slice none 0 0) s zs.length 0)) (denH [.seg H]) fun e t h' => e = .normal ∧ ∃ (J : Heap) (l2 : Value), t = denF [.seg H, .seg J] (frS 27 [(2, nS), (3, (.raw l2))]) ∧ h' = denH [.seg H, .seg J] ∧ LsN 1 H J l2 ((byt zs).map br) := by
 refine Wp.bl (fun n t h => ∃ (k : Nat) (J : Heap) (l2 : Value), k + n = zs.length ∧ t = denF [.seg H, .seg J] (fo l2 s zs.length k) ∧ h = denH [.seg H, .seg J] ∧ LsN 1 H J l2 ((byt (zs.take k)).map br)) ?_ zs.length _ _ ⟨0, [], .slice none 0 0, by omega, by show denF _ _ = denF _ _; kernel_rfl, by simp [denH, denL, It.den], .nil, fun _ => rfl⟩
 rintro n t h ⟨k, J, l2, hk, rfl, rfl, hl2⟩
 by_cases hlt : k < zs.length
 ·have hz : zs[k]? = some zs[k] := List.getElem?_eq_getElem hlt
  generalize zs[k] = z at hz
  obtain ⟨b, o, hr⟩ := hs.row (i := k) (row := ir z) (by rw [List.getElem?_map, hz]; rfl)
  have hbl : (byt (zs.take k)).length = 8 * k := by rw [byt_len, List.length_take, Nat.min_eq_left (by omega)]
  obtain ⟨e, t1, h1, ⟨rfl, J1, l3, rfl, rfl, hJ1, hl3⟩, w⟩ := (inner (z := z) (s := s) (m := zs.length) (ix := k) hl2 (by rw [hbl]; omega)).exact
  obtain ⟨J2, X, e2, rfl⟩ := split_at hJ1
  refine Wp.pieceS (cE_ok 0) 100 (hn23o s l2 l3 z zs.length k b o H J J2 X) ⟨rfl, rfl⟩ ?_
  rw [tree23o]
  refine ⟨fun _ => ⟨hr.ptr _ _, hr.one _, e2, ?_, ?_⟩, fun q => by simp at q; omega⟩
  ·refine w.mono fun e s h ⟨q1, q2, q3⟩ => ⟨q1, ?_, ?_⟩
   ·rw [q2]; show denF _ _ = denF _ _; kernel_rfl
   ·rw [q3]; simp [denH, denL, It.den]
  ·have e1 : IntKind.wrap .i64 ((k : Int) + 1) = ((k + 1 : Nat) : Int) := by rw [wrap64 (by omega) (by omega)]; omega
   refine ⟨n - 1, by omega, k + 1, J2 ++ X, l3, by omega, ?_, ?_, ?_⟩
   ·rw [e1]; show denF _ _ = denF _ _; kernel_rfl
   ·simp [denH, denL, It.den]
   ·rw [take_one hz, byt_app]
    simpa [byt] using hl3
 ·have hk8 : k = zs.length := by omega
  subst hk8
  refine Wp.pieceS (cE_ok 0) 100 (hn23o s l2 l2 0 zs.length zs.length 0 0 H J [] []) ⟨rfl, rfl⟩ ?_
  rw [tree23o]
  refine ⟨fun q => by simp at q, fun _ => ?_⟩
  exact end_exit ⟨rfl, J, l2, by show denF _ _ = denF _ _; kernel_rfl, rfl, by simpa using hl2⟩
theorem sim {H : Heap} {s : Value} {zs : List Int} (hs : RowsW 1 H s (zs.map ir)) (hb : zs.length ≤ 100000000) : Sim Try.prog 23 [s] H fun v h' => v = freshV H ((byt zs).map br) ∧ h' = H ++ freshX 1 ((byt zs).map br) := by
 refine Sim.fresh ?_ (all_flat _ fun _ => rfl)
 obtain ⟨e, t1, h1, ⟨rfl, J, l, rfl, rfl, hl⟩, w⟩ := (outer hs hb).exact
 have := fnS_sim (Q := fun v h' => ∃ X, h' = H ++ X ∧ LsS 1 H X v ((byt zs).map br) ∧ ((byt zs).map br = [] → v = .slice none 0 0)) mixed (gE_ok 0) (gE_q 0) (cE_ok 0) st23 100 (hn23 s l zs.length H J) (args := [.raw s]) (I := [.seg H]) ⟨rfl, rfl⟩ (by
  rw [tree23]
  refine ⟨?_, w, J, by simp [denH, denL, It.den], hl⟩
  have := hs.lenA (Plain.env [] (gE 0)) []
  rw [List.length_map] at this
  exact this)
 simpa [denH, denL, It.den, denF, denV, denA, den0] using this
def preB (zs : List Int) (args : List Value) (h : Heap) : Prop := ∃ s, args = [s] ∧ RowsW 1 h s (zs.map ir) ∧ zs.length ≤ 100000000
def resB (zs : List Int) (h : Heap) : Value × Heap := (freshV h ((byt zs).map br), h ++ freshX 1 ((byt zs).map br))
theorem summB : Summ Try.prog 23 (smry preB resB) := smry_ok fun zs args h ⟨s, e, hs, hb⟩ => by subst e; exact sim hs hb
theorem callB {h : Heap} {s : Value} {zs : List Int} (hs : RowsW 1 h s (zs.map ir)) (hb : zs.length ≤ 100000000) : smry preB resB [s] h = some (resB zs h) :=
 smry_some ⟨s, rfl, hs, hb⟩ fun y ⟨s', e, hs', _⟩ => by
  simp only [List.cons.injEq, and_true] at e
  subst e
  rw [ir_inj (hs.uniq hs')]
theorem useB {I : SH} (hI : I.all (It.bnd I.length) = true) {s : Value} {zs : List Int} (hs : RowsW 1 (denH I) s (zs.map ir)) (hb : zs.length ≤ 100000000) :
  ∃ a c X, smry preB resB [s] (denH I) = some (.slice a (byt zs).length c, denH (I ++ [.seg X])) ∧ RowsW 1 (denH (I ++ [.seg X])) (.slice a (byt zs).length c) ((byt zs).map br) := by
 obtain ⟨a, c, X, e, h⟩ := fresh_use hI (br_w (byt zs)) (by decide)
 rw [List.length_map] at e h
 exact ⟨a, c, X, (callB hs hb).trans (congrArg some e), h⟩
end WB
end Go.Proofs.Ytgdojnamjkhknaa
