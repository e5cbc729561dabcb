/-
  The document's own bytes of whole numbers: they are word.Bytes'.
-/
import Derived.Test.YtgdojnamjkhknaaQdWFn
import Derived.Test.YtgdojnamjkhknaaQdLnA
namespace Go.Proofs.Ytgdojnamjkhknaa
open Go.Am
set_option linter.all false
set_option maxRecDepth 100000
namespace WS
open WB (byt wd wd_len wd_take shr_ok LsN byt_app byt_len take_one)
def body34_0 : IL := .seq (.reg [ oT 9 (.bin .lss (.tmp 8) (.tmp 7))]) (.seq (.ite (.tmp 9) (.skip) (.exit 0)) (.seq (.block 1 (.seq (.reg [ oT 10 (.iadr 1 none (.tmp 6) (.tmp 8)), oT 11 (.load (.tmp 10) none), oT 5 (.mov (.tmp 11))]) (.reg [ oT 12 (.mov (.tmp 3)), oT 13 (.mov (.tmp 5)), oT 14 (.call 72 [(.tmp 12), (.tmp 13)]), oT 3 (.mov (.tmp 14))]))) (.reg [ oT 15 (.bin .add (.tmp 8) (kI 1)), oT 8 (.mov (.tmp 15))])))
def body72_0 : IL := .seq (.seq (.reg [ oT 6 (.mov (.tmp 5)), oT 7 (.bin .geq (.tmp 6) (kI 0))]) (.ite (.tmp 7) (.skip) (.exit 0))) (.seq (.block 1 (.reg [ oT 10 (.mov (.tmp 0)), oT 11 (.mov (.tmp 1)), oT 12 (.mov (.tmp 5)), oT 13 (.bin .mul (kI 8) (.tmp 12)), oT 14 (.bin .shr (.tmp 11) (.tmp 13)), oT 15 (.conv .u8 (.tmp 14)), oT 16 (.mkrow [(.int .u8 0)] 1 [(0, 1, (.tmp 15))]), oT 17 (.append 1 1 (.tmp 10) (.tmp 16)), oT 0 (.mov (.tmp 17))])) (.reg [ oT 8 (.mov (.tmp 5)), oT 9 (.bin .sub (.tmp 8) (kI 1)), oT 5 (.mov (.tmp 9))]))
def il34 : FnIL := ⟨17, [.tmp 2], .seq (.reg [ oT 2 (.mov (.const (.slice none 0 0)))]) (.seq (.reg [ oT 3 (.mov (.const (.slice none 0 0)))]) (.seq (.seq (.reg [ oT 6 (.mov (.tmp 0)), oT 7 (.len (.tmp 6)), oT 8 (.mov (kI 0))]) (.block 0 (.loop (body34_0)))) (.seq (.reg [ oT 16 (.mov (.tmp 3)), oT 2 (.mov (.tmp 16))]) (.ret))))⟩
def il72 : FnIL := ⟨19, [.tmp 4], .seq (.reg [ oT 4 (.mov (.const (.slice none 0 0)))]) (.seq (.seq (.reg [ oT 5 (.mov (kI 7))]) (.block 0 (.loop (body72_0)))) (.seq (.reg [ oT 18 (.mov (.tmp 0)), oT 4 (.mov (.tmp 18))]) (.ret)))⟩
theorem st72 : stF Try.prog qt 72 = some il72 := by kernel_rfl
def inl : Tab := [(72, il72)]
theorem inl_ok : TabOk Try.prog qt inl := .cons st72 .nil
theorem noq : noQt qt inl := fun f F h => rfl
noncomputable abbrev gE (k : Nat) : Env := inE [] inl k noEnv
noncomputable abbrev cE (k : Nat) : CallS := callS [] inl noEnv 100 k
theorem gE_q (k : Nat) : QuietEnv qt (Plain.env [] (gE k)) := Plain.quiet (inE_quiet noEnv_quiet noq k)
theorem gE_ok (k : Nat) : EnvOk Try.prog (Plain.env [] (gE k)) := Plain.ok .nil (inE_ok (qt := qt) mixed .nil inl_ok noq noEnv_ok noEnv_quiet k)
theorem cE_ok (k : Nat) : CallOk (Plain.env [] (gE k)) (cE k) := callS_ok k
theorem tree72t (a a2 : Option Addr) (z i x : Int) (n c c2 : Nat) (H J J2 X : Heap) : (fun (Z0 : SV) => (fun (Z1 : SFr) => (fun (Z2 : SH) => pieceS [] (gE 0) (cE 0) 100 (fun i => exL i body72_0 || inL [0, 4] i) body72_0 (.sym (.pur 10000014 (.int .i64 x) (.use 30000017 (rS a2 (n + 1) c2) ⟨[(1, .seg J2)], [.seg X]⟩ .nil)) .nil) Z1 [.seg H, .seg J] =
(.br (decide (i ≥ 0))
 (.claim (opA (Plain.env [] (gE 0)) (.bin .shr (kI z) (.const (.int .i64 (IntKind.wrap .i64 (8 * i))))) [] [] = some ((.int .i64 x), []))
 (.claim (List.length J2 = List.length J) (.claim (opA (Plain.env [] (gE 0)) (.append 1 1 (.const (.slice a n c)) (.const (denV (ofs [.seg H, .seg J, .blk .fix [Z0]]) (.sl 2 0 1 1)))) [] (denH [.seg H, .seg J, .blk .fix [Z0]]) = some ((.slice a2 (n + 1) c2), denH Z2))
 (.ret .normal (frS 19 [(0, (rS a2 (n + 1) c2)), (1, (sI z)), (4, nS), (5, (sI (IntKind.wrap .i64 (i - 1))))]) Z2))))
 (.ret (.exit 0) Z1 [.seg H, .seg J]))) [.seg H, .seg J2, .blk .fix [Z0], .seg X]) (frS 19 [(0, (rS a n c)), (1, (sI z)), (4, nS), (5, (sI i))])) (.raw (.int .u8 (IntKind.wrap .u8 (x)))) := by show _ = _; kernel_rfl
theorem st34 : stF Try.prog qt 34 = some il34 := by kernel_rfl
theorem tree34t (s a a2 : Option Addr) (m sc n c n2 c2 : Nat) (z i : Int) (b o : Nat) (H J J2 X : Heap) : (fun (Z0 : SFr) => (fun (Z1 : SH) => (fun (Z2 : SH) => (fun (Z3 : SFr) => pieceS [] (gE 1) (cE 1) 100 (fun i => exL i body34_0 || inL [2, 3] i) body34_0 (.sym (.pur 22000010 (.pointer (some ⟨b, o, none⟩)) (.bas 7000011 (.int .i64 z) (.lp 0 [0, 4] Z3 ⟨[(1, .seg J2)], [.seg X]⟩ .nil))) .nil) Z0 Z2 =
(.br (decide (i < (m : Int)))
 (.claim (opA (Plain.env [] (gE 1)) (.iadr 1 none (.const (.slice s m sc)) (kI i)) [] [] = some ((.pointer (some ⟨b, o, none⟩)), []))
 (.claim (opA (Plain.env [] (gE 1)) (.load (.const (.pointer (some ⟨b, o, none⟩))) none) [] H = some ((.int .i64 z), H))
 (.claim (List.length J2 = List.length J) (.claim (Wp (Plain.env [] (gE 0)) (inL [0, 4]) (.block 0 (.loop body72_0)) (denF Z2 (frS 19 [(0, (rS a n c)), (1, (sI z)), (4, nS), (5, (sI 7))])) (denH Z2) fun e_ s_ h_ => e_ = .normal ∧ s_ = denF Z1 Z3 ∧ h_ = denH Z1)
 (.ret .normal (frS 17 [(2, nS), (3, (rS a2 n2 c2)), (6, (rS s m sc)), (7, (sI (m : Int))), (8, (sI (IntKind.wrap .i64 (i + 1))))]) Z1)))))
 (.ret (.exit 0) Z0 Z2))) (frS 19 [(0, (rS a2 n2 c2)), (4, nS)])) [.seg H, .seg J]) [.seg H, .seg J2, .seg X]) (frS 17 [(2, nS), (3, (rS a n c)), (6, (rS s m sc)), (7, (sI (m : Int))), (8, (sI i))]) := by show _ = _; kernel_rfl
theorem tree34 (s a : Option Addr) (m sc n c : Nat) (H X : Heap) : fnS [] (gE 1) (cE 1) 100 il34 (.lp 0 [2, 3] (frS 17 [(2, nS), (3, (rS a n c))]) ⟨[], [.seg X]⟩ .nil) [(rS s m sc)] [.seg H] =
(.claim (Wp (Plain.env [] (gE 1)) (inL [2, 3]) (.block 0 (.loop body34_0)) (denF [.seg H] (frS 17 [(2, nS), (3, nS), (6, (rS s m sc)), (7, (sI (m : Int))), (8, (sI 0))])) (denH [.seg H]) fun e_ s_ h_ => e_ = .normal ∧ s_ = denF [.seg H, .seg X] (frS 17 [(2, nS), (3, (rS a n c))]) ∧ h_ = denH [.seg H, .seg X])
 (.ret .ret [(rS a n c)] [.seg H, .seg X])) := by kernel_rfl
theorem inner {H J0 : Heap} {a : Option Addr} {c : Nat} {z : Int} {bs : List Int} (hl : LsN 1 H J0 (.slice a bs.length c) (bs.map br)) (hb : bs.length + 8 ≤ 1099511627776) :
  Wp (Plain.env [] (gE 0)) (inL [0, 4]) (.block 0 (.loop body72_0)) (denF [.seg H, .seg J0] (frS 19 [(0, rS a bs.length c), (1, (sI z)), (4, nS), (5, (sI 7))])) (denH [.seg H, .seg J0]) fun e t h' => e = .normal ∧ ∃ (J : Heap) (a2 : Option Addr) (c2 : Nat), t = denF [.seg H, .seg J] (frS 19 [(0, rS a2 (bs.length + 8) c2), (4, nS)]) ∧ h' = denH [.seg H, .seg J] ∧
   J0.length ≤ J.length ∧ LsN 1 H J (.slice a2 (bs.length + 8) c2) ((bs ++ wd z).map br) := by
 refine Wp.bl (fun n t h => ∃ (k : Nat) (J : Heap) (a2 : Option Addr) (c2 : Nat), k + n = 8 ∧ t = denF [.seg H, .seg J] (frS 19 [(0, rS a2 (bs.length + k) c2), (1, (sI z)), (4, nS), (5, (sI ((7 : Int) - k)))]) ∧ h = denH [.seg H, .seg J] ∧ J0.length ≤ J.length ∧ LsN 1 H J (.slice a2 (bs.length + k) c2) ((bs ++ (wd z).take k).map br)) ?_ 8 _ _ ⟨0, J0, a, c, rfl, rfl, rfl, Nat.le_refl _, by simpa using hl⟩
 rintro n t h ⟨k, J, a2, c2, hk, rfl, rfl, hJ, hl2⟩
 by_cases h8 : k < 8
 ·have hw : (bs ++ (wd z).take k).length = bs.length + k := by simp [wd_len]; omega
  obtain ⟨x, hx⟩ : ∃ x, x = z.fdiv (2 ^ (8 * (7 - k))) := ⟨_, rfl⟩
  obtain ⟨a3, c3, J2, X, g0, g1, g2⟩ := appRow (I := [.seg H]) (R := []) (R0 := []) rfl (fun _ => rfl) (w := 1) (eby := 1) (cs := [.raw (.int .u8 (IntKind.wrap .u8 x))]) (row := br (IntKind.wrap .u8 x)) (hl2.1.base (by simp [denH, denL, It.den])) (fun _ => rfl) rfl (by decide) (by rw [List.length_map, hw]; omega) (by rw [List.length_map, hw]; omega)
  rw [List.length_map, hw] at g1 g2
  have tr : _ = _ := tree72t a2 a3 z ((7 : Int) - k) x (bs.length + k) c2 c3 H J J2 X
  refine Wp.tree (cE_ok 0) tr ⟨rfl, rfl⟩ ⟨fun _ => ⟨hx ▸ shr_ok _ _ _ h8, g0, g1 _, ?_⟩, fun q => by simp at q; omega⟩
  refine ⟨n - 1, by omega, k + 1, J2 ++ (some ⟨.fix, br (IntKind.wrap .u8 x)⟩ :: X), a3, c3, by omega, ?_, ?_, by simp; omega, ?_, ?_⟩
  ·have e1 : IntKind.wrap .i64 ((7 : Int) - k - 1) = (7 : Int) - ((k + 1 : Nat) : Int) := by rw [wrap64 (by omega) (by omega)]; omega
   rw [e1]
   show denF _ _ = denF _ _
   kernel_rfl
  ·simp [denH, denL, It.den, den0, br]
  ·rw [wd_take z k h8, ← hx, ← List.append_assoc, List.map_append]
   exact (g2.base (by simp [denH, denL, It.den]))
  ·intro q; simp [wd_take z k h8, ← hx] at q
 ·have hk8 : k = 8 := by omega
  subst hk8
  refine Wp.tree (cE_ok 0) (tree72t a2 a2 z ((7 : Int) - (8 : Nat)) 0 (bs.length + 8) c2 0 H J J []) ⟨rfl, rfl⟩ ⟨fun q => by simp at q, fun _ => ?_⟩
  exact end_exit ⟨rfl, J, a2, c2, by show denF _ _ = denF _ _; kernel_rfl, rfl, hJ, by have e8 : (wd z).take 8 = wd z := rfl; rw [e8] at hl2; exact hl2⟩
theorem outer {H : Heap} {s : Option Addr} {sc : Nat} {zs : List Int} (hs : RowsW 1 H (.slice s zs.length sc) (zs.map ir)) (hb : zs.length ≤ 100000000) :
  Wp (Plain.env [] (gE 1)) (inL [2, 3]) (.block 0 (.loop body34_0)) (denF [.seg H] (frS 17 [(2, nS), (3, nS), (6, rS s zs.length sc), (7, (sI (zs.length : Int))), (8, (sI 0))])) (denH [.seg H]) fun e t h' => e = .normal ∧ ∃ (J : Heap) (a : Option Addr) (n c : Nat), t = denF [.seg H, .seg J] (frS 17 [(2, nS), (3, rS a n c)]) ∧ h' = denH [.seg H, .seg J] ∧ LsN 1 H J (.slice a n c) ((byt zs).map br) := by
 refine Wp.bl (fun n t h => ∃ (k : Nat) (J : Heap) (a : Option Addr) (c : Nat), k + n = zs.length ∧ t = denF [.seg H, .seg J] (frS 17 [(2, nS), (3, rS a (byt (zs.take k)).length c), (6, rS s zs.length sc), (7, (sI (zs.length : Int))), (8, (sI k))]) ∧ h = denH [.seg H, .seg J] ∧ LsN 1 H J (.slice a (byt (zs.take k)).length c) ((byt (zs.take k)).map br)) ?_ zs.length _ _ ⟨0, [], none, 0, by omega, by show denF _ _ = denF _ _; kernel_rfl, by simp [denH, denL, It.den], .nil, fun _ => rfl⟩
 rintro n t h ⟨k, J, a, c, hk, rfl, rfl, hl2⟩
 by_cases hlt : k < zs.length
 ·obtain ⟨z, hz⟩ := getE hlt
  obtain ⟨b, o, hr⟩ := hs.rowM hz
  have hbl : (byt (zs.take k)).length = 8 * k := by rw [byt_len, List.length_take, Nat.min_eq_left (by omega)]
  obtain ⟨e, t1, h1, ⟨rfl, J1, a2, c2, rfl, rfl, hJ1, hl3⟩, w⟩ := (inner (z := z) hl2 (by rw [hbl]; omega)).exact
  obtain ⟨J2, X, e2, rfl⟩ := split_at hJ1
  refine Wp.tree (cE_ok 1) (tree34t s a a2 zs.length sc (byt (zs.take k)).length c ((byt (zs.take k)).length + 8) c2 z k b o H J J2 X) ⟨rfl, rfl⟩ ⟨fun _ => ⟨hr.ptr _ _, hr.one _, e2, ?_, ?_⟩, fun q => by simp at q; omega⟩
  ·refine w.mono fun e s h ⟨q1, q2, q3⟩ => ⟨q1, ?_, ?_⟩
   ·rw [q2]; show denF _ _ = denF _ _; kernel_rfl
   ·rw [q3]; simp [denH, denL, It.den]
  ·have e1 : IntKind.wrap .i64 ((k : Int) + 1) = ((k + 1 : Nat) : Int) := by rw [wrap64 (by omega) (by omega)]; omega
   have eb : byt (zs.take (k + 1)) = byt (zs.take k) ++ wd z := by rw [take_one hz, byt_app]; simp [byt]
   have ebl : (byt (zs.take (k + 1))).length = (byt (zs.take k)).length + 8 := by rw [eb, List.length_append, wd_len]
   refine ⟨n - 1, by omega, k + 1, J2 ++ X, a2, c2, by omega, ?_, ?_, ?_⟩
   ·rw [e1, ebl]; show denF _ _ = denF _ _; kernel_rfl
   ·simp [denH, denL, It.den]
   ·rw [ebl, eb]; exact hl3
 ·have hk8 : k = zs.length := by omega
  subst hk8
  refine Wp.tree (cE_ok 1) (tree34t s a a zs.length sc (byt (zs.take zs.length)).length c 0 0 0 zs.length 0 0 H J [] []) ⟨rfl, rfl⟩ ⟨fun q => by simp at q, fun _ => ?_⟩
  exact end_exit ⟨rfl, J, a, (byt (zs.take zs.length)).length, c, by show denF _ _ = denF _ _; kernel_rfl, rfl, by rw [List.take_length] at hl2 ⊢; exact hl2⟩
theorem sim {H : Heap} {s : Value} {zs : List Int} (hs : RowsW 1 H s (zs.map ir)) (hb : zs.length ≤ 100000000) : Sim Try.prog 34 [s] H fun v h' => v = freshV H ((byt zs).map br) ∧ h' = H ++ freshX 1 ((byt zs).map br) := by
 obtain ⟨sa, sc, rfl⟩ := hs.slcM
 refine Sim.fresh ?_ (all_flat _ fun _ => rfl)
 obtain ⟨e, t1, h1, ⟨rfl, J, a, n, c, rfl, rfl, hl⟩, w⟩ := (outer hs hb).exact
 have := fnS_tree (Q := fun v h' => ∃ X, h' = H ++ X ∧ LsS 1 H X v ((byt zs).map br) ∧ ((byt zs).map br = [] → v = .slice none 0 0)) mixed (gE_ok 1) (gE_q 1) (cE_ok 1) st34 (tree34 sa a zs.length sc n c H J) ⟨rfl, rfl⟩ ⟨w, J, by simp [denH, denL, It.den], hl⟩
 simpa [denH, denL, It.den, denF, denV, denA, den0] using this
theorem summ : Summ Try.prog 34 (smry WB.preB WB.resB) := smry_ok fun zs args h ⟨s, e, hs, hb⟩ => by subst e; exact sim hs hb
end WS
end Go.Proofs.Ytgdojnamjkhknaa
