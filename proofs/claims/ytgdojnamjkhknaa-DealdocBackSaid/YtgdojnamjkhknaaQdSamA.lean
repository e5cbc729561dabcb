/-
  Are two lists the same? Six functions of one text.
-/
import Derived.Test.YtgdojnamjkhknaaQdWFn
import Derived.Test.YtgdojnamjkhknaaQdLcA
namespace Go.Proofs.Ytgdojnamjkhknaa
open Go.Am
set_option linter.all false
set_option maxRecDepth 100000
namespace S27
open WB (gE cE gE_ok gE_q cE_ok)
def body27_0 : IL := .seq (.seq (.reg [ oT 11 (.mov (.tmp 5)), oT 12 (.mov (.tmp 0)), oT 13 (.len (.tmp 12)), oT 14 (.bin .lss (.tmp 11) (.tmp 13))]) (.ite (.tmp 14) (.skip) (.exit 0))) (.seq (.block 1 (.seq (.dreg [ oT 17 (.mov (.tmp 0)), oT 18 (.mov (.tmp 5)), oT 19 (.iadr 1 none (.tmp 17) (.tmp 18)), oT 20 (.load (.tmp 19) none), oT 21 (.mov (.tmp 1)), oT 22 (.mov (.tmp 5)), oT 23 (.iadr 1 none (.tmp 21) (.tmp 22)), oT 24 (.load (.tmp 23) none), oT 25 (.bin .neq (.tmp 20) (.tmp 24))] []) (.ite (.tmp 25) (.seq (.reg [ oT 4 (.mov (.const (.bool false)))]) (.ret)) (.skip)))) (.reg [ oT 15 (.mov (.tmp 5)), oT 16 (.bin .add (.tmp 15) (kI 1)), oT 5 (.mov (.tmp 16))]))
def il27 : FnIL := ⟨26, [.tmp 4], .seq (.reg [ oT 4 (.mov (.const (.bool false)))]) (.seq (.seq (.reg [ oT 6 (.mov (.tmp 0)), oT 7 (.len (.tmp 6)), oT 8 (.mov (.tmp 1)), oT 9 (.len (.tmp 8)), oT 10 (.bin .neq (.tmp 7) (.tmp 9))]) (.ite (.tmp 10) (.seq (.reg [ oT 4 (.mov (.const (.bool false)))]) (.ret)) (.skip))) (.seq (.seq (.reg [ oT 5 (.mov (kI 0))]) (.block 0 (.loop (body27_0)))) (.seq (.reg [ oT 4 (.mov (.const (.bool true)))]) (.ret))))⟩
theorem st27 : stF Try.prog qt 27 = some il27 := by kernel_rfl
theorem tree27t (aa ab : Option Addr) (na nb ca cb : Nat) (i : Int) (x0 y0 : Int) (b1 o1 b2 o2 : Nat) (H J : Heap) : (fun (Z0 : SFr) => pieceS [] (gE 0) (cE 0) 100 (fun i => exL i body27_0 || inL [4] i) body27_0 (.sym (.pur 22000019 (.pointer (some ⟨b1, o1, none⟩)) (.bas 7000020 (.int .u8 x0) (.pur 22000023 (.pointer (some ⟨b2, o2, none⟩)) (.bas 7000024 (.int .u8 y0) (.sym .nil .nil))))) .nil) Z0 [.seg H] =
(.br (decide (i < (na : Int)))
 (.req true (.claim (opA (Plain.env [] (gE 0)) (.iadr 1 none (.const (.slice aa na ca)) (kI i)) [] [] = some ((.pointer (some ⟨b1, o1, none⟩)), []))
 (.claim (opA (Plain.env [] (gE 0)) (.load (.const (.pointer (some ⟨b1, o1, none⟩))) none) [] H = some ((.int .u8 x0), H))
 (.claim (opA (Plain.env [] (gE 0)) (.iadr 1 none (.const (.slice ab nb cb)) (kI i)) [] [] = some ((.pointer (some ⟨b2, o2, none⟩)), []))
 (.claim (opA (Plain.env [] (gE 0)) (.load (.const (.pointer (some ⟨b2, o2, none⟩))) none) [] H = some ((.int .u8 y0), H))
 (.br (x0 != y0)
 (.ret .ret Z0 [.seg H])
 (.ret .normal (frS 26 [(0, (rS aa na ca)), (1, (rS ab nb cb)), (4, (sB false)), (5, (sI (IntKind.wrap .i64 (i + 1))))]) [.seg H])))))))
 (.ret (.exit 0) Z0 [.seg H]))) (frS 26 [(0, (rS aa na ca)), (1, (rS ab nb cb)), (4, (sB false)), (5, (sI i))]) := by show _ = _; kernel_rfl
theorem tree27n (aa ab : Option Addr) (na nb ca cb : Nat) (H : Heap) : fnS [] (gE 0) (cE 0) 100 il27 (.yes .nil) [(rS aa na ca), (rS ab nb cb)] [.seg H] =
(.req ((na : Int) != (nb : Int)) (.ret .ret [(sB false)] [.seg H])) := by kernel_rfl
theorem tree27e (aa ab : Option Addr) (na nb ca cb : Nat) (q : Bool) (H : Heap) : (fun (Z0 : SFr) => fnS [] (gE 0) (cE 0) 100 il27 (.no (.lp2 0 [4] q Z0 ⟨[], []⟩ Z0 ⟨[], []⟩ .nil .nil)) [(rS aa na ca), (rS ab nb cb)] [.seg H] =
(.req (!((na : Int) != (nb : Int))) (.claim (Wp (Plain.env [] (gE 0)) (inL [4]) (.block 0 (.loop body27_0)) (denF [.seg H] (frS 26 [(0, (rS aa na ca)), (1, (rS ab nb cb)), (4, (sB false)), (5, (sI 0))])) (denH [.seg H]) fun e_ s_ h_ => if q then e_ = .normal ∧ s_ = denF [.seg H] Z0 ∧ h_ = denH [.seg H] else e_ = .ret ∧ s_ = denF [.seg H] Z0 ∧ h_ = denH [.seg H])
 (.br q
 (.ret .ret [(sB true)] [.seg H])
 (.ret .ret [(sB false)] [.seg H]))))) (frS 26 [(4, (sB false))]) := by show _ = _; kernel_rfl
theorem loop {H : Heap} {aa ab : Option Addr} {ca cb : Nat} {la lb : List Int} (ha : RowsW 1 H (.slice aa la.length ca) (la.map br)) (hb : RowsW 1 H (.slice ab lb.length cb) (lb.map br)) (hn : la.length = lb.length) (hz : la.length ≤ 1099511627776) :
  Wp (Plain.env [] (gE 0)) (inL [4]) (.block 0 (.loop body27_0)) (denF [.seg H] (frS 26 [(0, (rS aa la.length ca)), (1, (rS ab lb.length cb)), (4, (sB false)), (5, (sI 0))])) (denH [.seg H]) fun e s h => if same la lb then e = .normal ∧ s = denF [.seg H] (frS 26 [(4, (sB false))]) ∧ h = denH [.seg H] else e = .ret ∧ s = denF [.seg H] (frS 26 [(4, (sB false))]) ∧ h = denH [.seg H] := by
 refine Wp.bl (fun m t h => ∃ i : Nat, i + m = la.length ∧ t = denF [.seg H] (frS 26 [(0, (rS aa la.length ca)), (1, (rS ab lb.length cb)), (4, (sB false)), (5, (sI i))]) ∧ h = denH [.seg H] ∧ la.take i = lb.take i) ?_ la.length _ _ ⟨0, by omega, rfl, rfl, rfl⟩
 rintro m t h ⟨i, hi, rfl, rfl, htk⟩
 by_cases hlt : i < la.length
 ·obtain ⟨x, hx⟩ := getE hlt
  obtain ⟨y, hy⟩ := getE (show i < lb.length by omega)
  obtain ⟨b1, o1, r1⟩ := ha.rowM hx
  obtain ⟨b2, o2, r2⟩ := hb.rowM hy
  refine Wp.tree (cE_ok 0) (tree27t aa ab la.length lb.length ca cb i x y b1 o1 b2 o2 H []) ⟨rfl, rfl⟩ ⟨fun _ => ⟨rfl, r1.ptr _ _, r1.one _, r2.ptr _ _, r2.one _, fun hne => end_ret ?_, fun heq => end_next (m - 1) (by omega) ⟨i + 1, by omega, ?_, rfl, ?_⟩⟩, fun q => by simp at q; omega⟩
  ·have hd : la ≠ lb := fun e => by
    subst e
    rw [hx] at hy
    cases hy
    simp at hne
   show if same la lb = true then _ else _
   rw [if_neg (by rw [same_f hd]; simp)]
   exact ⟨rfl, by show denF _ _ = denF _ _; kernel_rfl, rfl⟩
  ·rw [wrap64 (by omega) (by omega)]; rfl
  ·have exy : x = y := by simpa using heq
   rw [WB.take_one hx, WB.take_one hy, htk, exy]
 ·have hil : i = la.length := by omega
  refine Wp.tree (cE_ok 0) (tree27t aa ab la.length lb.length ca cb i 0 0 0 0 0 0 H []) ⟨rfl, rfl⟩ ⟨fun q => by simp at q; omega, fun _ => end_exit ?_⟩
  have he : la = lb := by
   rw [hil, List.take_length, hn, List.take_length] at htk
   exact htk
  show if same la lb = true then _ else _
  rw [if_pos (same_t he)]
  exact ⟨rfl, by show denF _ _ = denF _ _; kernel_rfl, rfl⟩
theorem sim : Summ Try.prog 27 (smry (preSame 1 br) resSame) := smry_ok fun x args H ⟨a, b, e, ha, hb, hl⟩ => by
 subst e
 obtain ⟨la, lb⟩ := x
 obtain ⟨aa, ca, rfl⟩ := ha.slcM
 obtain ⟨ab, cb, rfl⟩ := hb.slcM
 refine (Sim.plain (R := fun v => v = .bool (same la lb)) ?_ (fun v hv => by subst hv; rfl)).mono fun v h' q => q
 by_cases hn : la.length = lb.length
 ·have := fnS_tree (Q := fun v h' => v = .bool (same la lb) ∧ ∃ X, h' = H ++ X) mixed (gE_ok 0) (gE_q 0) (cE_ok 0) st27 (tree27e aa ab la.length lb.length ca cb (same la lb) H) ⟨rfl, rfl⟩ ⟨by simp; omega, loop ha hb hn hl, fun q => ⟨by rw [q]; rfl, [], by simp [denH, denL, It.den]⟩, fun q => ⟨by rw [q]; rfl, [], by simp [denH, denL, It.den]⟩⟩
  simpa [denH, denL, It.den, denF, denV, denA, den0] using this
 ·have hd : same la lb = false := same_f fun q => hn (by rw [q])
  have := fnS_tree (Q := fun v h' => v = .bool (same la lb) ∧ ∃ X, h' = H ++ X) mixed (gE_ok 0) (gE_q 0) (cE_ok 0) st27 (tree27n aa ab la.length lb.length ca cb H) ⟨rfl, rfl⟩ ⟨by simp; omega, by rw [hd]; rfl, [], by simp [denH, denL, It.den]⟩
  simpa [denH, denL, It.den, denF, denV, denA, den0] using this
end S27
namespace S33
open WB (gE cE gE_ok gE_q cE_ok)
end S33
end Go.Proofs.Ytgdojnamjkhknaa
