/-
  word: the whole numbers of bytes.
-/
import Derived.Test.YtgdojnamjkhknaaQdWFn
import Derived.Test.YtgdojnamjkhknaaQdLnA
import Derived.Test.YtgdojnamjkhknaaQdIc
namespace Go.Proofs.Ytgdojnamjkhknaa
open Go.Am Go.RowKit
set_option linter.all false
set_option maxRecDepth 100000
namespace WI
def cL : Code → Code | .seq a _ => a | .block _ b => b | .loop b => b | c => c
def cR : Code → Code | .seq _ b => b | c => c
def rfA : Code → Code | .rangeFunc _ _ a _ => a | c => c
def rfB : Code → Code | .rangeFunc _ _ _ b => b | c => c
noncomputable def c32 : Code := (Try.f32.body).getD .skip
noncomputable abbrev cRF : Code := cL (cR (cL (cR (cR (cR c32)))))
theorem c32_eq : c32 = .seq (cL c32) (.seq (cL (cR c32)) (.seq (cL (cR (cR c32))) (.seq (.seq (cL (cL (cR (cR (cR c32))))) (.block 0 (.rangeFunc (.tmp 14) #[15] (rfA cRF) (rfB cRF)))) (cR (cR (cR (cR c32))))))) := by kernel_rfl
def rgO : Code → Option Oper | .region _ ops _ => ops[0]? | _ => none
noncomputable def oA : Oper := (rgO (rfA cRF)).getD ⟨none, .assign (.tmp 0), 0, "", #[], none⟩
theorem asg_eq : rfA cRF = .region 5 #[oA] false := by kernel_rfl
theorem oA_op : oA.op = .assign (.tmp 15) := by kernel_rfl
theorem oA_dst : oA.dst = some 5 := by kernel_rfl
theorem oA_guard : oA.guard = none := by kernel_rfl
def ilI3 : IL := .reg [ oT 4 (.alloc [(.slice none 0 0)])]
def ilI4 : IL := .reg [ oT 13 (.mov (.tmp 0)), oT 14 (.call 71 [(.tmp 13), (kI 8)])]
def ilI0 : IL := .reg [ oT 2 (.mov (.const (.slice none 0 0))), oT 3 (.mov (.const (.bool false)))]
def ilIP : IL := .seq (.reg [ oT 32 (.load (.tmp 4) none), oT 2 (.mov (.tmp 32)), oT 3 (.mov (.const (.bool true)))]) (.ret)
def ilI1 : IL := .seq (.reg [ oT 9 (.mov (.tmp 0)), oT 10 (.len (.tmp 9)), oT 11 (.bin .rem (.tmp 10) (kI 8)), oT 12 (.bin .neq (.tmp 11) (kI 0))]) (.ite (.tmp 12) (.seq (ilI0) (.ret)) (.skip))
def il71 : FnIL := ⟨9, [.tmp 4], .seq (.reg [ oT 2 (.box (.tmp 0)), oT 3 (.box (.tmp 1)), oT 4 (.mov (.const .nilFunc))]) (.seq (.seq (.reg [ oT 5 (.load (.tmp 3) none), oT 6 (.bin .lss (.tmp 5) (kI 1))]) (.ite (.tmp 6) (.reg [ oT 7 (.bad), oN (.bad)]) (.skip))) (.seq (.reg [ oT 8 (.mkfun (.func 93) [] [(.tmp 2), (.tmp 3)]), oT 4 (.mov (.tmp 8))]) (.ret)))⟩
def ilIB : IL := .block 1 (.seq (.reg [ oT 6 (.mov (kI 0))]) (.seq (.seq (.reg [ oT 16 (.mov (.tmp 5)), oT 17 (.len (.tmp 16)), oT 18 (.mov (kI 0))]) (.block 2 (.loop (.seq (.reg [ oT 19 (.bin .lss (.tmp 18) (.tmp 17))]) (.seq (.ite (.tmp 19) (.skip) (.exit 2)) (.seq (.block 3 (.seq (.reg [ oT 20 (.iadr 1 none (.tmp 16) (.tmp 18)), oT 21 (.load (.tmp 20) none), oT 8 (.mov (.tmp 21))]) (.reg [ oT 22 (.mov (.tmp 6)), oT 23 (.bin .shl (.tmp 22) (.const (.int .u64 8))), oT 24 (.mov (.tmp 8)), oT 25 (.conv .i64 (.tmp 24)), oT 26 (.bin .or (.tmp 23) (.tmp 25)), oT 6 (.mov (.tmp 26))]))) (.reg [ oT 27 (.bin .add (.tmp 18) (kI 1)), oT 18 (.mov (.tmp 27))]))))))) (.reg [ oT 28 (.load (.tmp 4) none), oT 29 (.mov (.tmp 6)), oT 30 (.mkrow [(.int .i64 0)] 1 [(0, 1, (.tmp 29))]), oT 31 (.append 1 8 (.tmp 28) (.tmp 30)), oN (.store (.tmp 4) (.tmp 31) 1)])))
theorem st71 : stF Try.prog qt 71 = some il71 := by kernel_rfl
theorem stI0 : stC Try.prog qt (cL c32) = some ilI0 := by kernel_rfl
theorem stI1 : stC Try.prog qt (cL (cR c32)) = some ilI1 := by kernel_rfl
theorem stI3 : stC Try.prog qt (cL (cR (cR c32))) = some ilI3 := by kernel_rfl
theorem stI4 : stC Try.prog qt (cL (cL (cR (cR (cR c32))))) = some ilI4 := by kernel_rfl
theorem stIB : stC Try.prog qt (rfB (cL (cR (cL (cR (cR (cR c32))))))) = some ilIB := by kernel_rfl
theorem stIP : stC Try.prog qt (cR (cR (cR (cR c32)))) = some ilIP := by kernel_rfl
def inl : Tab := [(71, il71)]
theorem inl_ok : TabOk Try.prog qt inl := .cons st71 .nil
theorem noq : noQt qt inl := fun f F h => rfl
noncomputable abbrev gE (k : Nat) : Env := inE [] inl k noEnv
noncomputable abbrev cE (k : Nat) : CallS := callS [] inl noEnv 100 k
theorem gE_ok (k : Nat) : EnvOk Try.prog (Plain.env [] (gE k)) := Plain.ok .nil (inE_ok (qt := qt) mixed .nil inl_ok noq noEnv_ok noEnv_quiet k)
theorem cE_ok (k : Nat) : CallOk (Plain.env [] (gE k)) (cE k) := callS_ok k
theorem treeI0 (sa : Option Addr) (sn sc : Nat) (H : Heap) : pieceS [] (gE 0) (cE 0) 100 (inL [0, 2, 3, 4, 14]) ilI0 (.nil) (frS 33 [(0, (rS sa sn sc))]) [.seg H] =
(.ret .normal (frS 33 [(0, (rS sa sn sc)), (2, nS), (3, (sB false))]) [.seg H]) := by kernel_rfl
theorem treeI1 (sa : Option Addr) (sn sc : Nat) (H : Heap) : (fun (Z0 : SFr) => pieceS [] (gE 0) (cE 0) 100 (inL [0, 2, 3, 4, 14]) ilI1 (.sym .nil .nil) Z0 [.seg H] =
(.req true (.br ((Int.tmod (sn : Int) 8) != 0)
 (.ret .ret Z0 [.seg H])
 (.ret .normal Z0 [.seg H])))) (frS 33 [(0, (rS sa sn sc)), (2, nS), (3, (sB false))]) := by show _ = _; kernel_rfl
theorem treeI3 (sa : Option Addr) (sn sc : Nat) (H : Heap) : pieceS [] (gE 0) (cE 0) 100 (inL [0, 2, 3, 4, 14]) ilI3 (.nil) (frS 33 [(0, (rS sa sn sc)), (2, nS), (3, (sB false))]) [.seg H] =
(.ret .normal (frS 33 [(0, (rS sa sn sc)), (2, nS), (3, (sB false)), (4, (.ptr 1 0))]) [.seg H, .blk .fix [nS]]) := by kernel_rfl
theorem treeI4 (sa : Option Addr) (sn sc : Nat) (fv : Value) (H : Heap) : (fun (Z0 : SH) => pieceS [] (gE 1) (cE 1) 100 (inL [2, 3, 4, 14]) ilI4 (.con (.use 15000008 (.raw fv) ⟨[], []⟩ .nil)) (frS 33 [(0, (rS sa sn sc)), (2, nS), (3, (sB false)), (4, (.ptr 1 0))]) [.seg H, .blk .fix [nS]] =
(.claim (opA (Plain.env [] (gE 0)) (.mkfun (.func 93) [] [(.tmp 2), (.tmp 3)]) (denF Z0 (frS 9 [(0, (rS sa sn sc)), (1, (sI 8)), (2, (.ptr 2 0)), (3, (.ptr 3 0)), (4, (.raw .nilFunc)), (5, (sI 8)), (6, (sB false))])) (denH Z0) = some (fv, denH Z0))
 (.ret .normal (frS 33 [(2, nS), (3, (sB false)), (4, (.ptr 1 0)), (14, (.raw fv))]) Z0))) [.seg H, .blk .fix [nS], .blk .fix [(rS sa sn sc)], .blk .fix [(sI 8)]] := by show _ = _; kernel_rfl
theorem treeIB (sa : Option Addr) (sn sc : Nat) (la la' : Option Addr) (ln lc lc' B ox : Nat) (b0 b1 b2 b3 b4 b5 b6 b7 : Int) (H J J2 X : Heap) : (fun (Z0 : SH) => (fun (Z1 : SV) => (fun (Z2 : Operand) => (fun (Z3 : SH) => pieceS [] (gE 0) (cE 0) 100 (inL [4]) ilIB (.pur 28000017 (.int .i64 8) (.con (.pur 22000020 (.pointer (some ⟨B, (ox + 0), none⟩)) (.use 7000021 (.raw (.int .u8 b0)) ⟨[], []⟩ (.con (.pur 22000020 (.pointer (some ⟨B, (ox + 1), none⟩)) (.use 7000021 (.raw (.int .u8 b1)) ⟨[], []⟩ (.con (.pur 22000020 (.pointer (some ⟨B, (ox + 2), none⟩)) (.use 7000021 (.raw (.int .u8 b2)) ⟨[], []⟩ (.con (.pur 22000020 (.pointer (some ⟨B, (ox + 3), none⟩)) (.use 7000021 (.raw (.int .u8 b3)) ⟨[], []⟩ (.con (.pur 22000020 (.pointer (some ⟨B, (ox + 4), none⟩)) (.use 7000021 (.raw (.int .u8 b4)) ⟨[], []⟩ (.con (.pur 22000020 (.pointer (some ⟨B, (ox + 5), none⟩)) (.use 7000021 (.raw (.int .u8 b5)) ⟨[], []⟩ (.con (.pur 22000020 (.pointer (some ⟨B, (ox + 6), none⟩)) (.use 7000021 (.raw (.int .u8 b6)) ⟨[], []⟩ (.con (.pur 22000020 (.pointer (some ⟨B, (ox + 7), none⟩)) (.use 7000021 (.raw (.int .u8 b7)) ⟨[], []⟩ (.con (.use 30000031 (rS la' (ln + 1) lc') ⟨[(4, .seg J2)], [.seg X]⟩ .nil))))))))))))))))))))))))))) (frS 33 [(4, (.ptr 1 0)), (5, (rS (some ⟨B, ox, none⟩) 8 8))]) Z0 =
(.claim (opA (Plain.env [] (gE 0)) (.len Z2) [] [] = some ((.int .i64 8), []))
 (.claim (opA (Plain.env [] (gE 0)) (.iadr 1 none Z2 (kI 0)) [] [] = some ((.pointer (some ⟨B, (ox + 0), none⟩)), []))
 (.claim (opA (Plain.env [] (gE 0)) (.load (.const (.pointer (some ⟨B, (ox + 0), none⟩))) none) [] (denH Z0) = some ((.int .u8 b0), denH Z0))
 (.claim (opA (Plain.env [] (gE 0)) (.iadr 1 none Z2 (kI 1)) [] [] = some ((.pointer (some ⟨B, (ox + 1), none⟩)), []))
 (.claim (opA (Plain.env [] (gE 0)) (.load (.const (.pointer (some ⟨B, (ox + 1), none⟩))) none) [] (denH Z0) = some ((.int .u8 b1), denH Z0))
 (.claim (opA (Plain.env [] (gE 0)) (.iadr 1 none Z2 (kI 2)) [] [] = some ((.pointer (some ⟨B, (ox + 2), none⟩)), []))
 (.claim (opA (Plain.env [] (gE 0)) (.load (.const (.pointer (some ⟨B, (ox + 2), none⟩))) none) [] (denH Z0) = some ((.int .u8 b2), denH Z0))
 (.claim (opA (Plain.env [] (gE 0)) (.iadr 1 none Z2 (kI 3)) [] [] = some ((.pointer (some ⟨B, (ox + 3), none⟩)), []))
 (.claim (opA (Plain.env [] (gE 0)) (.load (.const (.pointer (some ⟨B, (ox + 3), none⟩))) none) [] (denH Z0) = some ((.int .u8 b3), denH Z0))
 (.claim (opA (Plain.env [] (gE 0)) (.iadr 1 none Z2 (kI 4)) [] [] = some ((.pointer (some ⟨B, (ox + 4), none⟩)), []))
 (.claim (opA (Plain.env [] (gE 0)) (.load (.const (.pointer (some ⟨B, (ox + 4), none⟩))) none) [] (denH Z0) = some ((.int .u8 b4), denH Z0))
 (.claim (opA (Plain.env [] (gE 0)) (.iadr 1 none Z2 (kI 5)) [] [] = some ((.pointer (some ⟨B, (ox + 5), none⟩)), []))
 (.claim (opA (Plain.env [] (gE 0)) (.load (.const (.pointer (some ⟨B, (ox + 5), none⟩))) none) [] (denH Z0) = some ((.int .u8 b5), denH Z0))
 (.claim (opA (Plain.env [] (gE 0)) (.iadr 1 none Z2 (kI 6)) [] [] = some ((.pointer (some ⟨B, (ox + 6), none⟩)), []))
 (.claim (opA (Plain.env [] (gE 0)) (.load (.const (.pointer (some ⟨B, (ox + 6), none⟩))) none) [] (denH Z0) = some ((.int .u8 b6), denH Z0))
 (.claim (opA (Plain.env [] (gE 0)) (.iadr 1 none Z2 (kI 7)) [] [] = some ((.pointer (some ⟨B, (ox + 7), none⟩)), []))
 (.claim (opA (Plain.env [] (gE 0)) (.load (.const (.pointer (some ⟨B, (ox + 7), none⟩))) none) [] (denH Z0) = some ((.int .u8 b7), denH Z0))
 (.claim (List.length J2 = List.length J) (.claim (opA (Plain.env [] (gE 0)) (.append 1 8 (.const (.slice la ln lc)) (.const (denV (ofs Z3) (.sl 5 0 1 1)))) [] (denH Z3) = some ((.slice la' (ln + 1) lc'), denH [.seg H, .blk .fix [(rS la ln lc)], .blk .fix [(rS sa sn sc)], .blk .fix [(sI 8)], .seg J2, .blk .fix [Z1], .seg X]))
 (.ret .normal (frS 33 [(4, (.ptr 1 0))]) [.seg H, .blk .fix [(rS la' (ln + 1) lc')], .blk .fix [(rS sa sn sc)], .blk .fix [(sI 8)], .seg J2, .blk .fix [Z1], .seg X]))))))))))))))))))))) [.seg H, .blk .fix [(rS la ln lc)], .blk .fix [(rS sa sn sc)], .blk .fix [(sI 8)], .seg J, .blk .fix [Z1]]) (.const (.slice (some ⟨B, ox, none⟩) 8 8))) (sI (orI .i64 (shlI .i64 (orI .i64 (shlI .i64 (orI .i64 (shlI .i64 (orI .i64 (shlI .i64 (orI .i64 (shlI .i64 (orI .i64 (shlI .i64 (orI .i64 (shlI .i64 (orI .i64 0 (IntKind.wrap .i64 (b0))) 8) (IntKind.wrap .i64 (b1))) 8) (IntKind.wrap .i64 (b2))) 8) (IntKind.wrap .i64 (b3))) 8) (IntKind.wrap .i64 (b4))) 8) (IntKind.wrap .i64 (b5))) 8) (IntKind.wrap .i64 (b6))) 8) (IntKind.wrap .i64 (b7))))) [.seg H, .blk .fix [(rS la ln lc)], .blk .fix [(rS sa sn sc)], .blk .fix [(sI 8)], .seg J] := by show _ = _; kernel_rfl
theorem treeIP (la : Option Addr) (ln lc : Nat) (H Y : Heap) : pieceS [] (gE 0) (cE 0) 100 (inL [2, 3]) ilIP (.nil) (frS 33 [(2, nS), (3, (sB false)), (4, (.ptr 1 0))]) [.seg H, .blk .fix [(rS la ln lc)], .seg Y] =
(.ret .ret (frS 33 [(2, (rS la ln lc)), (3, (sB true))]) [.seg H, .blk .fix [(rS la ln lc)], .seg Y]) := by kernel_rfl
def val8 (b0 b1 b2 b3 b4 b5 b6 b7 : Int) : Int := (orI .i64 (shlI .i64 (orI .i64 (shlI .i64 (orI .i64 (shlI .i64 (orI .i64 (shlI .i64 (orI .i64 (shlI .i64 (orI .i64 (shlI .i64 (orI .i64 (shlI .i64 (orI .i64 0 (IntKind.wrap .i64 (b0))) 8) (IntKind.wrap .i64 (b1))) 8) (IntKind.wrap .i64 (b2))) 8) (IntKind.wrap .i64 (b3))) 8) (IntKind.wrap .i64 (b4))) 8) (IntKind.wrap .i64 (b5))) 8) (IntKind.wrap .i64 (b6))) 8) (IntKind.wrap .i64 (b7)))
def chunk (bs : List Int) (k : Nat) : Int := val8 (bs.getD (8 * k) 0) (bs.getD (8 * k + 1) 0) (bs.getD (8 * k + 2) 0) (bs.getD (8 * k + 3) 0) (bs.getD (8 * k + 4) 0) (bs.getD (8 * k + 5) 0) (bs.getD (8 * k + 6) 0) (bs.getD (8 * k + 7) 0)
def ints (bs : List Int) : List Int := (List.range (bs.length / 8)).map (chunk bs)
theorem lvl {lv lv' : Lv} {t s : Fr} (a : Ag (fun i => lv i = false) t s) {n : Nat} (hn : s.length = n) (h : (List.range n).all (fun i => !(lv' i) || lv i) = true) : Ag (fun i => lv' i = false) t s := by
 refine ⟨a.1, fun i hi => ?_⟩
 have hi' : lv' i = true := by cases q : lv' i with | true => rfl | false => exact absurd q hi
 by_cases hlt : i < n
 ·rw [List.all_eq_true] at h
  have := h i (List.mem_range.2 hlt)
  rw [hi'] at this
  exact a.2 i fun q => by rw [q] at this; simp at this
 ·have e : ∀ t : Fr, t.length ≤ i → t.getD i undef = undef := fun t h => by simp [List.getD, List.getElem?_eq_none h]
  rw [e t (by rw [a.1]; omega), e s (by omega)]
theorem step {r : Option Nat} {m : Nat} {ds : List Deferred} {Γ : Env} (hΓ : EnvOk Try.prog Γ) {lv0 lv : Lv} {x : IL} {code : Code} {t s : Fr} {h : Heap} {K : Post2} (hd : noD x = true) (hc : stC Try.prog qt code = some x) (a : Ag (fun i => lv0 i = false) t s) {n : Nat} (hn : s.length = n)
  (hl : (List.range n).all (fun i => !(exL i x || lv i) || lv0 i) = true) (w : Wp Γ lv x s h K) : TF Try.prog r m ds code (fun e t' h' => ∃ e' s', e = e'.ex ∧ Ag (fun i => lv i = false) t' s' ∧ K e' s' h') t h :=
 Wp.round hΓ hd hc (Wp.ag (lvl a hn hl) w)
theorem HR.cell {ι : Map} {h : Heap} {w : World} {B : Nat} {kd : Kind} {v : Value} {l : Am.Loc} (H : HR ι h w) (hB : h[B]? = some (some ⟨kd, [v]⟩)) (hl : ι B = some l) : ∃ v', w.cell? ⟨l.b, l.base + 0, none⟩ = some v' ∧ VC ι v v' ∧ l.b < w.heap.size := by
 obtain ⟨l', q1, q2, q3, q4, q5, c, e, f, q6, q7, q8, q9⟩ := H.live B _ hB
 rw [hl] at q1; cases q1
 have hn : l.n = 1 := q2
 rw [hn] at q9
 cases hd : (c.toList.drop l.base).take 1 with
 | nil => rw [hd] at q9; cases q9
 | cons v' r =>
  rw [hd] at q9
  cases q9 with
  | cons hv hr =>
   refine ⟨v', ?_, hv, (Array.getElem?_eq_some_iff.1 q6).1⟩
   have : c.toList[l.base]? = some v' := by
    have := congrArg (fun x => x[0]?) hd
    simpa [List.getElem?_take, List.getElem?_drop] using this
   simp only [World.cell?, q6, Nat.add_zero]
   simpa using this
theorem asg_wp {l m : Nat} {W : World} {K : Act → World → Prop} {T0 : Array Value} {v : Value} (h15 : 15 < T0.size) (hK : K { tmps := (T0.setIfInBounds 15 v).setIfInBounds 5 v, defers := [] } W) :
  (rfA cRF).wpIn ((rF none).inRound l) m Try.prog (Exit.then K (fun _ _ _ => False)) { tmps := T0.setIfInBounds 15 v, defers := [] } W := by
 rw [asg_eq]
 refine wpIn_region_list ?_
 show wpListIn _ _ _ _ _ [oA] _ _
 unfold wpListIn
 have hw : Region.wanted oA (yielded #[oA] (T0.setIfInBounds 15 v)) = true := by unfold Region.wanted; rw [oA_guard]
 rw [if_pos hw]
 unfold Oper.wpIn
 rw [Oper.semAt_eq _ _ _ (fun c q => by rw [oA_op] at q; cases q)]
 refine ⟨fun _ _ => trivial, ?_⟩
 have e : (execOp (Act.eval { tmps := T0.setIfInBounds 15 v, defers := [] }) oA).run Try.prog W = .ok (.value v) W := by
  unfold execOp
  simp only [oA_op]
  have : (Act.eval { tmps := T0.setIfInBounds 15 v, defers := [] } (.tmp 15)) = v := by
   show (T0.setIfInBounds 15 v).getD 15 undef = v
   simp [Array.getD, h15]
  rw [this]
  rfl
 rw [e]
 have e2 : (Act.put { tmps := T0.setIfInBounds 15 v, defers := [] } oA.dst v) = { tmps := (T0.setIfInBounds 15 v).setIfInBounds 5 v, defers := [] } := by
  unfold Act.put
  rw [oA_dst]
 rw [Oper.uponIn_value, e2]
 exact hK
abbrev I4 (sa : Option Addr) (sn sc : Nat) (H : Heap) : SH := [.seg H, .blk .fix [nS], .blk .fix [rS sa sn sc], .blk .fix [sI 8]]
abbrev IR (sa : Option Addr) (sn sc : Nat) (la : Option Addr) (ln lc : Nat) (H J : Heap) : SH := [.seg H, .blk .fix [rS la ln lc], .blk .fix [rS sa sn sc], .blk .fix [sI 8], .seg J]
theorem byte_at {H : Heap} {B o c : Nat} {bs : List Int} (h : RowsW 1 H (.slice (some ⟨B, o, none⟩) bs.length c) (bs.map br)) {i : Nat} (hi : i < bs.length) : ∃ blk, rd H B = some blk ∧ blk.cells[o + i]? = some (.int .u8 (bs.getD i 0)) := by
 rcases h with ⟨q, _⟩ | ⟨B', o', c', blk, q, _, q3, _, _, q6⟩
 ·cases q
 ·simp only [Value.slice.injEq, Option.some.injEq, Addr.mk.injEq] at q
  obtain ⟨⟨rfl, rfl, _⟩, _, rfl⟩ := q
  refine ⟨blk, q3, ?_⟩
  have hr : (bs.map br)[i]? = some (br (bs.getD i 0)) := by
   rw [List.getElem?_map, List.getElem?_eq_getElem hi]
   simp [List.getD, List.getElem?_eq_getElem hi]
  have := q6 i _ hr
  have := congrArg (fun x => x[0]?) this
  simpa [List.getElem?_take, List.getElem?_drop, br] using this
theorem round_wp {H J : Heap} {B o sc : Nat} {la : Option Addr} {ln lc k : Nat} {bs : List Int} {rows : List Int} (hs : RowsW 1 H (.slice (some ⟨B, o, none⟩) bs.length sc) (bs.map br)) (hk : 8 * k + 8 ≤ bs.length) (hl : LsS 1 (denH (I4 (some ⟨B, o, none⟩) bs.length sc H)) J (.slice la rows.length lc) (rows.map ir)) (hr : rows.length ≤ 100000000000) :
  Wp (Plain.env [] (gE 0)) (inL [4]) ilIB (denF (I4 (some ⟨B, o, none⟩) bs.length sc H) (frS 33 [(4, (.ptr 1 0)), (5, (rS (some ⟨B, o + 8 * k, none⟩) 8 8))])) (denH (IR (some ⟨B, o, none⟩) bs.length sc la rows.length lc H J)) fun e _ h' => e = .normal ∧ ∃ (la' : Option Addr) (lc' : Nat) (J' : Heap), h' = denH (IR (some ⟨B, o, none⟩) bs.length sc la' (rows.length + 1) lc' H J') ∧
   LsS 1 (denH (I4 (some ⟨B, o, none⟩) bs.length sc H)) J' (.slice la' (rows.length + 1) lc') ((rows ++ [chunk bs k]).map ir) := by
 have base : (denH [.seg H, .blk .fix [rS la rows.length lc], .blk .fix [rS (some ⟨B, o, none⟩) bs.length sc], .blk .fix [sI 8]]).length = (denH (I4 (some ⟨B, o, none⟩) bs.length sc H)).length := by simp [denH, denL, It.den]
 obtain ⟨la', lc', J2, X, z1, z2, z3⟩ := appRow (I := [.seg H, .blk .fix [rS la rows.length lc], .blk .fix [rS (some ⟨B, o, none⟩) bs.length sc], .blk .fix [sI 8]]) (R := []) (R0 := []) rfl (fun _ => rfl) (w := 1) (eby := 8) (cs := [sI (chunk bs k)]) (row := ir (chunk bs k)) (hl.base base.symm) (fun _ => rfl) rfl (by decide) (by rw [List.length_map]; omega) (by rw [List.length_map]; omega)
 rw [List.length_map] at z2 z3
 have ld : ∀ i, i < 8 → ∀ Γ, opA Γ (.load (.const (.pointer (some ⟨B, o + 8 * k + i, none⟩))) none) [] (denH (IR (some ⟨B, o, none⟩) bs.length sc la rows.length lc H J)) = some (.int .u8 (bs.getD (8 * k + i) 0), denH (IR (some ⟨B, o, none⟩) bs.length sc la rows.length lc H J)) := fun i hi Γ => by
  obtain ⟨blk, q1, q2⟩ := byte_at hs (i := 8 * k + i) (by omega)
  refine ldf ⟨blk, ?_, by rw [← q2]; congr 1; omega⟩
  have : denH (IR (some ⟨B, o, none⟩) bs.length sc la rows.length lc H J) = H ++ denL (ofs (IR (some ⟨B, o, none⟩) bs.length sc la rows.length lc H J)) [.blk .fix [rS la rows.length lc], .blk .fix [rS (some ⟨B, o, none⟩) bs.length sc], .blk .fix [sI 8], .seg J] := rfl
  rw [this]
  exact rd_more q1
 have := Wp.tree (K := fun e _ h' => e = .normal ∧ ∃ (la' : Option Addr) (lc' : Nat) (J' : Heap), h' = denH (IR (some ⟨B, o, none⟩) bs.length sc la' (rows.length + 1) lc' H J') ∧
   LsS 1 (denH (I4 (some ⟨B, o, none⟩) bs.length sc H)) J' (.slice la' (rows.length + 1) lc') ((rows ++ [chunk bs k]).map ir)) (cE_ok 0) (treeIB (some ⟨B, o, none⟩) bs.length sc la la' rows.length lc lc' B (o + 8 * k) (bs.getD (8 * k) 0) (bs.getD (8 * k + 1) 0) (bs.getD (8 * k + 2) 0) (bs.getD (8 * k + 3) 0) (bs.getD (8 * k + 4) 0) (bs.getD (8 * k + 5) 0) (bs.getD (8 * k + 6) 0) (bs.getD (8 * k + 7) 0) H J J2 X) ⟨rfl, rfl⟩
  ⟨rfl, rfl, ld 0 (by omega) _, rfl, ld 1 (by omega) _, rfl, ld 2 (by omega) _, rfl, ld 3 (by omega) _, rfl, ld 4 (by omega) _, rfl, ld 5 (by omega) _, rfl, ld 6 (by omega) _, rfl, ld 7 (by omega) _, z1, z2 _, rfl, la', lc', J2 ++ (some ⟨.fix, ir (chunk bs k)⟩ :: X), by simp [denH, denL, It.den, ir, chunk, val8, den0], ?_⟩
 ·exact this
 ·have := LsS.base base z3
  rw [List.map_append]
  exact this
theorem LsS.shift {w : Nat} {H A J : Heap} {l : Value} {rows : List (List Value)} (h : LsS w (H ++ A) J l rows) : LsS w H (A ++ J) l rows := by
 have g : ∀ (j : Nat) (b : Option Blk), J[j]? = some b → (A ++ J)[A.length + j]? = some b := fun j b e => by
  rw [List.getElem?_append_right (by omega), Nat.add_sub_cancel_left, e]
 rcases h with h | ⟨j, h1, h2, h3⟩ | ⟨j, h1, h2, h3, h4⟩
 ·exact .inl h
 ·exact .inr (.inl ⟨A.length + j, h1, by rw [h2, List.length_append, Nat.add_assoc], g _ _ h3⟩)
 ·exact .inr (.inr ⟨A.length + j, by rw [h1, List.length_append, Nat.add_assoc], h2, h3, g _ _ h4⟩)
theorem res_ok {ι : Map} {h : Heap} {w : World} {t : Fr} {a : Act} {ds : List Deferred} (R : RelD ds ι t h a w) {la : Option Addr} {ln lc : Nat} {b : Bool} (e2 : t.getD 2 undef = .slice la ln lc) (e3 : t.getD 3 undef = .bool b) :
  ∃ v', (results Try.f32 a.tmps).run Try.prog w = .ok v' w ∧ VR ι (.tuple ⟨[.slice la ln lc, .bool b]⟩) v' :=
 results_sim (rs := [.tmp 2, .tmp 3]) R.hr R.fr (by kernel_rfl) (by simp only [resA, resAs, resA1, e2, e3]; rfl)
abbrev fvOf (H : Heap) : Value := .func (.func 93) ⟨[]⟩ ⟨[.pointer (some ⟨H.length + 1, 0, none⟩), .pointer (some ⟨H.length + 2, 0, none⟩)]⟩
theorem fv_inv {ι : Map} {H : Heap} {v : Value} (h : VR ι (fvOf H) v) : ∃ l2 l3, ι (H.length + 1) = some l2 ∧ ι (H.length + 2) = some l3 ∧ v = .func (.func 93) #[] #[.pointer (some ⟨l2.b, l2.base + 0, none⟩), .pointer (some ⟨l3.b, l3.base + 0, none⟩)] := by
 cases h with
 | va h => cases h with
  | vc h => cases h with
   | v0 h => cases h
   | fn f h1 h2 =>
    cases h1
    cases h2 with
    | cons p q => cases q with
     | cons p2 q2 =>
      cases q2
      cases p with
      | ptr hl2 => cases p2 with
       | ptr hl3 => exact ⟨_, _, hl2, hl3, rfl⟩
theorem seq_ok {H : Heap} {sa : Option Addr} {sc : Nat} {bs : List Int} {ι ι4 : Map} {w w4 : World} {l2 l3 : Am.Loc} (hs : RowsW 1 H (.slice sa bs.length sc) (bs.map br)) (hb : bs.length ≤ 1000000000) (h8 : bs.length % 8 = 0) (HH : HR ι H w) (hsub : Sub ι ι4) (hl2 : ι4 (H.length + 1) = some l2) (hl3 : ι4 (H.length + 2) = some l3)
  (H4 : HR ι4 (denH (I4 sa bs.length sc H)) w4) :
  ∃ (lb ob : Nat) (G : World → Prop), (∀ ι' la ln lc J W, Sub ι4 ι' → HR ι' (denH (IR sa bs.length sc la ln lc H J)) W → G W) ∧ (∀ W l o', w4.heap.size ≤ l → G W → G (W.putObj l o')) ∧
   SeqStopsK (rF none) (5 - 1) Try.prog 93 #[.pointer (some ⟨l2.b, l2.base + 0, none⟩), .pointer (some ⟨l3.b, l3.base + 0, none⟩)] (IC.enc lb ob (N := bs.length / 8)) (fun A B => G A → G B) (fun ys => ys.map Fin.val = List.range (bs.length / 8)) (fun _ => True) (bs.length / 8) w4 ∧
   (∀ (x : Fin (bs.length / 8)) ι', Sub ι4 ι' → ∃ B o, sa = some ⟨B, o, none⟩ ∧ VR ι' (.slice (some ⟨B, o + 8 * x.val, none⟩) 8 8) (.slice (some ⟨lb, ob + 8 * x.val, none⟩) 8 8)) := by
 have c2 : ∀ la ln lc J, (denH (IR sa bs.length sc la ln lc H J))[H.length + 1]? = some (some ⟨.fix, [.slice sa bs.length sc]⟩) := fun la ln lc J => by
  show (H ++ _)[H.length + 1]? = _
  rw [List.getElem?_append_right (by omega), Nat.add_sub_cancel_left]; rfl
 have c3 : ∀ la ln lc J, (denH (IR sa bs.length sc la ln lc H J))[H.length + 2]? = some (some ⟨.fix, [.int .i64 8]⟩) := fun la ln lc J => by
  show (H ++ _)[H.length + 2]? = _
  rw [List.getElem?_append_right (by omega), Nat.add_sub_cancel_left]; rfl
 have e4 : denH (I4 sa bs.length sc H) = denH (IR sa bs.length sc none 0 0 H []) := by simp [denH, denL, It.den, den0]
 have b2 : l2.b < w4.heap.size := by rw [e4] at H4; obtain ⟨_, _, _, q⟩ := HR.cell H4 (c2 _ _ _ _) hl2; exact q
 have b3 : l3.b < w4.heap.size := by rw [e4] at H4; obtain ⟨_, _, _, q⟩ := HR.cell H4 (c3 _ _ _ _) hl3; exact q
 have put : ∀ (W : World) (l : Nat) (o' : Obj) (b x : Nat), w4.heap.size ≤ l → b < w4.heap.size → (W.putObj l o').cell? ⟨b, x, none⟩ = W.cell? ⟨b, x, none⟩ := fun W l o' b x hl hb' => World.cell?_of_block (World.putObj_heap_other (by show b ≠ l; omega))
 have low : ∀ (W : World) (b x : Nat), Below w4.heap.size w4 W → b < w4.heap.size → W.cell? ⟨b, x, none⟩ = w4.cell? ⟨b, x, none⟩ := fun W b x hW hb' => World.cell?_of_block (hW.block b hb')
 have dr : ∀ (W W' : World) (b x : Nat) (v : Value), W.grownBy W' none → W.cell? ⟨b, x, none⟩ = some v → W'.cell? ⟨b, x, none⟩ = some v := fun W W' b x v hg hv => by
  obtain ⟨o, ho, _⟩ := cells_of_cell hv
  rw [← hv]
  exact World.cell?_of_block (hg.block b (Array.getElem?_eq_some_iff.1 ho).1 (by simp))
 have int8 : ∀ {ι' : Map} {v : Value}, VC ι' (.int .i64 8) v → v = .int .i64 8 := fun h => by
  cases h with
  | v0 h => cases h; rfl
 by_cases h0 : bs.length = 0
 ·have hN : bs.length / 8 = 0 := by omega
  rw [hN]
  have zs : ∀ {ι' : Map} {v : Value}, VC ι' (.slice sa bs.length sc) v → ∃ a c, v = .slice a 0 c := fun h => by
   rw [h0] at h
   cases h with
   | v0 h => cases h with
    | nilSl => exact ⟨_, _, rfl⟩
    | sl => exact ⟨_, _, rfl⟩
    | sl0 => exact ⟨_, _, rfl⟩
  refine ⟨0, 0, fun W => ∃ a c, W.cell? ⟨l2.b, l2.base + 0, none⟩ = some (.slice a 0 c), ?_, ?_, ?_, fun x => x.elim0⟩
  ·intro ι' la ln lc J W hS hW
   obtain ⟨v', q1, q2, _⟩ := HR.cell hW (c2 _ _ _ _) (hS _ _ hl2)
   obtain ⟨a, c, rfl⟩ := zs q2
   exact ⟨a, c, q1⟩
  ·rintro W l o' hl ⟨a, c, q⟩
   exact ⟨a, c, by rw [put W l o' _ _ hl b2]; exact q⟩
  ·intro l J Jx W hW hJ _ hY hz
   refine IC.chunk_nil 4 (by decide) l _ _ _ _ J Jx W ?_ hz
   rw [e4] at H4
   obtain ⟨v', q1, q2, _⟩ := HR.cell H4 (c2 _ _ _ _) hl2
   obtain ⟨a, c, rfl⟩ := zs q2
   exact ⟨a, c, by rw [low W _ _ hW b2]; exact q1⟩
 ·rcases hs with ⟨_, q⟩ | ⟨B, o, c, blk, q, q2, q3, q4, q5, q6⟩
  ·exact absurd (by simpa using congrArg List.length q) h0
  ·simp only [Value.slice.injEq] at q
   obtain ⟨rfl, _, rfl⟩ := q
   rw [List.length_map] at q2
   obtain ⟨ls, p1, _⟩ := HH.live B blk (rd_some q3)
   have zs : ∀ {ι' : Map} {v : Value}, Sub ι4 ι' → VC ι' (.slice (some ⟨B, o, none⟩) bs.length sc) v → ∃ c, bs.length ≤ c ∧ v = .slice (some ⟨ls.b, ls.base + o, none⟩) bs.length c := fun {ι'} {v} hS h => by
    generalize hn : bs.length = n at h h0 q2
    cases h with
    | v0 h => cases h with
     | sl hl hc =>
      have := hS _ _ (hsub _ _ p1)
      rw [this] at hl; cases hl
      exact ⟨_, by omega, rfl⟩
     | sl0 => exact absurd rfl h0
   let G : World → Prop := fun W => ∃ cap, bs.length ≤ cap ∧ W.cell? ⟨l2.b, l2.base + 0, none⟩ = some (.slice (some ⟨ls.b, ls.base + o, none⟩) bs.length cap) ∧ W.cell? ⟨l3.b, l3.base + 0, none⟩ = some (.int .i64 8)
   have hG : ∀ ι' la ln lc J W, Sub ι4 ι' → HR ι' (denH (IR (some ⟨B, o, none⟩) bs.length sc la ln lc H J)) W → G W := fun ι' la ln lc J W hS hW => by
    obtain ⟨v', r1, r2, _⟩ := HR.cell hW (c2 _ _ _ _) (hS _ _ hl2)
    obtain ⟨v3, r3, r4, _⟩ := HR.cell hW (c3 _ _ _ _) (hS _ _ hl3)
    obtain ⟨cap, s1, rfl⟩ := zs hS r2
    rw [int8 r4] at r3
    exact ⟨cap, s1, r1, r3⟩
   refine ⟨ls.b, ls.base + o, G, hG, ?_, ?_, ?_⟩
   ·rintro W l o' hl ⟨cap, s1, s2, s3⟩
    exact ⟨cap, s1, by rw [put W l o' _ _ hl b2]; exact s2, by rw [put W l o' _ _ hl b3]; exact s3⟩
   ·intro l J Jx W hW hJ _ hY hz
    refine IC.chunk_in 4 (by decide) l _ _ _ _ _ _ bs.length (bs.length / 8) (by omega) (by omega) J Jx (fun s A A' h hg => hJ s A A' none h hg fun r e => by cases e) G (fun W h => h) ?_ hY W ?_ hz
    ·rintro A A' ⟨cap, s1, s2, s3⟩ hg
     exact ⟨cap, s1, dr _ _ _ _ _ hg s2, dr _ _ _ _ _ hg s3⟩
    ·rw [e4] at H4
     obtain ⟨cap, s1, s2, s3⟩ := hG ι4 none 0 0 [] w4 (Sub.refl _) H4
     exact ⟨cap, s1, by rw [low W _ _ hW b2]; exact s2, by rw [low W _ _ hW b3]; exact s3⟩
   ·intro x ι' hS
    refine ⟨B, o, rfl, .v0 ?_⟩
    rw [Nat.add_assoc]
    exact .sl (hS _ _ (hsub _ _ p1)) (.inl rfl)
theorem main {H : Heap} {sa : Option Addr} {sc : Nat} {bs : List Int} (hs : RowsW 1 H (.slice sa bs.length sc) (bs.map br)) (hb : bs.length ≤ 1000000000) : Sim Try.prog 32 [.slice sa bs.length sc] H fun v h' => ∃ (X : Heap) (la : Option Addr) (lc : Nat) (zs : List Int), h' = H ++ X ∧
  v = .tuple ⟨[.slice la zs.length lc, .bool (decide (bs.length % 8 = 0))]⟩ ∧ LsS 1 H X (.slice la zs.length lc) (zs.map ir) ∧ (zs = [] → la = none ∧ lc = 0) ∧ zs = if bs.length % 8 = 0 then ints bs else [] := by
 refine ⟨by kernel_rfl, fun ι w args' hA HH => ?_⟩
 refine (rF_calls (r := none) (n := 5)).1 (callsIn_of_wp_marks (F := rF none) Try.func32 (c := c32) (by kernel_rfl) trivial ?_ rfl)
 have hal := hA.length
 have R0 : RelD [] ι ([.slice sa bs.length sc] ++ List.replicate 32 undef) H { tmps := ⟨args'⟩ ++ Array.replicate (Try.f32.ntmps - (⟨args'⟩ : Array Value).size) undef, defers := [] } w := by
  refine ⟨?_, rfl, HH⟩
  rw [Try.ntmps32]
  simp only [Array.toList_append, Array.toList_replicate, List.size_toArray, ← hal]
  exact hA.append (F2.replicate _ _ _ (VR.undef ι))
 generalize ({ tmps := ⟨args'⟩ ++ Array.replicate (Try.f32.ntmps - (⟨args'⟩ : Array Value).size) undef, defers := [] } : Act) = a0 at R0 ⊢
 rw [c32_eq]
 have ag0 : Ag (fun i => inL [0, 2, 3, 4, 14] i = false) ([.slice sa bs.length sc] ++ List.replicate 32 undef) (denF [.seg H] (frS 33 [(0, (rS sa bs.length sc))])) := by
  rw [show denF [.seg H] (frS 33 [(0, (rS sa bs.length sc))]) = [.slice sa bs.length sc] ++ List.replicate 32 undef from by kernel_rfl]
  exact .refl _
 have eH : H = denH [.seg H] := by simp [denH, denL, It.den]
 have w0 := Wp.tree (K := fun e s' h' => e = .normal ∧ s' = denF [.seg H] (frS 33 [(0, (rS sa bs.length sc)), (2, nS), (3, (sB false))]) ∧ h' = denH [.seg H]) (cE_ok 0) (treeI0 sa bs.length sc H) ⟨rfl, rfl⟩ ⟨rfl, rfl, rfl⟩
 have R0' : RelD [] ι ([.slice sa bs.length sc] ++ List.replicate 32 undef) (denH [.seg H]) a0 w := by rw [← eH]; exact R0
 refine wpIn_seq (wpIn_mono (step (r := none) (m := 5) (gE_ok 0) rfl stI0 ag0 (n := 33) rfl (by kernel_rfl) w0 ι a0 w R0') ?_)
 rintro e a1 w1 ⟨t1, h1, ι1, ⟨e', s1, rfl, ag1, rfl, rfl, rfl⟩, R1, E1⟩
 show Code.wpIn _ _ _ _ _ _ _
 have tm : Int.tmod (bs.length : Int) 8 = ((bs.length % 8 : Nat) : Int) := rfl
 have w1' := Wp.tree (K := fun e s' h' => ((e = .ret ∧ ¬ bs.length % 8 = 0) ∨ (e = .normal ∧ bs.length % 8 = 0)) ∧ s' = denF [.seg H] (frS 33 [(0, (rS sa bs.length sc)), (2, nS), (3, (sB false))]) ∧ h' = denH [.seg H]) (cE_ok 0) (treeI1 sa bs.length sc H) ⟨rfl, rfl⟩ ⟨rfl, fun q => ⟨.inl ⟨rfl, by rw [tm] at q; simp at q; omega⟩, rfl, rfl⟩, fun q => ⟨.inr ⟨rfl, by rw [tm] at q; simp at q; omega⟩, rfl, rfl⟩⟩
 refine wpIn_seq (wpIn_mono (step (r := none) (m := 5) (gE_ok 0) rfl stI1 ag1 (n := 33) rfl (by kernel_rfl) w1' ι1 a1 w1 R1) ?_)
 rintro e a2 w2 ⟨t2, h2, ι2, ⟨e', s2, rfl, ag2, he, rfl, rfl⟩, R2, E2⟩
 have E02 := E1.trans E2
 rcases he with ⟨rfl, h8⟩ | ⟨rfl, h8⟩
 ·
  show LeavesInM _ _ _ _ _ _ a2.defers _ _
  rw [R2.defers]
  obtain ⟨v', r1, r2⟩ := res_ok R2 (la := none) (ln := 0) (lc := 0) (b := false) (ag2.2 2 (by decide)) (ag2.2 3 (by decide))
  exact ⟨v', r1, _, v', denH [.seg H], ι2, ⟨[], none, 0, [], by simp [denH, denL, It.den], by simp [h8], .nil, fun _ => ⟨rfl, rfl⟩, by simp [h8]⟩, rfl, r2, R2.hr, by rw [← eH] at E02 ⊢; exact E02⟩
 show Code.wpIn _ _ _ _ _ _ _
 have w3' := Wp.tree (K := fun e s' h' => e = .normal ∧ s' = denF [.seg H, .blk .fix [nS]] (frS 33 [(0, (rS sa bs.length sc)), (2, nS), (3, (sB false)), (4, (.ptr 1 0))]) ∧ h' = denH [.seg H, .blk .fix [nS]]) (cE_ok 0) (treeI3 sa bs.length sc H) ⟨rfl, rfl⟩ ⟨rfl, rfl, rfl⟩
 refine wpIn_seq (wpIn_mono (step (r := none) (m := 5) (gE_ok 0) rfl stI3 ag2 (n := 33) rfl (by kernel_rfl) w3' ι2 a2 w2 R2) ?_)
 rintro e a3 w3 ⟨t3, h3, ι3, ⟨e', s3, rfl, ag3, rfl, rfl, rfl⟩, R3, E3⟩
 show Code.wpIn _ _ _ _ _ _ _
 have w4' := Wp.tree (K := fun e s' h' => e = .normal ∧ s' = denF (I4 sa bs.length sc H) (frS 33 [(2, nS), (3, (sB false)), (4, (.ptr 1 0)), (14, (.raw (fvOf H)))]) ∧ h' = denH (I4 sa bs.length sc H)) (cE_ok 1) (treeI4 sa bs.length sc (fvOf H) H) ⟨rfl, rfl⟩ ⟨rfl, rfl, rfl, rfl⟩
 refine wpIn_seq (wpIn_seq (wpIn_mono (step (r := none) (m := 5) (gE_ok 1) rfl stI4 ag3 (n := 33) rfl (by kernel_rfl) w4' ι3 a3 w3 R3) ?_))
 rintro e a4 w4 ⟨t4, h4, ι4, ⟨e', s4, rfl, ag4, rfl, rfl, rfl⟩, R4, E4⟩
 show Code.wpIn _ _ _ _ _ _ _
 have E04 := (E02.trans E3).trans E4
 rw [← eH] at E04
 have hfv := ev_sim R4.fr (x := .tmp 14) rfl
 have e14 : ev t4 (.tmp 14) = fvOf H := ag4.2 14 (by decide)
 rw [e14] at hfv
 obtain ⟨l2, l3, hl2, hl3, efv⟩ := fv_inv hfv
 obtain ⟨lb, ob, G, hG, hGp, hseq, hx⟩ := seq_ok hs hb h8 HH E04.sub hl2 hl3 R4.hr
 have len4 : t4.length = 33 := ag4.1.trans rfl
 have size4 : a4.tmps.size = 33 := by
  have := R4.fr.length
  rw [len4] at this
  simpa using this.symm
 refine wpIn_block (wpIn_rangeFunc_ownF (F := rF none) (n := 5) rfl (by decide) efv trivial (fun args w => callFunc_run (by kernel_rfl) args) hseq (fun h k => fun q => k (h q)) (fun W l o o' hl _ _ _ => hGp W l o' hl) (Below.refl _ _) (fun _ => rfl)
  (fun pre W => ∃ ι' la lc J, HR ι' (denH (IR sa bs.length sc la pre.length lc H J)) W ∧ Ext ι4 (denH (I4 sa bs.length sc H)) w4 ι' (denH (IR sa bs.length sc la pre.length lc H J)) W ∧ LsS 1 (denH (I4 sa bs.length sc H)) J (.slice la pre.length lc) ((pre.map fun x => chunk bs x.val).map ir) ∧ (pre = [] → la = none ∧ lc = 0))
  (fun _ _ _ => False) ?own (fun _ _ _ _ _ hs _ _ => hs) ?start (fun x => { tmps := (a4.tmps.setIfInBounds 15 (.slice (some ⟨lb, ob + 8 * x.val, none⟩) 8 8)).setIfInBounds 5 (.slice (some ⟨lb, ob + 8 * x.val, none⟩) 8 8), defers := [] }) ?assign ?body ?done ?stop)
 case own =>
  rintro pre W W' row ⟨ι', la, lc, J, q1, q2, q3, q4⟩ hg hr
  exact ⟨ι', la, lc, J, q1.grown hg hr, q2.grown hg hr (Nat.le_refl _), q3, q4⟩
 case start =>
  refine ⟨ι4, none, 0, [], ?_, ?_, .nil, fun _ => ⟨rfl, rfl⟩⟩
  ·rw [show denH (IR sa bs.length sc none ([] : List (Fin (bs.length / 8))).length 0 H []) = denH (I4 sa bs.length sc H) from by simp [denH, denL, It.den, den0]]
   exact R4.hr
  ·rw [show denH (IR sa bs.length sc none ([] : List (Fin (bs.length / 8))).length 0 H []) = denH (I4 sa bs.length sc H) from by simp [denH, denL, It.den, den0]]
   exact Ext.refl _ _ _
 case assign =>
  intro l x W K hK
  have ez : (#[15].zip (IC.enc lb ob x)).foldl (fun t (p, v) => t.setIfInBounds p v) a4.tmps = a4.tmps.setIfInBounds 15 (.slice (some ⟨lb, ob + 8 * x.val, none⟩) 8 8) := by simp [IC.enc]
  rw [ez]
  exact asg_wp (by rw [size4]; decide) hK
 case body =>
  rintro l pre x W ⟨ι', la, lc, J, q1, q2, q3, q4⟩ hlen
  obtain ⟨B, o, rfl, hv⟩ := hx x ι' q2.sub
  have hw := round_wp (k := x.val) (rows := pre.map fun x => chunk bs x.val) (la := la) (lc := lc) (ln := 0) (J := J) hs (by have := x.isLt; omega) (by rw [List.length_map]; exact q3) (by rw [List.length_map]; omega)
  rw [List.length_map] at hw
  have agB : Ag (fun i => inL [4, 5] i = false) ((t4.set 15 (.slice (some ⟨B, o + 8 * x.val, none⟩) 8 8)).set 5 (.slice (some ⟨B, o + 8 * x.val, none⟩) 8 8)) (denF (I4 (some ⟨B, o, none⟩) bs.length sc H) (frS 33 [(4, (.ptr 1 0)), (5, (rS (some ⟨B, o + 8 * x.val, none⟩) 8 8))])) := by
   refine ⟨by simp [len4, denF, frS], fun i hi => ?_⟩
   have hi' : i = 4 ∨ i = 5 := by
    by_cases h4 : i = 4
    ·exact .inl h4
    ·refine .inr ?_
     simp only [inL] at hi
     simp at hi
     exact hi h4
   rcases hi' with rfl | rfl
   ·rw [getD_set, getD_set]
    simp only [show ¬ (5 = 4) by decide, show ¬ (15 = 4) by decide, false_and, if_false]
    exact ag4.2 4 (by decide)
   ·rw [getD_set]
    simp only [List.length_set, len4, show (5 : Nat) < 33 by decide, and_self, if_true]
    rfl
  have RB : RelD [] ι' ((t4.set 15 (.slice (some ⟨B, o + 8 * x.val, none⟩) 8 8)).set 5 (.slice (some ⟨B, o + 8 * x.val, none⟩) 8 8)) (denH (IR (some ⟨B, o, none⟩) bs.length sc la pre.length lc H J)) { tmps := (a4.tmps.setIfInBounds 15 (.slice (some ⟨lb, ob + 8 * x.val, none⟩) 8 8)).setIfInBounds 5 (.slice (some ⟨lb, ob + 8 * x.val, none⟩) 8 8), defers := [] } W := by
   refine ⟨?_, rfl, q1⟩
   simp only [Array.toList_setIfInBounds]
   exact ((R4.fr.mono fun _ _ q => q.mono q2.sub).set _ _ _ hv).set _ _ _ hv
  refine wpIn_mono (step (r := some l) (m := 5 - 1 - 1) (gE_ok 0) rfl stIB agB (n := 33) rfl (by kernel_rfl) hw ι' _ W RB) ?_
  rintro e a5 w5 ⟨t5, h5, ι5, ⟨e', s5, rfl, _, rfl, la', lc', J', rfl, hl'⟩, R5, E5⟩
  refine ⟨E5.others q1, fun _ => hG ι5 _ _ _ _ w5 (q2.sub.trans E5.sub) R5.hr, ι5, la', lc', J', ?_, ?_, ?_, fun q => by simp at q⟩
  ·rw [List.length_append]; exact R5.hr
  ·rw [List.length_append]; exact q2.trans E5
  ·rw [List.length_append, List.map_append]; exact hl'
 case stop =>
  rintro D c pre W _ _ h _
  exact h.elim
 case done =>
  rintro D ys W hD hys ⟨ι', la, lc, J, q1, q2, q3, q4⟩ hk
  show Code.wpIn _ _ _ _ _ _ _
  have ylen : ys.length = bs.length / 8 := by have := congrArg List.length hys; simpa using this
  have zeq : (ys.map fun x => chunk bs x.val) = ints bs := by
   unfold ints
   rw [← hys, List.map_map]; rfl
  have eI : denH (IR sa bs.length sc la ys.length lc H J) = denH [.seg H, .blk .fix [rS la ys.length lc], .seg (some ⟨.fix, [.slice sa bs.length sc]⟩ :: some ⟨.fix, [.int .i64 8]⟩ :: J)] := by simp [denH, denL, It.den, den0]
  have agP : Ag (fun i => inL [2, 3, 4] i = false) t4 (denF [.seg H, .blk .fix [rS la ys.length lc], .seg (some ⟨.fix, [.slice sa bs.length sc]⟩ :: some ⟨.fix, [.int .i64 8]⟩ :: J)] (frS 33 [(2, nS), (3, (sB false)), (4, (.ptr 1 0))])) := by
   refine (lvl ag4 (n := 33) rfl (lv' := inL [2, 3, 4]) (by kernel_rfl)).trans ⟨rfl, fun i hi => ?_⟩
   have hi' : i = 2 ∨ i = 3 ∨ i = 4 := by
    by_cases h2 : i = 2
    ·exact .inl h2
    ·by_cases h3 : i = 3
     ·exact .inr (.inl h3)
     ·refine .inr (.inr ?_)
      simp only [inL] at hi
      simp at hi
      exact hi h2 h3
   rcases hi' with rfl | rfl | rfl <;> rfl
  have wP := Wp.tree (K := fun e s' h' => e = .ret ∧ s' = denF [.seg H, .blk .fix [rS la ys.length lc], .seg (some ⟨.fix, [.slice sa bs.length sc]⟩ :: some ⟨.fix, [.int .i64 8]⟩ :: J)] (frS 33 [(2, rS la ys.length lc), (3, (sB true))]) ∧ h' = denH [.seg H, .blk .fix [rS la ys.length lc], .seg (some ⟨.fix, [.slice sa bs.length sc]⟩ :: some ⟨.fix, [.int .i64 8]⟩ :: J)]) (cE_ok 0) (treeIP la ys.length lc H (some ⟨.fix, [.slice sa bs.length sc]⟩ :: some ⟨.fix, [.int .i64 8]⟩ :: J)) ⟨rfl, rfl⟩ ⟨rfl, rfl, rfl⟩
  rw [eI] at q1 q2
  refine wpIn_mono (step (r := none) (m := 5) (gE_ok 0) rfl stIP agP (n := 33) rfl (by kernel_rfl) wP ι' { a4 with defers := { target := .collected D, args := #[] } :: a4.defers } W ⟨R4.fr.mono fun _ _ q => q.mono q2.sub, rfl, q1⟩) ?_
  rintro e a5 w5 ⟨t5, h5, ι5, ⟨e', s5, rfl, ag5, rfl, rfl, rfl⟩, R5, E5⟩
  show LeavesInM _ _ _ _ _ _ a5.defers _ _
  rw [R5.defers, R4.defers]
  have hk5 := (E5.others q1).same D _ hk rfl
  refine ⟨by simp, .inl ⟨D, _, rfl, run_takeDeferred hk5, ?_⟩⟩
  have hg : w5.grownBy (w5.putObj D (.deferred none)) (some D) := grownBy_putObj' w5 D _
  have hr : noCells w4.heap.size w5 (some D) := fun r e => by cases e; exact ⟨hD, _, hk5, rfl⟩
  have R6 : RelD [{ target := .collected D, args := #[] }] ι5 t5 (denH [.seg H, .blk .fix [rS la ys.length lc], .seg (some ⟨.fix, [.slice sa bs.length sc]⟩ :: some ⟨.fix, [.int .i64 8]⟩ :: J)]) a5 (w5.putObj D (.deferred none)) := ⟨R5.fr, by rw [R5.defers, R4.defers], R5.hr.grown hg hr⟩
  obtain ⟨v', r1, r2⟩ := res_ok R6 (la := la) (ln := ys.length) (lc := lc) (b := true) (ag5.2 2 (by decide)) (ag5.2 3 (by decide))
  have E := (E04.trans (q2.trans E5)).grown hg hr E04.size
  refine ⟨v', r1, _, v', _, ι5, ⟨some ⟨.fix, [.slice la ys.length lc]⟩ :: some ⟨.fix, [.slice sa bs.length sc]⟩ :: some ⟨.fix, [.int .i64 8]⟩ :: J, la, lc, ints bs, by simp [denH, denL, It.den, den0], ?_, ?_, ?_, by rw [if_pos h8]⟩, rfl, r2, R6.hr, E⟩
  ·rw [← zeq, List.length_map, show decide (bs.length % 8 = 0) = true from by simpa using h8]
  ·have := LsS.shift (H := H) (A := [some ⟨.fix, [.slice la ys.length lc]⟩, some ⟨.fix, [.slice sa bs.length sc]⟩, some ⟨.fix, [.int .i64 8]⟩]) (LsS.base (by simp [denH, denL, It.den]) q3)
   rw [← zeq, List.length_map]
   exact this
  ·intro q
   refine q4 (List.length_eq_zero_iff.1 ?_)
   rw [ylen, ← List.length_range (n := bs.length / 8)]
   unfold ints at q
   have := congrArg List.length q
   simpa using this
def okI (bs : List Int) : Bool := decide (bs.length % 8 = 0)
def intsF (bs : List Int) : List Int := if bs.length % 8 = 0 then ints bs else []
theorem sim {H : Heap} {s : Value} {bs : List Int} (hs : RowsW 1 H s (bs.map br)) (hb : bs.length ≤ 1000000000) : Sim Try.prog 32 [s] H fun v h' => v = .tuple ⟨[freshV H ((intsF bs).map ir), .bool (okI bs)]⟩ ∧ h' = H ++ freshX 1 ((intsF bs).map ir) := by
 obtain ⟨sa, sc, rfl⟩ := hs.slcM
 have m := main hs hb
 by_cases hz : intsF bs = []
 ·have fl : (Value.tuple ⟨[.slice none 0 0, .bool (okI bs)]⟩) = .tuple ⟨[freshV H ((intsF bs).map ir), .bool (okI bs)]⟩ := by rw [hz]; rfl
  refine (Sim.keep (R := fun v => v = .tuple ⟨[.slice none 0 0, .bool (okI bs)]⟩) (m.mono fun v h' ⟨X, la, lc, zs, e1, e2, e3, e4, e5⟩ => ?_) (fun v hv => by subst hv; rfl)).mono fun v h' ⟨a, b⟩ => ⟨by rw [a, fl], by rw [b, hz]; simp [freshX]⟩
  have hzs : zs = [] := by rw [e5]; exact hz
  obtain ⟨rfl, rfl⟩ := e4 hzs
  subst hzs
  exact ⟨e2, by rw [e1]; simp, by rw [e1]; simp⟩
 ·obtain ⟨z, r, hzr⟩ : ∃ z r, intsF bs = z :: r := by
   cases h : intsF bs with
   | nil => exact absurd h hz
   | cons z r => exact ⟨z, r, rfl⟩
  refine (Sim.last2 (b := okI bs) (blk := ⟨.grown 1, ((intsF bs).map ir).flatten⟩) (n := (intsF bs).length) (c := (intsF bs).length) (m.mono fun v h' ⟨X, la, lc, zs, e1, e2, e3, e4, e5⟩ => ?_) (all_flat _ fun _ => rfl) (by intro q; cases q)).mono fun v h' ⟨a, b⟩ => ⟨by rw [a, hzr]; simp [freshV], by rw [b, hzr]; rfl⟩
  have hzs : zs = intsF bs := e5
  subst hzs
  refine ⟨?_, by rw [e1]; simp⟩
  rcases e3 with ⟨q, _⟩ | ⟨_, q, _⟩ | ⟨j, q, _, _, k⟩
  ·rw [hzr] at q; cases q
  ·rw [hzr] at q; cases q
  ·simp only [Value.slice.injEq, List.length_map] at q
   obtain ⟨rfl, _, rfl⟩ := q
   refine ⟨_, e2, by omega, ?_⟩
   rw [e1, List.getElem?_append_right (by omega), Nat.add_sub_cancel_left]
   exact k
def preI (bs : List Int) (args : List Value) (h : Heap) : Prop := ∃ s, args = [s] ∧ RowsW 1 h s (bs.map br) ∧ bs.length ≤ 1000000000
def resI (bs : List Int) (h : Heap) : Value × Heap := (.tuple ⟨[freshV h ((intsF bs).map ir), .bool (okI bs)]⟩, h ++ freshX 1 ((intsF bs).map ir))
theorem summI : Summ Try.prog 32 (smry preI resI) := smry_ok fun bs args h ⟨s, e, hs, hb⟩ => by subst e; exact sim hs hb
theorem callI {h : Heap} {s : Value} {bs : List Int} (hs : RowsW 1 h s (bs.map br)) (hb : bs.length ≤ 1000000000) : smry preI resI [s] h = some (resI bs h) :=
 smry_some ⟨s, rfl, hs, hb⟩ fun y ⟨s', e, hs', _⟩ => by
  simp only [List.cons.injEq, and_true] at e
  subst e
  rw [br_inj (hs.uniq hs')]
theorem useI {I : SH} (hI : I.all (It.bnd I.length) = true) {s : Value} {bs : List Int} (hs : RowsW 1 (denH I) s (bs.map br)) (hb : bs.length ≤ 1000000000) :
  ∃ a c X, smry preI resI [s] (denH I) = some (.tuple ⟨[.slice a (intsF bs).length c, .bool (okI bs)]⟩, denH (I ++ [.seg X])) ∧ RowsW 1 (denH (I ++ [.seg X])) (.slice a (intsF bs).length c) ((intsF bs).map ir) := by
 obtain ⟨a, c, X, e, h⟩ := fresh_use hI (ir_w (intsF bs)) (by decide)
 rw [List.length_map] at e h
 simp only [Prod.mk.injEq] at e
 refine ⟨a, c, X, (callI hs hb).trans ?_, h⟩
 unfold resI
 rw [e.1, e.2]
end WI
end Go.Proofs.Ytgdojnamjkhknaa
