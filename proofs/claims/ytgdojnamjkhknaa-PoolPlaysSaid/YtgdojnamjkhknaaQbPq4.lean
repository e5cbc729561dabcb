/-
  ref: a tape, applied to a pool: its loop.
-/
import Derived.Test.YtgdojnamjkhknaaQbPq3
namespace Go.Proofs.Ytgdojnamjkhknaa
open Go.Am
set_option linter.all false
set_option maxRecDepth 100000
namespace PR
open PO (L5 A4 e5 e4 newL sumF wr e5_1 a0 addA mayF doneF stepF runF applyF atI atF atI_lt WF okL wr_id)
namespace P
def Inv (G X0 HG : Heap) (ta a2 : Option Addr) (tc n c2 : Nat) (ys : List R7) (l0 : List L5) : Nat → Fr → Heap → Prop := fun (m : Nat) (tt : Fr) (h : Heap) => ∃ (i : Nat) (X2 J : Heap) (t : A4) (l2 : List L5), i + m = ys.length ∧ X2.length = X0.length ∧ l2.length = l0.length ∧ WF l2 ∧ LsS 5 HG X2 (.slice a2 n c2) (l2.map e5) ∧ (0 ≤ t.p ∧ t.p ≤ 100000 * (i : Int)) ∧ (0 ≤ t.l ∧ t.l ≤ 100000 * (i : Int)) ∧ tt = denF [.seg G, z4, .seg X2, aB t, .seg J] (frS 202 [(4, nS), (5, (.ptr 1 0)), (6, (sI 0)), (7, (rS a2 n c2)), (8, (.ptr 3 0)), (21, (rS ta ys.length tc)), (22, (sI (ys.length : Int))), (23, (sI i))]) ∧ h = denH [.seg G, z4, .seg X2, aB t, .seg J] ∧ runF l0 a0 ys = runF l2 t (ys.drop i)
def Post (G X0 HG : Heap) (ta a2 : Option Addr) (tc n c2 : Nat) (ys : List R7) (l0 : List L5) : Post2 := fun (e : Ex) (tt : Fr) (h : Heap) => ∃ (X2 J : Heap) (t : A4), X2.length = X0.length ∧ h = denH [.seg G, z4, .seg X2, aB t, .seg J] ∧ match runF l0 a0 ys with
   | some q => e = Ex.normal ∧ tt = denF [.seg G, z4, .seg X2, aB t, .seg J] (frS 202 [(4, nS), (5, (.ptr 1 0)), (6, (sI 0)), (7, (rS a2 n c2)), (8, (.ptr 3 0))]) ∧ q.2 = t ∧ q.1.length = l0.length ∧ WF q.1 ∧ LsS 5 HG X2 (.slice a2 n c2) (q.1.map e5)
   | none => e = Ex.ret ∧ tt = denF [.seg G, z4, .seg X2, aB t, .seg J] (frS 202 [(4, nS), (5, (.ptr 1 0)), (6, (sI 3)), (7, (rS a2 n c2)), (8, (.ptr 3 0))])
theorem inv_next {G X0 HG : Heap} {ta a2 : Option Addr} {tc n c2 : Nat} {ys : List R7} {l0 : List L5} {m i : Nat} {X J Z : Heap} {y : R7} {t t2 : A4} {l2 l3 : List L5} (hi : i + m = ys.length) (hys : ys.length ≤ 64) (hlt : i < ys.length) (hXl : X.length = X0.length) (hl2 : l2.length = l0.length) (hwf : WF l2) (hyl : TP.lineB y = true) (htp : 0 ≤ t.p ∧ t.p ≤ 100000 * (i : Int)) (htl : 0 ≤ t.l ∧ t.l ≤ 100000 * (i : Int)) (hr : runF l0 a0 ys = runF l2 t (y :: ys.drop (i + 1))) (hZ : LsS 5 HG Z (.slice a2 n c2) (l3.map e5)) (hZl : Z.length = X.length) (hst : stepF l2 t y = some (l3, t2)) :
  Inv G X0 HG ta a2 tc n c2 ys l0 (m - 1) (denF [.seg G, z4, .seg Z, aB t2, .seg J, .blk .fix [(sI y.a), (sI y.b), (sI y.c), (sI y.d), (sI y.e), (sI y.f), (sB y.g)]] (frS 202 [(4, nS), (5, (.ptr 1 0)), (6, (sI 0)), (7, (rS a2 n c2)), (8, (.ptr 3 0)), (21, (rS ta ys.length tc)), (22, (sI (ys.length : Int))), (23, (sI (IntKind.wrap .i64 (i + 1))))])) (denH [.seg G, z4, .seg Z, aB t2, .seg J, .blk .fix [(sI y.a), (sI y.b), (sI y.c), (sI y.d), (sI y.e), (sI y.f), (sB y.g)]]) := by
 obtain ⟨w1, w2, w3⟩ := step_wf (M := 100000 * (i : Int)) hwf hyl (by omega) ⟨htp.1, htp.2, htl.1, htl.2⟩ hst
 have w3p0 := w3.p0
 have w3p1 := w3.p1
 have w3l0 := w3.l0
 have w3l1 := w3.l1
 simp only at w3p0 w3p1 w3l0 w3l1 w2 w1
 refine ⟨i + 1, Z, J ++ [some ⟨.fix, e7 y⟩], t2, l3, by omega, by omega, by omega, w1, hZ, ⟨w3p0, by omega⟩, ⟨w3l0, by omega⟩, ?_, by simp [denH, denL, It.den, den0, e7], ?_⟩
 ·rw [wrap64 (x := (i : Int) + 1) (by omega) (by omega)]; show denF _ _ = denF _ _; kernel_rfl
 ·rw [hr]; simp only [runF, hst]
theorem post_err {G X0 HG : Heap} {ta a2 : Option Addr} {tc n c2 : Nat} {ys : List R7} {l0 : List L5} {X Z J : Heap} {y : R7} {u : A4} (hXl : X.length = X0.length) (hZ : Z.length = X.length) (hno : runF l0 a0 ys = none) {f : SFr} (hf : denF [.seg G, z4, .seg Z, aB u, .seg J, .blk .fix [(sI y.a), (sI y.b), (sI y.c), (sI y.d), (sI y.e), (sI y.f), (sB y.g)]] f = denF [.seg G, z4, .seg Z, aB u, .seg J, .blk .fix [(sI y.a), (sI y.b), (sI y.c), (sI y.d), (sI y.e), (sI y.f), (sB y.g)]] (frS 202 [(4, nS), (5, (.ptr 1 0)), (6, (sI 3)), (7, (rS a2 n c2)), (8, (.ptr 3 0))])) : Post G X0 HG ta a2 tc n c2 ys l0 Ex.ret (denF [.seg G, z4, .seg Z, aB u, .seg J, .blk .fix [(sI y.a), (sI y.b), (sI y.c), (sI y.d), (sI y.e), (sI y.f), (sB y.g)]] f) (denH [.seg G, z4, .seg Z, aB u, .seg J, .blk .fix [(sI y.a), (sI y.b), (sI y.c), (sI y.d), (sI y.e), (sI y.f), (sB y.g)]]) := by
 refine ⟨Z, J ++ [some ⟨.fix, e7 y⟩], u, by omega, by simp [denH, denL, It.den, den0, e7], ?_⟩
 rw [hno]
 exact ⟨rfl, by rw [hf]; show denF _ _ = denF _ _; kernel_rfl⟩
set_option maxHeartbeats 8000000 in
theorem turn {G X0 HG : Heap} {ta a2 : Option Addr} {tc n c2 : Nat} {ys : List R7} {l0 : List L5} {m i k : Nat} {X J : Heap} {x : L5} {y : R7} {t : A4} {l2 : List L5} {b1 o1 : Nat} (eHG : HG = G ++ [some ⟨.fix, e4 a0⟩]) (hi : i + m = ys.length) (hys : ys.length ≤ 64) (hlt : i < ys.length) (hXl : X.length = X0.length) (hl2 : l2.length = l0.length) (hwf : WF l2) (hnl : n = l2.length) (hX : LsS 5 HG X (.slice a2 n c2) (l2.map e5)) (hyl : TP.lineB y = true) (htp : 0 ≤ t.p ∧ t.p ≤ 100000 * (i : Int)) (htl : 0 ≤ t.l ∧ t.l ≤ 100000 * (i : Int)) (hr : runF l0 a0 ys = runF l2 t (y :: ys.drop (i + 1))) (r1 : RowAt 7 G (.slice ta ys.length tc) (i : Int) (e7 y) b1 o1) (ha : atI y.a l2 = some k) (kX : l2[k]? = some x) :
  Wp (Plain.env [] (gE 0)) (fun j => exL j body54_0 || inL [4, 5, 6, 7, 8] j) body54_0 (denF [.seg G, z4, .seg X, aB t, .seg J] (frS 202 [(4, nS), (5, (.ptr 1 0)), (6, (sI 0)), (7, (rS a2 n c2)), (8, (.ptr 3 0)), (21, (rS ta ys.length tc)), (22, (sI (ys.length : Int))), (23, (sI i))])) (denH [.seg G, z4, .seg X, aB t, .seg J]) (loopK 0 (inL [4, 5, 6, 7, 8]) (Inv G X0 HG ta a2 tc n c2 ys l0) m (Post G X0 HG ta a2 tc n c2 ys l0)) := by
 have hm := hwf.len
 have wS := search (G := G) (X := X) (J := J) (ta := ta) (tc := tc) (i := i) (ys := ys) (y := y) (t := t) eHG hX hwf hnl
 have hF : atF y.a l2 = k := by unfold atF; rw [ha]
 rw [hF] at wS
 have hkl : k < l2.length := (List.getElem?_eq_some_iff.1 kX).1
 have okx := hwf.ok x (List.mem_of_getElem? kX)
 obtain ⟨s, es⟩ : ∃ s, s = wr (y.b + y.c) := ⟨_, rfl⟩
 obtain ⟨d1, ed1⟩ : ∃ d1, d1 = wr (x.b - y.b) := ⟨_, rfl⟩
 obtain ⟨nb, enb⟩ : ∃ nb, nb = wr (d1 - y.c) := ⟨_, rfl⟩
 obtain ⟨nl, enl⟩ : ∃ nl, nl = if y.g = true then wr (nb - y.e) else wr (x.c - y.e) := ⟨_, rfl⟩
 have fx : Fx l2 t k x y s nb nl := facts okx hyl ha kX ⟨htp.1, by omega⟩ ⟨htl.1, by omega⟩ es ed1 enb enl
 have eD : ∀ (Z : Heap) (u : A4), denH [.seg G, z4, .seg Z, aB u, .seg J, .blk .fix [(sI y.a), (sI y.b), (sI y.c), (sI y.d), (sI y.e), (sI y.f), (sB y.g)]] = HG ++ (Z ++ (some ⟨.fix, e4 u⟩ :: (J ++ [some ⟨.fix, e7 y⟩]))) := fun Z u => by rw [eHG]; simp [denH, denL, It.den, den0, e4, e7, a0]
 have err : ∀ (Z : Heap) (u : A4), Z.length = X.length → runF l0 a0 ys = none → ∀ {f : SFr}, denF [.seg G, z4, .seg Z, aB u, .seg J, .blk .fix [(sI y.a), (sI y.b), (sI y.c), (sI y.d), (sI y.e), (sI y.f), (sB y.g)]] f = denF [.seg G, z4, .seg Z, aB u, .seg J, .blk .fix [(sI y.a), (sI y.b), (sI y.c), (sI y.d), (sI y.e), (sI y.f), (sB y.g)]] (frS 202 [(4, nS), (5, (.ptr 1 0)), (6, (sI 3)), (7, (rS a2 n c2)), (8, (.ptr 3 0))]) → Post G X0 HG ta a2 tc n c2 ys l0 Ex.ret (denF [.seg G, z4, .seg Z, aB u, .seg J, .blk .fix [(sI y.a), (sI y.b), (sI y.c), (sI y.d), (sI y.e), (sI y.f), (sB y.g)]] f) (denH [.seg G, z4, .seg Z, aB u, .seg J, .blk .fix [(sI y.a), (sI y.b), (sI y.c), (sI y.d), (sI y.e), (sI y.f), (sB y.g)]]) := fun Z u hZ hno f hf => post_err hXl hZ hno hf
 have ok : ∀ (x' : L5) (t2 : A4) {Z : Heap}, LsS 5 HG Z (.slice a2 n c2) ((l2.set k x').map e5) → Z.length = X.length → stepF l2 t y = some (l2.set k x', t2) → Inv G X0 HG ta a2 tc n c2 ys l0 (m - 1) (denF [.seg G, z4, .seg Z, aB t2, .seg J, .blk .fix [(sI y.a), (sI y.b), (sI y.c), (sI y.d), (sI y.e), (sI y.f), (sB y.g)]] (frS 202 [(4, nS), (5, (.ptr 1 0)), (6, (sI 0)), (7, (rS a2 n c2)), (8, (.ptr 3 0)), (21, (rS ta ys.length tc)), (22, (sI (ys.length : Int))), (23, (sI (IntKind.wrap .i64 (i + 1))))])) (denH [.seg G, z4, .seg Z, aB t2, .seg J, .blk .fix [(sI y.a), (sI y.b), (sI y.c), (sI y.d), (sI y.e), (sI y.f), (sB y.g)]]) := fun x' t2 Z hZ hZl hst => inv_next hi hys hlt hXl hl2 hwf hyl htp htl hr hZ hZl hst
 have hb : ∃ b2 o2, ∀ (Γ : Env) (Z : Heap), opA Γ (.iadr 5 none (.const (.slice a2 n c2)) (kI k)) [] Z = some (.pointer (some ⟨b2, o2, none⟩), Z) := by
  obtain ⟨b2, o2, r2⟩ := (hX.rows (by decide) []).rowM kX
  exact ⟨b2, o2, fun Γ Z => r2.ptr Γ Z⟩
 obtain ⟨b2, o2, hb⟩ := hb
 have noStep : mayF x y = false → runF l0 a0 ys = none := fun h => by
  rw [hr]; simp only [runF, stepF, ha, kX]; rw [h]; rfl
 obtain ⟨t', et'⟩ : ∃ t' : A4, t' = ⟨t.p, t.i, wr (t.l + nb), t.r⟩ := ⟨_, rfl⟩
 obtain ⟨X1, lX1, sX1, hX1⟩ := sto (R := some ⟨.fix, e4 t⟩ :: (J ++ [some ⟨.fix, e7 y⟩])) hX kX hb (f := 1) (x' := ⟨x.a, nb, x.c, x.d, x.e⟩) (v := .int .i64 nb) rfl rfl rfl (by decide)
 have kX1 : (l2.set k ⟨x.a, nb, x.c, x.d, x.e⟩)[k]? = some ⟨x.a, nb, x.c, x.d, x.e⟩ := List.getElem?_set_self hkl
 obtain ⟨X2, lX2, sX2, hX2⟩ := sto (R := some ⟨.fix, e4 t'⟩ :: (J ++ [some ⟨.fix, e7 y⟩])) hX1 kX1 hb (f := 2) (x' := ⟨x.a, nb, nb, x.d, x.e⟩) (v := .int .i64 nb) rfl rfl rfl (by decide)
 rw [List.set_set] at hX2
 have kX2 : (l2.set k ⟨x.a, nb, nb, x.d, x.e⟩)[k]? = some ⟨x.a, nb, nb, x.d, x.e⟩ := List.getElem?_set_self hkl
 obtain ⟨X3, lX3, sX3, hX3⟩ := sto (R := some ⟨.fix, e4 t'⟩ :: (J ++ [some ⟨.fix, e7 y⟩])) hX2 kX2 hb (f := 1) (x' := ⟨x.a, 0, nb, x.d, x.e⟩) (v := .int .i64 0) rfl rfl rfl (by decide)
 rw [List.set_set] at hX3
 have kX3 : (l2.set k ⟨x.a, 0, nb, x.d, x.e⟩)[k]? = some ⟨x.a, 0, nb, x.d, x.e⟩ := List.getElem?_set_self hkl
 obtain ⟨X4, lX4, sX4, hX4⟩ := sto (R := some ⟨.fix, e4 t'⟩ :: (J ++ [some ⟨.fix, e7 y⟩])) hX3 kX3 hb (f := 4) (x' := ⟨x.a, 0, nb, x.d, true⟩) (v := .bool true) rfl rfl rfl (by decide)
 rw [List.set_set] at hX4
 have kX4 : (l2.set k ⟨x.a, 0, nb, x.d, true⟩)[k]? = some ⟨x.a, 0, nb, x.d, true⟩ := List.getElem?_set_self hkl
 obtain ⟨X5d, lX5d, sX5d, hX5d⟩ := sto (R := some ⟨.fix, e4 t'⟩ :: (J ++ [some ⟨.fix, e7 y⟩])) hX4 kX4 hb (f := 2) (x' := ⟨x.a, 0, nl, x.d, true⟩) (v := .int .i64 nl) rfl rfl rfl (by decide)
 rw [List.set_set] at hX5d
 have kX5d : (l2.set k ⟨x.a, 0, nl, x.d, true⟩)[k]? = some ⟨x.a, 0, nl, x.d, true⟩ := List.getElem?_set_self hkl
 obtain ⟨X6d, lX6d, sX6d, hX6d⟩ := sto (R := some ⟨.fix, e4 t'⟩ :: (J ++ [some ⟨.fix, e7 y⟩])) hX5d kX5d hb (f := 3) (x' := ⟨x.a, 0, nl, y.f, true⟩) (v := .int .i64 y.f) rfl rfl rfl (by decide)
 rw [List.set_set] at hX6d
 have kX6d : (l2.set k ⟨x.a, 0, nl, y.f, true⟩)[k]? = some ⟨x.a, 0, nl, y.f, true⟩ := List.getElem?_set_self hkl
 obtain ⟨X7d, lX7d, sX7d, hX7d⟩ := sto (R := some ⟨.fix, e4 t'⟩ :: (J ++ [some ⟨.fix, e7 y⟩])) hX6d kX6d hb (f := 3) (x' := ⟨x.a, 0, nl, 0, true⟩) (v := .int .i64 0) rfl rfl rfl (by decide)
 rw [List.set_set] at hX7d
 have kX7d : (l2.set k ⟨x.a, 0, nl, 0, true⟩)[k]? = some ⟨x.a, 0, nl, 0, true⟩ := List.getElem?_set_self hkl
 obtain ⟨X5n, lX5n, sX5n, hX5n⟩ := sto (R := some ⟨.fix, e4 t⟩ :: (J ++ [some ⟨.fix, e7 y⟩])) hX1 kX1 hb (f := 2) (x' := ⟨x.a, nb, nl, x.d, x.e⟩) (v := .int .i64 nl) rfl rfl rfl (by decide)
 rw [List.set_set] at hX5n
 have kX5n : (l2.set k ⟨x.a, nb, nl, x.d, x.e⟩)[k]? = some ⟨x.a, nb, nl, x.d, x.e⟩ := List.getElem?_set_self hkl
 obtain ⟨X6n, lX6n, sX6n, hX6n⟩ := sto (R := some ⟨.fix, e4 t⟩ :: (J ++ [some ⟨.fix, e7 y⟩])) hX5n kX5n hb (f := 3) (x' := ⟨x.a, nb, nl, y.f, x.e⟩) (v := .int .i64 y.f) rfl rfl rfl (by decide)
 rw [List.set_set] at hX6n
 have kX6n : (l2.set k ⟨x.a, nb, nl, y.f, x.e⟩)[k]? = some ⟨x.a, nb, nl, y.f, x.e⟩ := List.getElem?_set_self hkl
 obtain ⟨X7n, lX7n, sX7n, hX7n⟩ := sto (R := some ⟨.fix, e4 t⟩ :: (J ++ [some ⟨.fix, e7 y⟩])) hX6n kX6n hb (f := 3) (x' := ⟨x.a, nb, nl, 0, x.e⟩) (v := .int .i64 0) rfl rfl rfl (by decide)
 rw [List.set_set] at hX7n
 have kX7n : (l2.set k ⟨x.a, nb, nl, 0, x.e⟩)[k]? = some ⟨x.a, nb, nl, 0, x.e⟩ := List.getElem?_set_self hkl
 subst et'
 have tr := tree54t ta a2 ys.length tc n c2 i k s d1 nb nl x y t b1 o1 b2 o2 G X X1 X2 X3 X4 X5d X6d X7d X5n X6n X7n J
 exact Wp.tree (cE_ok 0) tr ⟨by kernel_rfl, by kernel_rfl⟩ ⟨fun hL => ⟨r1.ptr _ _, ⟨r1.all _, ⟨wS, ⟨fun hR => end_ret (err X t rfl (absurd hR (by simp)) (by show denF _ _ = denF _ _; kernel_rfl)), fun hR => ⟨hb _ _, ⟨conv (eD X t) (eD X t) (lod hX kX hb (f := 4) rfl), ⟨c1req _ _ _ _ false _, ⟨fun hC1 => end_ret (err X t rfl (noStep (fx.no1 hC1)) (by show denF _ _ = denF _ _; kernel_rfl)), fun hC1 => ⟨conv (eD X t) (eD X t) (lod hX kX hb (f := 4) rfl), ⟨by cases x.e <;> simp, ⟨by cases x.e <;> simp, ⟨fun hC2 => end_ret (err X t rfl (noStep (fx.no2 hC2)) (by show denF _ _ = denF _ _; kernel_rfl)), fun hC2 => ⟨rfl, ⟨PO.O.add_ok _ _ _ _ es, ⟨conv (eD X t) (eD X t) (lod hX kX hb (f := 1) rfl), ⟨fun hS => end_ret (err X t rfl (noStep (fx.no3 hC1 hS)) (by show denF _ _ = denF _ _; kernel_rfl)), fun hS => ⟨rfl, ⟨conv (eD X t) (eD X t) (lod hX kX hb (f := 1) rfl), ⟨PO.O.sub_ok _ _ _ _ ed1, ⟨PO.O.sub_ok _ _ _ _ enb, ⟨lX1, ⟨conv (eD X t) (eD X1 t) (sX1 _), ⟨fun hG => ⟨rfl, ⟨conv (eD X1 t) (eD X1 t) (lod hX1 kX1 hb (f := 1) rfl), ⟨conv (eD X1 ⟨t.p, t.i, wr (t.l + nb), t.r⟩) (eD X1 ⟨t.p, t.i, wr (t.l + nb), t.r⟩) (lod hX1 kX1 hb (f := 1) rfl), ⟨lX2, ⟨conv (eD X1 ⟨t.p, t.i, wr (t.l + nb), t.r⟩) (eD X2 ⟨t.p, t.i, wr (t.l + nb), t.r⟩) (sX2 _), ⟨lX3, ⟨conv (eD X2 ⟨t.p, t.i, wr (t.l + nb), t.r⟩) (eD X3 ⟨t.p, t.i, wr (t.l + nb), t.r⟩) (sX3 _), ⟨lX4, ⟨conv (eD X3 ⟨t.p, t.i, wr (t.l + nb), t.r⟩) (eD X4 ⟨t.p, t.i, wr (t.l + nb), t.r⟩) (sX4 _), ⟨rfl, ⟨conv (eD X4 ⟨t.p, t.i, wr (t.l + nb), t.r⟩) (eD X4 ⟨t.p, t.i, wr (t.l + nb), t.r⟩) (lod hX4 kX4 hb (f := 2) rfl), ⟨fun hE => end_ret (err X4 ⟨t.p, t.i, wr (t.l + nb), t.r⟩ (by rw [lX4, lX3, lX2, lX1]) (noStep (fx.no4 hC1 hS hG hE)) (by show denF _ _ = denF _ _; kernel_rfl)), fun hE => ⟨rfl, ⟨conv (eD X4 ⟨t.p, t.i, wr (t.l + nb), t.r⟩) (eD X4 ⟨t.p, t.i, wr (t.l + nb), t.r⟩) (lod hX4 kX4 hb (f := 2) rfl), ⟨PO.O.sub_ok _ _ _ _ (by rw [enl, if_pos hG]), ⟨lX5d, ⟨conv (eD X4 ⟨t.p, t.i, wr (t.l + nb), t.r⟩) (eD X5d ⟨t.p, t.i, wr (t.l + nb), t.r⟩) (sX5d _), ⟨lX6d, ⟨conv (eD X5d ⟨t.p, t.i, wr (t.l + nb), t.r⟩) (eD X6d ⟨t.p, t.i, wr (t.l + nb), t.r⟩) (sX6d _), ⟨conv (eD X6d ⟨t.p, t.i, wr (t.l + nb), t.r⟩) (eD X6d ⟨t.p, t.i, wr (t.l + nb), t.r⟩) (lod hX6d kX6d hb (f := 4) rfl), ⟨lX7d, ⟨conv (eD X6d ⟨t.p, t.i, wr (t.l + nb), t.r⟩) (eD X7d ⟨t.p, t.i, wr (t.l + nb), t.r⟩) (sX7d _), ⟨by simp, end_next (m - 1) (by omega) (ok ⟨x.a, 0, nl, 0, true⟩ (tqD t y nb) hX7d (lX7d.trans (lX6d.trans (lX5d.trans (lX4.trans (lX3.trans (lX2.trans lX1)))))) (fx.yes1 hC1 hS hG hE))⟩⟩⟩⟩⟩⟩⟩⟩⟩⟩⟩⟩⟩⟩⟩⟩⟩⟩⟩⟩⟩⟩⟩, fun hG => ⟨rfl, ⟨conv (eD X1 t) (eD X1 t) (lod hX1 kX1 hb (f := 2) rfl), ⟨fun hE2 => end_ret (err X1 t lX1 (noStep (fx.no5 hC1 hC2 hG hE2)) (by show denF _ _ = denF _ _; kernel_rfl)), fun hE2 => ⟨rfl, ⟨conv (eD X1 t) (eD X1 t) (lod hX1 kX1 hb (f := 2) rfl), ⟨PO.O.sub_ok _ _ _ _ (by rw [enl, if_neg (by simp [hG])]), ⟨lX5n, ⟨conv (eD X1 t) (eD X5n t) (sX5n _), ⟨lX6n, ⟨conv (eD X5n t) (eD X6n t) (sX6n _), ⟨conv (eD X6n t) (eD X6n t) (lod hX6n kX6n hb (f := 4) rfl), ⟨fun hO => ⟨lX7n, ⟨conv (eD X6n t) (eD X7n t) (sX7n _), ⟨by simp, end_next (m - 1) (by omega) (ok ⟨x.a, nb, nl, 0, x.e⟩ (tqN t y) hX7n (lX7n.trans (lX6n.trans (lX5n.trans lX1))) (fx.yes2 hC1 hC2 hS hG hE2 (.inl hO)))⟩⟩⟩, fun hO => ⟨conv (eD X6n t) (eD X6n t) (lod hX6n kX6n hb (f := 1) rfl), ⟨fun hZ => ⟨lX7n, ⟨conv (eD X6n t) (eD X7n t) (sX7n _), ⟨by simp, end_next (m - 1) (by omega) (ok ⟨x.a, nb, nl, 0, x.e⟩ (tqN t y) hX7n (lX7n.trans (lX6n.trans (lX5n.trans lX1))) (fx.yes2 hC1 hC2 hS hG hE2 (.inr hZ)))⟩⟩⟩, fun hZ => ⟨by simp, end_next (m - 1) (by omega) (ok ⟨x.a, nb, nl, y.f, x.e⟩ (tqN t y) hX6n (lX6n.trans (lX5n.trans lX1)) (fx.yes3 hC1 hC2 hS hG hE2 hO hZ))⟩⟩⟩⟩⟩⟩⟩⟩⟩⟩⟩⟩⟩⟩⟩⟩⟩⟩⟩⟩⟩⟩⟩⟩⟩⟩⟩⟩⟩⟩⟩⟩⟩⟩⟩⟩⟩⟩, fun hL => (by simp at hL; omega)⟩
set_option maxHeartbeats 8000000 in
theorem loop {G X0 HG : Heap} {ta a2 : Option Addr} {tc n c2 : Nat} {ys : List R7} {l0 : List L5} (eHG : HG = G ++ [some ⟨.fix, e4 a0⟩]) (hs : RowsW 7 G (.slice ta ys.length tc) (ys.map e7)) (hX0 : LsS 5 HG X0 (.slice a2 n c2) (l0.map e5)) (hwf0 : WF l0) (hnl : n = l0.length) (hys : ys.length ≤ 64) (hlines : ∀ y ∈ ys, TP.lineB y = true) :
  Wp (Plain.env [] (gE 0)) (inL [4, 5, 6, 7, 8]) (.block 0 (.loop body54_0)) (denF [.seg G, z4, .seg X0, z4] (frS 202 [(4, nS), (5, (.ptr 1 0)), (6, (sI 0)), (7, (rS a2 n c2)), (8, (.ptr 3 0)), (21, (rS ta ys.length tc)), (22, (sI (ys.length : Int))), (23, (sI 0))])) (denH [.seg G, z4, .seg X0, z4]) (Post G X0 HG ta a2 tc n c2 ys l0) := by
 refine Wp.bl (Inv G X0 HG ta a2 tc n c2 ys l0) ?_ ys.length _ _ ⟨0, X0, [], a0, l0, by omega, rfl, rfl, hwf0, hX0, by simp [a0], by simp [a0], by show denF _ _ = denF _ _; kernel_rfl, by simp [denH, denL, It.den, den0, a0], rfl⟩
 rintro m tt h ⟨i, X, J, t, l2, hi, hXl, hl2, hwf, hX, htp, htl, ht, hh, hr⟩
 rw [ht, hh]
 clear ht hh
 by_cases hlt : i < ys.length
 ·obtain ⟨y, hy⟩ := getE hlt
  obtain ⟨b1, o1, r1⟩ := hs.rowM hy
  have hd : ys.drop i = y :: ys.drop (i + 1) := by
   rw [List.drop_eq_getElem_cons hlt]
   rw [List.getElem?_eq_getElem hlt] at hy
   cases hy; rfl
  rw [hd] at hr
  have hyl := hlines y (List.mem_of_getElem? hy)
  cases ha : atI y.a l2 with
  | none =>
   have wS := search (G := G) (X := X) (J := J) (ta := ta) (tc := tc) (i := i) (ys := ys) (y := y) (t := t) eHG hX hwf (by omega)
   have hF : atF y.a l2 = -1 := by unfold atF; rw [ha]
   rw [hF] at wS
   have hno : runF l0 a0 ys = none := by rw [hr]; simp only [runF, stepF, ha]
   have tr := tree54t ta a2 ys.length tc n c2 i (-1) 0 0 0 0 ⟨0, 0, 0, 0, false⟩ y t b1 o1 0 0 G X X X X X X X X X X X J
   exact Wp.tree (cE_ok 0) tr ⟨by kernel_rfl, by kernel_rfl⟩ ⟨fun hL => ⟨r1.ptr _ _, r1.all _, wS, fun hR => end_ret (post_err hXl rfl hno (by show denF _ _ = denF _ _; kernel_rfl)), fun hR => absurd hR (by simp)⟩, fun q => absurd q (by simp; omega)⟩
  | some k =>
   obtain ⟨x, kX, _⟩ := atI_lt ha
   exact turn eHG hi hys hlt hXl hl2 hwf (by omega) hX hyl htp htl hr r1 ha kX
 ·have hil : i = ys.length := by omega
  have hok : runF l0 a0 ys = some (l2, t) := by rw [hr, hil, List.drop_length]; rfl
  have tr := tree54t ta a2 ys.length tc n c2 i 0 0 0 0 0 ⟨0, 0, 0, 0, false⟩ ⟨0, 0, 0, 0, 0, 0, false⟩ t 0 0 0 0 G X X X X X X X X X X X J
  refine Wp.tree (cE_ok 0) tr ⟨by kernel_rfl, by kernel_rfl⟩ ⟨fun q => absurd q (by simp; omega), fun _ => end_exit ⟨X, J, t, hXl, rfl, ?_⟩⟩
  rw [hok]
  exact ⟨rfl, by show denF _ _ = denF _ _; kernel_rfl, rfl, hl2, hwf, hX⟩
end P
end PR
end Go.Proofs.Ytgdojnamjkhknaa
