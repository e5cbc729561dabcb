/-
  dealdoc: a deal out of bytes.
-/
import Derived.Test.YtgdojnamjkhknaaQdDt
import Derived.Test.YtgdojnamjkhknaaQdIp
namespace Go.Proofs.Ytgdojnamjkhknaa
open Go.Am
set_option linter.all false
set_option maxRecDepth 100000
namespace DU
open DE (dB dZ dX dD)
open WI (preI resI intsF okI useI)
open RD (mny doneB rdB)
open D (DV DlW dVal preD preD_u rightB)
open DR (dealR stt val)
def dv0 : DV := ⟨0, 0, 0, 0, 0, 0, 0, 0, 0, 0, 0, 0, 0, [], [], [], [], []⟩
def decD (bs : List Int) : DV × Int := if okI bs then
  if doneB (dealR (intsF bs) false).2.1 (dealR (intsF bs) false).2.2 then if rightB (dealR (intsF bs) false).1 then ((dealR (intsF bs) false).1, 0) else (dv0, 2) else (dv0, 1)
 else (dv0, 1)
theorem dealR_sm (l : List Int) (b : Bool) : (dealR l b).1.sm := by
 have k : ∀ (m : Int) (l : List Int) (b : Bool), 0 ≤ m → m ≤ 1000 → (mny m l b).1.toNat ≤ 1099511627776 := fun m l b h1 h2 => by
  have := DR.mny_b m h1 l b
  omega
 refine ⟨?_, ?_, ?_, ?_, ?_⟩
 ·show (DR.rows2 _ _ _).1.length ≤ _; rw [DR.rows2_len]; exact k _ _ _ (by decide) (by decide)
 ·show (DR.rows3 _ _ _).1.length ≤ _; rw [DR.rows3_len]; exact k _ _ _ (by decide) (by decide)
 ·show (DR.rows2 _ _ _).1.length ≤ _; rw [DR.rows2_len]; exact k _ _ _ (by decide) (by decide)
 ·show (DR.rows2 _ _ _).1.length ≤ _; rw [DR.rows2_len]; exact k _ _ _ (by decide) (by decide)
 ·show (DR.rows2 _ _ _).1.length ≤ _; rw [DR.rows2_len]; exact k _ _ _ (by decide) (by decide)
theorem DlW.app {H : Heap} {v : Value} {d : DV} (h : DlW H v d) (X : Heap) : DlW (H ++ X) v d := by
 obtain ⟨al, an, a0, a1, a2, cl, cn, c0, c1, c2, e, h1, h2, h3, h4, h5⟩ := h
 exact ⟨al, an, a0, a1, a2, cl, cn, c0, c1, c2, e, h1.app X, h2.app X, h3.app X, h4.app X, h5.app X⟩
noncomputable def gD : Env := fun f => match f with
 | 24 => runE (Plain.env [] (RD.R.gE 1)) RD.R.il24
 | 28 => runE (Plain.env [] (WB.gE 0)) RD.N.il28
 | 32 => smry preI resI
 | 37 => smry preD fun d h => (.bool (rightB d), h)
 | 92 => runE (Plain.env [] (DR.gE 0)) DR.il92
 | _ => fun _ _ => none
theorem gD_ok : EnvOk Try.prog gD := fun f => by
 unfold gD
 split
 ·exact RD.R.sum24
 ·exact RD.N.sum28
 ·exact WI.summI
 ·exact D.U.sims.1
 ·exact DR.sum92
 ·exact fun args h v h' e => by cases e
theorem gD_q : QuietEnv qt gD := fun f args h v h' hf e => by cases hf
noncomputable abbrev gE (k : Nat) : Env := inE [] [] k gD
noncomputable abbrev cE (k : Nat) : CallS := callS [] [] gD 100 k
theorem gE_q (k : Nat) : QuietEnv qt (Plain.env [] (gE k)) := Plain.quiet (inE_quiet gD_q (fun f F h => by cases h) k)
theorem gE_ok (k : Nat) : EnvOk Try.prog (Plain.env [] (gE k)) := Plain.ok .nil (inE_ok (qt := qt) mixed .nil .nil (fun f F h => by cases h) gD_ok gD_q k)
theorem cE_ok (k : Nat) : CallOk (Plain.env [] (gE k)) (cE k) := callS_ok k
theorem call {f : Nat} {args : List Value} {h : Heap} {r : Value × Heap} (e : gD f args h = some r) : opA (Plain.env [] (gE 0)) (.call f (args.map .const)) [] h = some r := opA_call rfl e
def il68 : FnIL := ⟨31, [.cell 2 (some 18), .tmp 3], .seq (.reg [ oT 2 (.alloc zD), oT 3 (.mov (kI 0))]) (.seq (.reg [ oT 9 (.mov (.tmp 0)), oT 10 (.call 32 [(.tmp 9)]), oT 8 (.mov (.tmp 10)), oT 11 (.ext 0 (.tmp 8)), oT 12 (.ext 1 (.tmp 8)), oT 4 (.mov (.tmp 11)), oT 5 (.mov (.tmp 12))]) (.seq (.seq (.reg [ oT 13 (.mov (.tmp 5)), oT 14 (.un .not (.tmp 13))]) (.ite (.tmp 14) (.seq (.reg [ oT 15 (.build zD []), oN (.store (.tmp 2) (.tmp 15) 18), oT 3 (.mov (kI 1))]) (.ret)) (.skip))) (.seq (.reg [ oT 16 (.mov (.tmp 4)), oT 17 (.call 24 [(.tmp 16)]), oT 6 (.mov (.tmp 17))]) (.seq (.reg [ oT 18 (.mov (.tmp 6)), oT 19 (.call 92 [(.tmp 18)]), oT 7 (.alloc zD), oN (.store (.tmp 7) (.tmp 19) 18)]) (.seq (.block 0 (.seq (.reg [ oT 21 (.mov (.tmp 6)), oT 22 (.call 28 [(.tmp 21)]), oT 23 (.un .not (.tmp 22)), oT 20 (.mov (.tmp 23))]) (.ite (.tmp 20) (.seq (.reg [ oT 24 (.build zD []), oN (.store (.tmp 2) (.tmp 24) 18), oT 3 (.mov (kI 1))]) (.ret)) (.seq (.reg [ oT 26 (.load (.tmp 7) (some 18)), oT 27 (.call 37 [(.tmp 26)]), oT 28 (.un .not (.tmp 27)), oT 25 (.mov (.tmp 28))]) (.ite (.tmp 25) (.seq (.reg [ oT 29 (.build zD []), oN (.store (.tmp 2) (.tmp 29) 18), oT 3 (.mov (kI 2))]) (.ret)) (.skip)))))) (.seq (.reg [ oT 30 (.load (.tmp 7) (some 18)), oN (.store (.tmp 2) (.tmp 30) 18), oT 3 (.mov (kI 0))]) (.ret)))))))⟩
theorem st68 : stF Try.prog qt 68 = some il68 := by kernel_rfl
theorem tree68a (y mo ba fe re ta ad cu oc ic la lo ce : Int) (sa ai al an a0 a1 a2 : Option Addr) (n c ni ci_ nl cl nn cn n0 c0 n1 c1 n2 c2 : Nat) (v0 v1 : Value) (b1 : Bool) (H X1 X2 X3 : Heap) : fnS [] (gE 0) (cE 0) 300 il68 (.use 26000010 (.raw (.tuple ⟨[(.slice ai ni ci_), (.bool false)]⟩)) ⟨[], [.seg X1]⟩ (.con .nil)) [(rS sa n c)] [.seg H] =
(.claim (opA (Plain.env [] (gE 0)) (.call 32 [(.const (.slice sa n c))]) [] (denH [.seg H, dZ]) = some ((.tuple ⟨[(.slice ai ni ci_), (.bool false)]⟩), denH [.seg H, dZ, .seg X1]))
 (.ret .ret [(.raw (.tuple ⟨[(.agg ⟨zD⟩), (.int .i64 1)]⟩))] [.seg H, dZ, .seg X1])) := by kernel_rfl
theorem tree68b (y mo ba fe re ta ad cu oc ic la lo ce : Int) (sa ai al an a0 a1 a2 : Option Addr) (n c ni ci_ nl cl nn cn n0 c0 n1 c1 n2 c2 : Nat) (v0 v1 : Value) (b1 : Bool) (H X1 X2 X3 : Heap) : (fun (Z0 : SH) => (fun (Z1 : SH) => (fun (Z2 : Value) => (fun (Z3 : Value) => fnS [] (gE 0) (cE 0) 300 il68 (.use 26000010 (.raw Z3) ⟨[], [.seg X1]⟩ (.con (.use 26000017 (.ptr 4 0) ⟨[], [.seg X2, .blk .fix [(.raw v0), (sB false)]]⟩ (.use 26000019 (.raw Z2) ⟨[(4, .blk .fix [(.raw v1), (sB b1)])], [.seg X3]⟩ (.use 26000022 (sB false) ⟨[], []⟩ (.con .nil)))))) [(rS sa n c)] [.seg H] =
(.claim (opA (Plain.env [] (gE 0)) (.call 32 [(.const (.slice sa n c))]) [] (denH [.seg H, dZ]) = some (Z3, denH [.seg H, dZ, .seg X1]))
 (.claim (opA (Plain.env [] (gE 0)) (.call 24 [(.const (.slice ai ni ci_))]) [] (denH [.seg H, dZ, .seg X1]) = some ((denV (ofs Z1) (.ptr 4 0)), denH Z1))
 (.claim (opA (Plain.env [] (gE 0)) (.call 92 [(.const (denV (ofs Z1) (.ptr 4 0)))]) [] (denH Z1) = some (Z2, denH [.seg H, dZ, .seg X1, .seg X2, .blk .fix [(.raw v1), (sB b1)], .seg X3]))
 (.claim (opA (Plain.env [] (gE 0)) (.call 28 [(.const (denV (ofs Z0) (.ptr 4 0)))]) [] (denH Z0) = some ((.bool false), denH Z0))
 (.ret .ret [(.raw (.tuple ⟨[(.agg ⟨zD⟩), (.int .i64 1)]⟩))] Z0)))))) (.tuple ⟨[(.slice ai ni ci_), (.bool true)]⟩)) (.agg ⟨(vX al an a0 a1 a2 nl cl nn cn n0 c0 n1 c1 n2 c2 y mo ba fe re ta ad cu oc ic la lo ce)⟩)) [.seg H, dZ, .seg X1, .seg X2, .blk .fix [(.raw v0), (sB false)]]) [.seg H, dZ, .seg X1, .seg X2, .blk .fix [(.raw v1), (sB b1)], .seg X3, (dX al an a0 a1 a2 nl cl nn cn n0 c0 n1 c1 n2 c2 y mo ba fe re ta ad cu oc ic la lo ce)] := by show _ = _; kernel_rfl
theorem tree68c (y mo ba fe re ta ad cu oc ic la lo ce : Int) (sa ai al an a0 a1 a2 : Option Addr) (n c ni ci_ nl cl nn cn n0 c0 n1 c1 n2 c2 : Nat) (v0 v1 : Value) (b1 : Bool) (H X1 X2 X3 : Heap) : (fun (Z0 : SH) => (fun (Z1 : Value) => (fun (Z2 : SH) => (fun (Z3 : Value) => fnS [] (gE 0) (cE 0) 300 il68 (.use 26000010 (.raw Z3) ⟨[], [.seg X1]⟩ (.con (.use 26000017 (.ptr 4 0) ⟨[], [.seg X2, .blk .fix [(.raw v0), (sB false)]]⟩ (.use 26000019 (.raw Z1) ⟨[(4, .blk .fix [(.raw v1), (sB b1)])], [.seg X3]⟩ (.use 26000022 (sB true) ⟨[], []⟩ (.con (.use 26000027 (sB false) ⟨[], []⟩ (.con .nil)))))))) [(rS sa n c)] [.seg H] =
(.claim (opA (Plain.env [] (gE 0)) (.call 32 [(.const (.slice sa n c))]) [] (denH [.seg H, dZ]) = some (Z3, denH [.seg H, dZ, .seg X1]))
 (.claim (opA (Plain.env [] (gE 0)) (.call 24 [(.const (.slice ai ni ci_))]) [] (denH [.seg H, dZ, .seg X1]) = some ((denV (ofs Z2) (.ptr 4 0)), denH Z2))
 (.claim (opA (Plain.env [] (gE 0)) (.call 92 [(.const (denV (ofs Z2) (.ptr 4 0)))]) [] (denH Z2) = some (Z1, denH [.seg H, dZ, .seg X1, .seg X2, .blk .fix [(.raw v1), (sB b1)], .seg X3]))
 (.claim (opA (Plain.env [] (gE 0)) (.call 28 [(.const (denV (ofs Z0) (.ptr 4 0)))]) [] (denH Z0) = some ((.bool true), denH Z0))
 (.claim (opA (Plain.env [] (gE 0)) (.call 37 [(.const Z1)]) [] (denH Z0) = some ((.bool false), denH Z0))
 (.ret .ret [(.raw (.tuple ⟨[(.agg ⟨zD⟩), (.int .i64 2)]⟩))] Z0))))))) (.tuple ⟨[(.slice ai ni ci_), (.bool true)]⟩)) [.seg H, dZ, .seg X1, .seg X2, .blk .fix [(.raw v0), (sB false)]]) (.agg ⟨(vX al an a0 a1 a2 nl cl nn cn n0 c0 n1 c1 n2 c2 y mo ba fe re ta ad cu oc ic la lo ce)⟩)) [.seg H, dZ, .seg X1, .seg X2, .blk .fix [(.raw v1), (sB b1)], .seg X3, (dX al an a0 a1 a2 nl cl nn cn n0 c0 n1 c1 n2 c2 y mo ba fe re ta ad cu oc ic la lo ce)] := by show _ = _; kernel_rfl
theorem tree68d (y mo ba fe re ta ad cu oc ic la lo ce : Int) (sa ai al an a0 a1 a2 : Option Addr) (n c ni ci_ nl cl nn cn n0 c0 n1 c1 n2 c2 : Nat) (v0 v1 : Value) (b1 : Bool) (H X1 X2 X3 : Heap) : (fun (Z3 : It) => (fun (Z0 : SH) => (fun (Z1 : Value) => (fun (Z2 : SH) => (fun (Z4 : Value) => fnS [] (gE 0) (cE 0) 300 il68 (.use 26000010 (.raw Z4) ⟨[], [.seg X1]⟩ (.con (.use 26000017 (.ptr 4 0) ⟨[], [.seg X2, .blk .fix [(.raw v0), (sB false)]]⟩ (.use 26000019 (.raw Z1) ⟨[(4, .blk .fix [(.raw v1), (sB b1)])], [.seg X3]⟩ (.use 26000022 (sB true) ⟨[], []⟩ (.con (.use 26000027 (sB true) ⟨[], []⟩ (.con .nil)))))))) [(rS sa n c)] [.seg H] =
(.claim (opA (Plain.env [] (gE 0)) (.call 32 [(.const (.slice sa n c))]) [] (denH [.seg H, dZ]) = some (Z4, denH [.seg H, dZ, .seg X1]))
 (.claim (opA (Plain.env [] (gE 0)) (.call 24 [(.const (.slice ai ni ci_))]) [] (denH [.seg H, dZ, .seg X1]) = some ((denV (ofs Z2) (.ptr 4 0)), denH Z2))
 (.claim (opA (Plain.env [] (gE 0)) (.call 92 [(.const (denV (ofs Z2) (.ptr 4 0)))]) [] (denH Z2) = some (Z1, denH [.seg H, dZ, .seg X1, .seg X2, .blk .fix [(.raw v1), (sB b1)], .seg X3]))
 (.claim (opA (Plain.env [] (gE 0)) (.call 28 [(.const (denV (ofs Z0) (.ptr 4 0)))]) [] (denH Z0) = some ((.bool true), denH Z0))
 (.claim (opA (Plain.env [] (gE 0)) (.call 37 [(.const Z1)]) [] (denH Z0) = some ((.bool true), denH Z0))
 (.ret .ret [(.raw (.tuple ⟨[Z1, (.int .i64 0)]⟩))] [.seg H, Z3, .seg X1, .seg X2, .blk .fix [(.raw v1), (sB b1)], .seg X3, Z3]))))))) (.tuple ⟨[(.slice ai ni ci_), (.bool true)]⟩)) [.seg H, dZ, .seg X1, .seg X2, .blk .fix [(.raw v0), (sB false)]]) (.agg ⟨(vX al an a0 a1 a2 nl cl nn cn n0 c0 n1 c1 n2 c2 y mo ba fe re ta ad cu oc ic la lo ce)⟩)) [.seg H, dZ, .seg X1, .seg X2, .blk .fix [(.raw v1), (sB b1)], .seg X3, Z3]) (dX al an a0 a1 a2 nl cl nn cn n0 c0 n1 c1 n2 c2 y mo ba fe re ta ad cu oc ic la lo ce) := by show _ = _; kernel_rfl
theorem sum68 : Summ Try.prog 68 (runE (Plain.env [] (gE 0)) il68) := Summ.runE mixed (gE_ok 0) (gE_q 0) st68
theorem nil0 (H : Heap) : DlW H (dVal none none none none none 0 0 0 0 0 0 0 0 0 0 dv0) dv0 := ⟨none, none, none, none, none, 0, 0, 0, 0, 0, rfl, .inl ⟨rfl, rfl⟩, .inl ⟨rfl, rfl⟩, .inl ⟨rfl, rfl⟩, .inl ⟨rfl, rfl⟩, .inl ⟨rfl, rfl⟩⟩
theorem run68 {H : Heap} {s : Value} {bs : List Int} (hs : RowsW 1 H s (bs.map br)) (hb : bs.length ≤ 1000000) :
  ∃ v X, runE (Plain.env [] (gE 0)) il68 [s] H = some (.tuple ⟨[v, .int .i64 (decD bs).2]⟩, H ++ X) ∧ DlW (H ++ X) v (decD bs).1 := by
 obtain ⟨sa, sc, rfl⟩ := hs.slcM
 have e0 : denH [.seg H] = H := by simp [denH, denL, It.den]
 have h0 : RowsW 1 (denH [.seg H, dZ]) (.slice sa bs.length sc) (bs.map br) := D.up1 hs _
 obtain ⟨ai, ci, X1, g1, r1⟩ := useI (I := [.seg H, dZ]) rfl h0 (by omega)
 have nil : ∀ (q : Int) (X : Heap), decD bs = (dv0, q) → runE (Plain.env [] (gE 0)) il68 [.slice sa bs.length sc] H = some (.tuple ⟨[dVal none none none none none 0 0 0 0 0 0 0 0 0 0 dv0, .int .i64 q]⟩, H ++ X) → ∃ v X, runE (Plain.env [] (gE 0)) il68 [.slice sa bs.length sc] H = some (.tuple ⟨[v, .int .i64 (decD bs).2]⟩, H ++ X) ∧ DlW (H ++ X) v (decD bs).1 := fun q X e r => by
  rw [e]
  exact ⟨_, X, r, nil0 _⟩
 have z18 : ∀ X : SH, ∃ Y, denH (.seg H :: X) = H ++ Y := fun X => ⟨denL (ofs (.seg H :: X)) X, rfl⟩
 cases ok : okI bs with
 | false =>
  rw [ok] at g1
  have ed : decD bs = (dv0, 1) := by unfold decD; rw [ok]; rfl
  obtain ⟨Y, eY⟩ := z18 [dZ, .seg X1]
  obtain ⟨w, h', rr, rfl, rfl⟩ := fnS_run (Q := fun w h' => w = .tuple ⟨[dVal none none none none none 0 0 0 0 0 0 0 0 0 0 dv0, .int .i64 1]⟩ ∧ h' = H ++ Y) (cE_ok 0) (tree68a 0 0 0 0 0 0 0 0 0 0 0 0 0 sa ai none none none none none bs.length sc (intsF bs).length ci 0 0 0 0 0 0 0 0 0 0 (.slice none 0 0) (.slice none 0 0) false H X1 [] []) ⟨rfl, rfl⟩ ⟨call (args := [_]) g1, rfl, eY⟩
  exact nil 1 Y ed (by rw [e0] at rr; exact rr)
 | true =>
  rw [ok] at g1
  have nI : (intsF bs).length ≤ 1000000 := by rw [WI.intsF_len]; split <;> omega
  obtain ⟨v0, X2, r2, g2⟩ := RD.R.use24 (I := [.seg H, dZ, .seg X1]) rfl r1 nI
  obtain ⟨r, er⟩ : ∃ r, r = dealR (intsF bs) false := ⟨_, rfl⟩
  obtain ⟨dv, v1, X3, g3, r3, hd⟩ := DR.run92 (B := []) (b := false) r2
  rw [← er] at g3 r3 hd
  have sm : r.1.sm := by rw [er]; exact dealR_sm _ _
  obtain ⟨d, eD⟩ : ∃ d, d = r.1 := ⟨_, rfl⟩
  rw [← eD] at hd sm
  have hd' := hd (denH [.seg H, dZ, .seg X1, .seg X2, rdB v1 r.2.2]) [] (by simp [denH, denL, It.den]; omega)
  obtain ⟨al, an, a0, a1, a2, cl, cn, c0, c1, c2, rfl, _⟩ := hd'
  have q1 : denH [.seg H, dZ, .seg X1, .seg X2, rdB v0 false] = denH [.seg H, dZ, .seg X1, .seg X2] ++ some ⟨.fix, [v0, .bool false]⟩ :: [] := RD.denH_rd (I1 := [.seg H, dZ, .seg X1, .seg X2]) rfl [] v0 false
  have q2 : denH [.seg H, dZ, .seg X1, .seg X2, rdB v1 r.2.2, .seg X3] = denH [.seg H, dZ, .seg X1, .seg X2] ++ some ⟨.fix, [v1, .bool r.2.2]⟩ :: ([] ++ X3) := by
   have := RD.denH_rd (I1 := [.seg H, dZ, .seg X1, .seg X2]) rfl [.seg X3] v1 r.2.2
   simpa [denL, It.den] using this
  have q3 : denV (ofs [.seg H, dZ, .seg X1, .seg X2, rdB v0 false]) (.ptr 4 0) = .pointer (some ⟨(denH [.seg H, dZ, .seg X1, .seg X2]).length, 0, none⟩) := RD.ptr_rd (I1 := [.seg H, dZ, .seg X1, .seg X2]) (I2 := []) _
  have g3' : gD 92 [denV (ofs [.seg H, dZ, .seg X1, .seg X2, rdB v0 false]) (.ptr 4 0)] (denH [.seg H, dZ, .seg X1, .seg X2, rdB v0 false]) = some (D.dVal al an a0 a1 a2 d.l.length cl d.n.length cn d.s0.length c0 d.s1.length c1 d.s2.length c2 d, denH [.seg H, dZ, .seg X1, .seg X2, rdB v1 r.2.2, .seg X3]) := by
   rw [q1, q2, q3]; exact g3
  have g5 := RD.N.use28 (I1 := [.seg H, dZ, .seg X1, .seg X2]) rfl [.seg X3, dD d al an a0 a1 a2 cl cn c0 c1 c2] (bad := r.2.2) r3
  have q4 : denH [.seg H, dZ, .seg X1, .seg X2, rdB v1 r.2.2, .seg X3, dD d al an a0 a1 a2 cl cn c0 c1 c2] = denH [.seg H, dZ, .seg X1, .seg X2, rdB v1 r.2.2, .seg X3] ++ denL (ofs [.seg H, dZ, .seg X1, .seg X2, rdB v1 r.2.2, .seg X3, dD d al an a0 a1 a2 cl cn c0 c1 c2]) [dD d al an a0 a1 a2 cl cn c0 c1 c2] := denH_app (I := [.seg H, dZ, .seg X1, .seg X2, rdB v1 r.2.2, .seg X3]) (J := [dD d al an a0 a1 a2 cl cn c0 c1 c2]) rfl
  have hd7 : DlW (denH [.seg H, dZ, .seg X1, .seg X2, rdB v1 r.2.2, .seg X3, dD d al an a0 a1 a2 cl cn c0 c1 c2]) (D.dVal al an a0 a1 a2 d.l.length cl d.n.length cn d.s0.length c0 d.s1.length c1 d.s2.length c2 d) d := by
   have e5 := denH_app (I := [.seg H, dZ, .seg X1, .seg X2, rdB v1 r.2.2]) (J := [.seg X3, dD d al an a0 a1 a2 cl cn c0 c1 c2]) rfl
   exact e5 ▸ hd _ _ (by simp [denH, denL, It.den]; omega)
  have ed : decD bs = if doneB r.2.1 r.2.2 then if rightB d then (d, 0) else (dv0, 2) else (dv0, 1) := by unfold decD; rw [ok, if_pos rfl, ← er, ← eD]
  obtain ⟨Y, eY⟩ := z18 [dZ, .seg X1, .seg X2, rdB v1 r.2.2, .seg X3, dD d al an a0 a1 a2 cl cn c0 c1 c2]
  cases dn : doneB r.2.1 r.2.2 with
  | false =>
   rw [dn] at ed g5
   rw [if_neg (by decide)] at ed
   obtain ⟨w, h', rr, rfl, rfl⟩ := fnS_run (Q := fun w h' => w = .tuple ⟨[dVal none none none none none 0 0 0 0 0 0 0 0 0 0 dv0, .int .i64 1]⟩ ∧ h' = H ++ Y) (cE_ok 0) (tree68b d.y d.mo d.ba d.fe d.re d.ta d.ad d.cu d.oc d.ic d.la d.lo d.ce sa ai al an a0 a1 a2 bs.length sc (intsF bs).length ci d.l.length cl d.n.length cn d.s0.length c0 d.s1.length c1 d.s2.length c2 v0 v1 r.2.2 H X1 X2 X3) ⟨rfl, rfl⟩ ⟨call (args := [_]) g1, call (args := [_]) g2, call (args := [_]) g3', call (args := [_]) g5, rfl, eY⟩
   exact nil 1 Y ed (by rw [e0] at rr; exact rr)
  | true =>
   rw [dn] at ed g5
   rw [if_pos rfl] at ed
   have g7 : gD 37 [D.dVal al an a0 a1 a2 d.l.length cl d.n.length cn d.s0.length c0 d.s1.length c1 d.s2.length c2 d] (denH [.seg H, dZ, .seg X1, .seg X2, rdB v1 r.2.2, .seg X3, dD d al an a0 a1 a2 cl cn c0 c1 c2]) = some (.bool (rightB d), denH [.seg H, dZ, .seg X1, .seg X2, rdB v1 r.2.2, .seg X3, dD d al an a0 a1 a2 cl cn c0 c1 c2]) := preD_u (d := d) (F := fun d h => (.bool (rightB d), h)) ⟨_, rfl, hd7, sm⟩
   cases rt : rightB d with
   | false =>
    rw [rt] at ed g7
    rw [if_neg (by decide)] at ed
    obtain ⟨w, h', rr, rfl, rfl⟩ := fnS_run (Q := fun w h' => w = .tuple ⟨[dVal none none none none none 0 0 0 0 0 0 0 0 0 0 dv0, .int .i64 2]⟩ ∧ h' = H ++ Y) (cE_ok 0) (tree68c d.y d.mo d.ba d.fe d.re d.ta d.ad d.cu d.oc d.ic d.la d.lo d.ce sa ai al an a0 a1 a2 bs.length sc (intsF bs).length ci d.l.length cl d.n.length cn d.s0.length c0 d.s1.length c1 d.s2.length c2 v0 v1 r.2.2 H X1 X2 X3) ⟨rfl, rfl⟩ ⟨call (args := [_]) g1, call (args := [_]) g2, call (args := [_]) g3', call (args := [_]) g5, call (args := [_]) g7, rfl, eY⟩
    exact nil 2 Y ed (by rw [e0] at rr; exact rr)
   | true =>
    rw [rt] at ed g7
    rw [if_pos rfl] at ed
    obtain ⟨Y2, eY2⟩ := z18 [dD d al an a0 a1 a2 cl cn c0 c1 c2, .seg X1, .seg X2, rdB v1 r.2.2, .seg X3, dD d al an a0 a1 a2 cl cn c0 c1 c2]
    have hd9 : DlW (denH [.seg H, dD d al an a0 a1 a2 cl cn c0 c1 c2, .seg X1, .seg X2, rdB v1 r.2.2, .seg X3, dD d al an a0 a1 a2 cl cn c0 c1 c2]) (D.dVal al an a0 a1 a2 d.l.length cl d.n.length cn d.s0.length c0 d.s1.length c1 d.s2.length c2 d) d := by
     have e5 := denH_app (I := [.seg H, dD d al an a0 a1 a2 cl cn c0 c1 c2, .seg X1, .seg X2, rdB v1 r.2.2]) (J := [.seg X3, dD d al an a0 a1 a2 cl cn c0 c1 c2]) rfl
     exact e5 ▸ hd _ _ (by simp [denH, denL, It.den]; omega)
    obtain ⟨w, h', rr, rfl, rfl⟩ := fnS_run (Q := fun w h' => w = .tuple ⟨[D.dVal al an a0 a1 a2 d.l.length cl d.n.length cn d.s0.length c0 d.s1.length c1 d.s2.length c2 d, .int .i64 0]⟩ ∧ h' = H ++ Y2) (cE_ok 0) (tree68d d.y d.mo d.ba d.fe d.re d.ta d.ad d.cu d.oc d.ic d.la d.lo d.ce sa ai al an a0 a1 a2 bs.length sc (intsF bs).length ci d.l.length cl d.n.length cn d.s0.length c0 d.s1.length c1 d.s2.length c2 v0 v1 r.2.2 H X1 X2 X3) ⟨rfl, rfl⟩ ⟨call (args := [_]) g1, call (args := [_]) g2, call (args := [_]) g3', call (args := [_]) g5, call (args := [_]) g7, rfl, eY2⟩
    rw [ed]
    exact ⟨D.dVal al an a0 a1 a2 d.l.length cl d.n.length cn d.s0.length c0 d.s1.length c1 d.s2.length c2 d, Y2, by rw [e0] at rr; exact rr, eY2 ▸ hd9⟩
end DU
end Go.Proofs.Ytgdojnamjkhknaa
