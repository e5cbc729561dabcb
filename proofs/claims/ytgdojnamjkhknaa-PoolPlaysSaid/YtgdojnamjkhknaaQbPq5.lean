/-
  ref: a tape, applied to a pool: the whole.
-/
import Derived.Test.YtgdojnamjkhknaaQbPq4
namespace Go.Proofs.Ytgdojnamjkhknaa
open Go.Am
set_option linter.all false
set_option maxRecDepth 100000
namespace PR
open PO (L5 A4 e5 e4 newL sumF wr e5_1 a0 addA mayF doneF stepF runF applyF atI atF atI_lt WF okL wr_id)
namespace P
theorem sum54 : Summ Try.prog 54 (runE (Plain.env [] (gE 0)) il54) := Summ.runE mixed (gE_ok 0) (gE_q 0) st54
def tupR (s : Value) (q : Option A4) : Value := match q with
 | some p => .tuple ⟨[s, .agg ⟨e4 p⟩, .int .i64 0]⟩
 | none => .tuple ⟨[s, .agg ⟨e4 a0⟩, .int .i64 3]⟩
def Out (H : Heap) (l : List L5) (ys : List R7) (v : Value) (h' : Heap) : Prop := match applyF l ys with
 | some q => ∃ a c X, q.1.length = l.length ∧ WF q.1 ∧ LsS 5 H X (.slice a l.length c) (q.1.map e5) ∧ v = tupR (.slice a l.length c) (some q.2) ∧ h' = H ++ X
 | none => ∃ X, v = tupR (.slice none 0 0) none ∧ h' = H ++ X
theorem runF_wf : ∀ {ys : List R7} {l : List L5} {t : A4} {q : List L5 × A4} {M : Int}, WF l → (∀ y ∈ ys, TP.lineB y = true) → 0 ≤ M → M + 100000 * ys.length ≤ 1000000000 → Lim t M → runF l t ys = some q → WF q.1 ∧ q.1.length = l.length
 | [], l, t, q, M, h, _, _, _, _, e => by
  simp only [runF, Option.some.injEq] at e
  subst e; exact ⟨h, rfl⟩
 | y :: r, l, t, q, M, h, hy, h0, hM, ht, e => by
  simp only [runF] at e
  cases hs : stepF l t y with
  | none => rw [hs] at e; cases e
  | some p =>
   rw [hs] at e
   rw [List.length_cons] at hM
   obtain ⟨a1, a2, a3⟩ := step_wf h (hy y (List.mem_cons_self ..)) (by omega) ht hs
   obtain ⟨b1, b2⟩ := runF_wf (M := M + 100000) a1 (fun z hz => hy z (List.mem_cons_of_mem _ hz)) (by omega) (by omega) a3 e
   exact ⟨b1, b2.trans a2⟩
theorem lines {ys : List R7} (h : TP.tapeB ys = true) : ys.length ≤ 64 ∧ ∀ y ∈ ys, TP.lineB y = true := by
 unfold TP.tapeB at h
 split at h
 ·cases h
 ·rename_i hn
  refine ⟨by omega, ?_⟩
  have key : ∀ (l : List R7) (n : Int), TP.rtF n l = true → ∀ y ∈ l, TP.lineB y = true := by
   intro l
   induction l with
   | nil => intro n _ y hy; cases hy
   | cons x r ih =>
    intro n hr y hy
    unfold TP.rtF at hr
    split at hr
    ·cases hr
    ·split at hr
     ·rename_i hx
      rcases List.mem_cons.1 hy with rfl | hy
      ·exact hx
      ·exact ih _ hr y hy
     ·cases hr
  exact key ys 0 h
theorem applyF_wf {l : List L5} {ys : List R7} {q : List L5 × A4} (h : WF l) (e : applyF l ys = some q) : WF q.1 ∧ q.1.length = l.length := by
 unfold applyF at e
 split at e
 ·rename_i ht
  obtain ⟨h1, h2⟩ := lines ht
  exact runF_wf (M := 0) h h2 (by omega) (by omega) ⟨by simp [a0], by simp [a0], by simp [a0], by simp [a0]⟩ e
 ·cases e
set_option maxHeartbeats 4000000 in
theorem fin {G X : Heap} {ta a2 : Option Addr} {tc c2 : Nat} {l : List L5} {ys : List R7} (hs : RowsW 7 G (.slice ta ys.length tc) (ys.map e7)) (hX : LsS 5 (G ++ [some ⟨.fix, e4 a0⟩]) X (.slice a2 l.length c2) (l.map e5)) (hwf : WF l) (htb : TP.tapeB ys = true) :
  Wp (Plain.env [] (gE 0)) (resLv il54.res) r54_1 (denF [.seg G, z4, .seg X, z4] (frS 202 [(1, (rS ta ys.length tc)), (4, nS), (5, (.ptr 1 0)), (6, (sI 0)), (7, (rS a2 l.length c2)), (8, (.ptr 3 0))])) (denH [.seg G, z4, .seg X, z4]) fun e s h' => (e = .normal ∨ e = .ret) ∧ ∃ v, resA s h' il54.res = some v ∧ Out G l ys v h' := by
 obtain ⟨h64, hlines⟩ := lines htb
 have hap : applyF l ys = runF l a0 ys := by unfold applyF; rw [if_pos htb]
 obtain ⟨e, t1, h1, ⟨X2, J, t, hx2, rfl, hmat⟩, w⟩ := (loop (G := G) (X0 := X) (ta := ta) (tc := tc) (c2 := c2) (a2 := a2) (l0 := l) rfl hs hX hwf rfl h64 hlines).exact
 cases hrun : runF l a0 ys with
 | none =>
  rw [hrun] at hmat
  obtain ⟨rfl, rfl⟩ := hmat
  have tr := tree54r ta a2 ys.length tc l.length c2 false t G X X2 J
  refine Wp.tree (cE_ok 0) tr ⟨by kernel_rfl, by kernel_rfl⟩ ⟨w, fun q => (by cases q), fun _ => ⟨hx2, .inr rfl, _, resS_ok (v := .raw (tupR (.slice none 0 0) none)) (by kernel_rfl), ?_⟩⟩
  unfold Out
  rw [hap, hrun]
  exact ⟨some ⟨.fix, e4 a0⟩ :: (X2 ++ (some ⟨.fix, e4 t⟩ :: J)), rfl, by simp [denH, denL, It.den, den0, e4, a0]⟩
 | some q =>
  rw [hrun] at hmat
  obtain ⟨rfl, rfl, rfl, hl2, hw2, hX2⟩ := hmat
  have tr := tree54r ta a2 ys.length tc l.length c2 true q.2 G X X2 J
  refine Wp.tree (cE_ok 0) tr ⟨by kernel_rfl, by kernel_rfl⟩ ⟨w, fun _ => ⟨hx2, rfl, .inr rfl, _, resS_ok (v := .raw (tupR (.slice a2 l.length c2) (some q.2))) (by kernel_rfl), ?_⟩, fun q => (by cases q)⟩
  unfold Out
  rw [hap, hrun]
  refine ⟨a2, c2, some ⟨.fix, e4 q.2⟩ :: (X2 ++ (some ⟨.fix, e4 q.2⟩ :: J)), hl2, hw2, ?_, rfl, by simp [denH, denL, It.den, den0, e4]⟩
  have h1 := ((hX2.base (H' := G ++ [some ⟨.fix, e4 q.2⟩]) (by simp)).ahead).more (some ⟨.fix, e4 q.2⟩ :: J)
  simpa using h1
theorem use54 {H : Heap} {s tv : Value} {l : List L5} {ys : List R7} (hs : RowsW 5 H s (l.map e5)) (ht : RowsW 7 H tv (ys.map e7)) (hwf : WF l) (hn : ys.length ≤ 140737488355328) : ∃ v h', runE (Plain.env [] (gE 0)) il54 [s, tv] H = some (v, h') ∧ Out H l ys v h' := by
 obtain ⟨a, c, hsl⟩ := hs.slcM
 obtain ⟨ta, tc, htl⟩ := ht.slcM
 subst hsl htl
 have hm := hwf.len
 have eH : denH [.seg H] = H := by simp [denH, denL, It.den]
 have e0 : denH [.seg H, z4] = H ++ [some ⟨.fix, e4 a0⟩] := by simp [denH, denL, It.den, den0, e4, a0]
 have ef : [Value.slice a l.length c, Value.slice ta ys.length tc] ++ List.replicate (il54.ntmps - 2) undef = denF [.seg H] (frS 202 [(0, (rS a l.length c)), (1, (rS ta ys.length tc))]) := by kernel_rfl
 have hc87 : opA (Plain.env [] (gE 0)) (.call 87 [(.const (.slice ta ys.length tc))]) [] (denH [.seg H, z4]) = some ((.bool (TP.tapeB ys)), denH [.seg H, z4]) := by
  rw [e0]; exact opA_call (args := [_]) rfl (T.call (ht.app _) hn)
 obtain ⟨a2, c2, X, q1, q2⟩ := appNew (I := [.seg H, z4]) rfl (w := 5) (eby := 40) (x := .slice a l.length c) (rows := l.map e5) (by rw [e0]; exact hs.app _) (by intro r hr; obtain ⟨x, _, rfl⟩ := List.mem_map.1 hr; rfl) (by decide) (by simp; omega) (by simp; omega)
 rw [List.length_map] at q1 q2
 refine Wp.run (F := il54) (args := [.slice a l.length c, .slice ta ys.length tc]) ?_
 show Wp _ _ _ ([Value.slice a l.length c, Value.slice ta ys.length tc] ++ List.replicate (il54.ntmps - 2) undef) _ _
 rw [ef]
 conv => arg 5; rw [← eH]
 refine Wp.split' (n := 3) (p := c54_0) (q := r54_1) (lv' := fun i => (exL i r54_1 || resLv il54.res i)) (by kernel_rfl) (fun i q => q) ?_
 have tr := tree54h a ta (some a2) l.length c ys.length tc c2 (TP.tapeB ys) H X
 refine Wp.tree (cE_ok 0) tr ⟨by kernel_rfl, by kernel_rfl⟩ ⟨hc87, fun hb => ?_, fun hb => ⟨q1 _, ?_⟩⟩
 ·have htf : TP.tapeB ys = false := by simpa using hb
  refine ⟨.inr rfl, _, resS_ok (v := .raw (tupR (.slice none 0 0) none)) (by kernel_rfl), ?_⟩
  unfold Out applyF
  rw [if_neg (by rw [htf]; simp)]
  exact ⟨[some ⟨.fix, e4 a0⟩], rfl, e0⟩
 ·have htb : TP.tapeB ys = true := by simpa using hb
  show Wp (Plain.env [] (gE 0)) (resLv il54.res) r54_1 _ _ _
  have e1 : denH [.seg H, z4, .blk .fix [], .seg X, z4] = denH [.seg H, z4, .seg (some ⟨.fix, []⟩ :: X), z4] := by simp [denH, denL, It.den, den0]
  have e2 : denF [.seg H, z4, .blk .fix [], .seg X, z4] (frS 202 [(1, (rS ta ys.length tc)), (4, nS), (5, (.ptr 1 0)), (6, (sI 0)), (7, (rS (some a2) l.length c2)), (8, (.ptr 4 0))]) = denF [.seg H, z4, .seg (some ⟨.fix, []⟩ :: X), z4] (frS 202 [(1, (rS ta ys.length tc)), (4, nS), (5, (.ptr 1 0)), (6, (sI 0)), (7, (rS (some a2) l.length c2)), (8, (.ptr 3 0))]) := by
   rw [frS_den, frS_den]
   simp [denV, denA, den0, ofs, It.len, denH, denL, It.den]
   rw [show 1 + (1 + List.length X) = 1 + (List.length X + 1) by omega]
  refine (?_ : Wp (Plain.env [] (gE 0)) (resLv il54.res) r54_1 (denF [.seg H, z4, .blk .fix [], .seg X, z4] (frS 202 [(1, (rS ta ys.length tc)), (4, nS), (5, (.ptr 1 0)), (6, (sI 0)), (7, (rS (some a2) l.length c2)), (8, (.ptr 4 0))])) (denH [.seg H, z4, .blk .fix [], .seg X, z4]) _)
  rw [e1, e2]
  exact fin ht (by rw [e0] at q2; exact q2) hwf htb
end P
end PR
end Go.Proofs.Ytgdojnamjkhknaa
