/-
  word: the chunks of a list of bytes, handed out one by one.
-/
import Derived.Test.YtgdojnamjkhknaaProg
import Derived.Test.YtgdojnamjkhknaaQdLcA
import Derived.RangeFuncKeeps
import Derived.WalkKit
import Derived.OwnWalkIn
import Derived.TacticsInMore
import Derived.LoopNIn
import Derived.LoopIn
import Derived.BigRegionIn
import Derived.KernelRfl
namespace Go.Proofs.Ytgdojnamjkhknaa
open Go.Am Go.RowKit
set_option linter.all false
attribute [local go_sem] Oper.semAt_some
namespace IC
abbrev enc (lb ob : Nat) {N : Nat} (x : Fin N) : Array Value := #[.slice (some ⟨lb, ob + 8 * x.val, none⟩) 8 8]
theorem drew_grown (w : World) : w.grownBy w.drew none := ⟨rfl, rfl, rfl, Nat.le_refl _, fun _ _ _ => rfl⟩
set_option maxRecDepth 100000 in
set_option maxHeartbeats 4000000 in
theorem chunk_in (n : Nat) (hn : 1 ≤ n) (l bs xs bn xn lb ob len N : Nat) (hN : len = 8 * N) (hreach : len ≤ 140737488355328) (J Jx : List (Fin N) → World → Prop) (hJ : ∀ s W W', J s W → W.grownBy W' none → J s W')
  (G : World → Prop) (hG : ∀ W, G W → ∃ cap, len ≤ cap ∧ W.cell? ⟨bs, xs, none⟩ = some (.slice (some ⟨lb, ob, none⟩) len cap) ∧ W.cell? ⟨bn, xn, none⟩ = some (.int .i64 8)) (hGd : ∀ W W', G W → W.grownBy W' none → G W')
  (hY : ∀ pre (x : Fin N) W, J pre W → pre.length < N → YieldAt Fence.wide (n - 1) Try.prog l (enc lb ob x) W fun e W' =>
   (e = .returned (.bool true) ∧ J (pre ++ [x]) W' ∧ (G W → G W')) ∨ (e = .returned (.bool false) ∧ Jx (pre ++ [x]) W'))
  (W : World) (g0 : G W) (h0 : J [] W) :
  CallsIn Fence.wide n Try.prog 93 #[.func (.yield l) #[] #[], .pointer (some ⟨bs, xs, none⟩), .pointer (some ⟨bn, xn, none⟩)] W fun e W' => (∃ v, e = .returned v) ∧
   ((∃ ys : List (Fin N), ys.map Fin.val = List.range N ∧ J ys W') ∨ (∃ pre, True ∧ Jx pre W')) := by
 refine callsIn_of_wp Try.func93 rfl trivial ?_ rfl
 simp only [Try.ntmps93, List.size_toArray, List.length_cons, List.length_nil, Nat.reduceAdd, Nat.reduceSub, Array.replicate_succ, Array.replicate_zero, List.push_toArray, List.append_toArray, List.nil_append, List.cons_append]
 gi_wp2
 gi_loopw [4] (fun i wr => ∃ (k : Nat) (pre : List (Fin N)), k ≤ N ∧ i = .int .i64 (8 * k : Nat) ∧ pre.map Fin.val = List.range k ∧ J pre wr ∧ G wr)
  (fun i _ => len - (intOf i).toNat)
 case atStart => exact ⟨0, [], Nat.zero_le _, rfl, rfl, h0, g0⟩
 case round =>
  obtain ⟨k, pre, hk, rfl, hpre, hJs, hg⟩ := hrel
  have hpl : pre.length = k := by have := congrArg List.length hpre; simpa using this
  obtain ⟨cap, hc1, hcs, hcn⟩ := hG _ hg
  have hd := drew_grown wr
  have hle : 8 * k ≤ len := by omega
  by_cases hlt : k < N
  ·have hm : (8 : Nat) ≤ len - 8 * k := by omega
   have hJd := hJ _ _ _ hJs hd
   have hgd := hGd _ _ hg hd
   obtain ⟨fn, tmps, assign, body, hy, hR⟩ := hY _ ⟨k, hlt⟩ wr.drew hJd (by rw [hpl]; exact hlt)
   simp only [enc] at hy
   gi_wp2
   gi_region
   gi_wp2
   refine hR.mono ?_
   rintro e W3 (⟨rfl, hJ3, hk3⟩ | ⟨rfl, hJx3⟩)
   ·have hg3 := hk3 hgd
    obtain ⟨cap3, hc13, hcs3, hcn3⟩ := hG _ hg3
    gi_wp2
    go_roundw
    case rel => exact ⟨k + 1, pre ++ [⟨k, hlt⟩], by omega, by simp; omega, by rw [List.range_succ, List.map_append, hpre]; rfl, hJ3, hg3⟩
    case measure => simp [intOf]; omega
   ·gi_wp2
    refine bodyPost_ret (results_none rfl _ _ _) rfl ?_
    exact ⟨⟨_, rfl⟩, .inr ⟨_, trivial, hJx3⟩⟩
  ·obtain rfl : k = N := by omega
   gi_wp2
   go_end0
   exact ⟨⟨_, rfl⟩, .inl ⟨_, hpre, hJs⟩⟩
set_option maxRecDepth 100000 in
set_option maxHeartbeats 4000000 in
theorem chunk_nil (n : Nat) (hn : 1 ≤ n) (l bs xs bn xn : Nat) (J Jx : List (Fin 0) → World → Prop)
  (W : World) (g0 : ∃ a cap, W.cell? ⟨bs, xs, none⟩ = some (.slice a 0 cap)) (h0 : J [] W) :
  CallsIn Fence.wide n Try.prog 93 #[.func (.yield l) #[] #[], .pointer (some ⟨bs, xs, none⟩), .pointer (some ⟨bn, xn, none⟩)] W fun e W' => (∃ v, e = .returned v) ∧
   ((∃ ys : List (Fin 0), ys.map Fin.val = List.range 0 ∧ J ys W') ∨ (∃ pre, True ∧ Jx pre W')) := by
 obtain ⟨a, cap, hcs⟩ := g0
 refine callsIn_of_wp Try.func93 rfl trivial ?_ rfl
 simp only [Try.ntmps93, List.size_toArray, List.length_cons, List.length_nil, Nat.reduceAdd, Nat.reduceSub, Array.replicate_succ, Array.replicate_zero, List.push_toArray, List.append_toArray, List.nil_append, List.cons_append]
 gi_wp2
 gi_loopw [4] (fun i wr => i = .int .i64 0 ∧ wr = W) (fun _ _ => 0)
 case atStart => exact ⟨rfl, rfl⟩
 case round =>
  obtain ⟨rfl, rfl⟩ := hrel
  gi_wp2
  go_end0
  exact ⟨⟨_, rfl⟩, .inl ⟨[], rfl, h0⟩⟩
end IC
end Go.Proofs.Ytgdojnamjkhknaa
