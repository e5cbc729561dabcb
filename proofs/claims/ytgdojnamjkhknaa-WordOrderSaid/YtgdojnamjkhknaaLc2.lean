/-
  Loops in their blocks, over values that name their blocks.
-/
import Derived.Test.YtgdojnamjkhknaaLc1
namespace Go.Am
set_option linter.all false

/-- What is to be shown of a turn's end. -/
def loopK (id : Nat) (lv : Lv) (I : Nat → Fr → Heap → Prop) (n : Nat) (K : Post2) : Post2 := fun e s h => match e with
  | .normal => ∃ m, m < n ∧ I m s h
  | .exit i => if i = id then ∃ s', Ag (fun i => lv i = false) s s' ∧ K .normal s' h else ∃ s', Ag (fun i => lv i = false) s s' ∧ K (.exit i) s' h
  | .ret => ∃ s', Ag (fun i => lv i = false) s s' ∧ K .ret s' h
theorem Wp.bl {Γ : Env} {lv : Lv} {id : Nat} {x : IL} {K : Post2} (I : Nat → Fr → Heap → Prop) (step : ∀ n t h, I n t h → Wp Γ (fun i => exL i x || lv i) x t h (loopK id lv I n K)) : ∀ n t h, I n t h → Wp Γ lv (.block id (.loop x)) t h K := by
  intro n t h hI
  refine Wp.block ((Wp.loop (K := fun e s h => ∃ s', Ag (fun i => lv i = false) s s' ∧ endK id K e s' h) I (fun n t h hI => (step n t h hI).mono fun e s h' q => ?_) n t h hI).ends fun e s h' q => q)
  cases e with
  | normal => exact q
  | ret => exact q
  | exit i =>
    simp only [loopK] at q
    simp only [thenK, endK]
    split at q
    · rename_i hi; simp only [hi, if_true]; exact q
    · rename_i hi; simp only [hi, if_false]; exact q
theorem agS (lv : Lv) (J : SH) (t : SFr) : Ag (fun i => lv i = false) (denF J t) (denF J (normS lv 0 t)) := by
  rw [normS_den]; exact norm_ag lv _
/-- A part of the heap in two. -/
theorem split_at {J0 J : Heap} (h : J0.length ≤ J.length) : ∃ J2 X : Heap, J2.length = J0.length ∧ J = J2 ++ X := ⟨J.take J0.length, J.drop J0.length, by simp [h], (List.take_append_drop _ _).symm⟩
theorem bl_exit {id : Nat} {lv : Lv} {I : Nat → Fr → Heap → Prop} {n : Nat} {K : Post2} {J : SH} {t : SFr} (k : K .normal (denF J (normS lv 0 t)) (denH J)) : loopK id lv I n K (.exit id) (denF J t) (denH J) := by
  simp only [loopK, if_true]
  exact ⟨_, agS lv J t, k⟩
theorem bl_ret {id : Nat} {lv : Lv} {I : Nat → Fr → Heap → Prop} {n : Nat} {K : Post2} {J : SH} {t : SFr} (k : K .ret (denF J (normS lv 0 t)) (denH J)) : loopK id lv I n K .ret (denF J t) (denH J) := ⟨_, agS lv J t, k⟩
theorem end_exit {id : Nat} {lv : Lv} {I : Nat → Fr → Heap → Prop} {n : Nat} {K : Post2} {J : SH} {t : SFr} (k : K .normal (denF J (normS lv 0 t)) (denH J)) : (STr.ret (.exit id) t J).holds (onS (loopK id lv I n K)) := bl_exit (I := I) (n := n) k
theorem end_ret {id : Nat} {lv : Lv} {I : Nat → Fr → Heap → Prop} {n : Nat} {K : Post2} {J : SH} {t : SFr} (k : K .ret (denF J (normS lv 0 t)) (denH J)) : (STr.ret .ret t J).holds (onS (loopK id lv I n K)) := bl_ret (id := id) (I := I) (n := n) k
theorem end_next {id : Nat} {lv : Lv} {I : Nat → Fr → Heap → Prop} {n : Nat} {K : Post2} {J : SH} {t : SFr} (m : Nat) (h : m < n) (k : I m (denF J t) (denH J)) : (STr.ret .normal t J).holds (onS (loopK id lv I n K)) := ⟨m, h, k⟩
theorem Wp.tree {T : Plain} {Γ : Env} {C : CallS} {fuel : Nat} {lv : Lv} {x : IL} {hn : Hs} {t : SFr} {I : SH} {tr : STr} {K : Post2} (hC : CallOk (T.env Γ) C) (e : Am.pieceS T Γ C fuel lv x hn t I = tr) (G : Good t I) (h : tr.holds (onS K)) : Wp (T.env Γ) lv x (denF I t) (denH I) K :=
  Wp.pieceS hC fuel hn G (by rw [e]; exact h)
theorem fnS_tree {P : Program} {qt : List Nat} (hm : P.follows .mixedOrders = true) {T : Plain} {Γ : Env} (hΓ : EnvOk P (T.env Γ)) (hq : QuietEnv qt (T.env Γ)) {C : CallS} (hC : CallOk (T.env Γ) C) {f : Nat} {F : FnIL} (hf : stF P qt f = some F) {fuel : Nat} {hn : Hs} {args : SFr} {I : SH} {tr : STr}
    {Q : Value → Heap → Prop} (e : fnS T Γ C fuel F hn args I = tr) (G : Good args I) (h : tr.holds (valS Q)) : Sim P f (denF I args) (denH I) Q :=
  fnS_sim hm hΓ hq hC hf fuel hn G (by rw [e]; exact h)
end Go.Am
