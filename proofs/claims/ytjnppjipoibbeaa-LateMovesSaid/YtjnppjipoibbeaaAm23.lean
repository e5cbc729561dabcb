/-
  Functions of plain values: shown at an empty heap, used at every one; an environment of such.
-/
import Derived.Test.YtjnppjipoibbeaaAm22
namespace Go.Am
set_option linter.all false

variable {P : Program} {ι : Map} {h : Heap} {w w' : World}

theorem cut0_sub {ι ι' : Map} : Sub (cutM ι 0) ι' := fun B l e => by unfold cutM at e; rw [if_neg (by omega)] at e; cases e

theorem HR.kept {ι : Map} (H : HR ι h w) (hold : ∀ b, b < w.heap.size → w'.heap[b]? = w.heap[b]?) : HR ι h w' where
  dom := H.dom
  live := fun B blk e => by
    obtain ⟨l, e1, f1, f2, f3, f4, c, e2, f, f5, f6, f7, f8⟩ := H.live B blk e
    exact ⟨l, e1, f1, f2, f3, f4, c, e2, f, (hold _ (H.lt e e1)).trans f5, f6, f7, f8⟩
  apart := H.apart

theorem Sim.frame0 {f : FuncId} {args : List Value} {R : Value → Prop} (s : Sim P f args [] fun v _ => R v) (ha : args.all (belowV 0) = true) (hR : ∀ v, R v → belowV 0 v = true) (h : Heap) :
    Sim P f args h fun v h' => R v ∧ h' = h := by
  refine ⟨s.1, fun ι w args' hA H => ?_⟩
  have H0 := H.cut 0 (Nat.zero_le _) (by simp)
  have hA0 : F2 (VR (cutM ι 0)) args args' := hA.cut (fun _ _ h q => h.cut q) ha
  refine (s.2 _ w args' hA0 (by simpa using H0)).mono fun e w' ⟨v, v', h', ι', r1, r2, r3, _, r5⟩ => ?_
  have hold : ∀ b, b < w.heap.size → w'.heap[b]? = w.heap[b]? := fun b hb => r5.frame b hb fun B blk l hB => by simp at hB
  refine ⟨v, v', h, ι, ⟨r1, rfl⟩, r2, (r3.cut (hR v r1)).mono cut0_sub, H.kept hold, ?_⟩
  exact ⟨Sub.refl ι, r5.size, fun b hb _ => hold b hb, fun B blk l h1 h2 h3 => .inr ⟨B, blk, l, h1, h2, h3, rfl⟩, r5.os, r5.tape, r5.output, fun B blk l h1 h3 => .inr ⟨B, blk, l, h1, h3, rfl⟩⟩

/-- What a table of plain functions must keep. -/
def PlainOk (P : Program) (T : Plain) : Prop := ∀ f args v, T.find f args = some (true, v) → args.all (belowV 0) = true ∧ belowV 0 v = true ∧ Sim P f args [] fun v1 _ => v1 = v
theorem Plain.quiet {T : Plain} {Γ : Env} {qt : List Nat} (hq : QuietEnv qt Γ) : QuietEnv qt (T.env Γ) := fun f args h v h' hf e => by
  unfold Plain.env at e
  split at e
  · split at e
    · cases e; rfl
    · cases e
  · exact hq f args h v h' hf e
theorem Plain.ok {T : Plain} {Γ : Env} (hT : PlainOk P T) (hΓ : EnvOk P Γ) : EnvOk P (T.env Γ) := fun f args h v h' e => by
  unfold Plain.env at e
  split at e
  · rename_i b u hu
    split at e
    · rename_i hb
      subst hb
      cases e
      obtain ⟨h1, h2, h3⟩ := hT f args v hu
      exact h3.frame0 h1 (fun v1 hv => by subst hv; exact h2) h
    · cases e
  · exact hΓ f args h v h' e
def noEnv : Env := fun _ _ _ => none
theorem noEnv_ok : EnvOk P noEnv := fun f args h v h' e => by cases e
theorem noEnv_quiet {qt : List Nat} : QuietEnv qt noEnv := fun f args h v h' _ e => by cases e
theorem PlainOk.nil : PlainOk P [] := fun f args v e => by cases e
theorem PlainOk.cons {g : Nat} {S : List Value → Option (Bool × Value)} {T : Plain} (h : ∀ args v, S args = some (true, v) → args.all (belowV 0) = true ∧ belowV 0 v = true ∧ Sim P g args [] fun v1 _ => v1 = v) (k : PlainOk P T) :
    PlainOk P ((g, S) :: T) := fun f args v e => by
  unfold Plain.find at e
  split at e
  · rename_i q; subst q; exact h args v e
  · exact k f args v e

end Go.Am
