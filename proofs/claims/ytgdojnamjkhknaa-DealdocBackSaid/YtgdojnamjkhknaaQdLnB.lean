/-
  A logic over the kit's wp, part LnB: Ln2. No conditions.
-/
import Derived.Test.YtgdojnamjkhknaaQdLnA
namespace Go.Am
set_option linter.all false
variable {P : Program}
def fnG (Γ0 : Env) (T : Tab) (fuel : Nat) : Nat → Env
 | 0 => Γ0
 | n + 1 => fun f args h => match T.find f with
  | some F => match execF (fnG Γ0 T fuel n) fuel F.body (args ++ List.replicate (F.ntmps - args.length) undef) h with
   | some (e, t', h') => match e with
    | .exit _ => none
    | _ => match resA t' h' F.res with
     | some v => if letGo h v h' then some (v, h'.take h.length) else some (v, h')
     | none => none
   | none => none
  | none => Γ0 f args h
theorem fnG_ok (hm : P.follows .mixedOrders = true) {T : Tab} (hT : TabOk P [] T) {Γ0 : Env} (h0 : EnvOk P Γ0) (fuel : Nat) : ∀ n, EnvOk P (fnG Γ0 T fuel n)
 | 0 => h0
 | n + 1 => fun f args h v h' e => by
  simp only [fnG] at e
  split at e
  ·rename_i F hF
   split at e
   ·rename_i ex t1 h1 hx
    have key : ∀ (hne : ex = .normal ∨ ex = .ret), (match resA t1 h1 F.res with
     | some v => if letGo h v h1 then some (v, h1.take h.length) else some (v, h1)
     | none => none) = some (v, h') → Sim P f args h fun v1 h2 => v1 = v ∧ h2 = h' := by
     intro hne e
     split at e
     ·rename_i v0 hv
      have base : Sim P f args h fun v1 h2 => v1 = v0 ∧ h2 = h1 := fn_sim (hT f F hF) (execF_sim hm (fnG_ok hm hT h0 fuel n) (fun f args h v h' hf e => by cases hf) fuel F.body _ h ex t1 h1 _ hx ⟨by rcases hne with rfl | rfl <;> simp [Ex.ex], v0, hv, rfl, rfl⟩)
      split at e
      ·rename_i hc
       cases e
       unfold letGo at hc
       simp only [Bool.and_eq_true, decide_eq_true_eq] at hc
       exact base.cut fun v1 h2 ⟨q1, q2⟩ => by subst q1; subst q2; exact ⟨hc.1.1, hc.1.2, hc.2, rfl, rfl⟩
      ·cases e; exact base
     ·cases e
    cases ex with
    | exit i => cases e
    | normal => exact key (.inl rfl) e
    | ret => exact key (.inr rfl) e
   ·cases e
  ·exact h0 f args h v h' e
end Go.Am
