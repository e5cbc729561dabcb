/-
  Copy, make; calls; all operations together; regions in the order of the text.
-/
import Derived.Test.YtjnppjipoibbeaaAm11
namespace Go.Am
set_option linter.all false

variable {P : Program} {ι : Map} {h : Heap} {w w' : World} {t : Fr} {a : Act}

theorem first_sim {n m nb cb : Nat} {p : Addr} {l : List Value} {s' : Value} (H : HR ι h w) (hs : VR ι (.slice (some p) nb cb) s') (hl : readN h p (m * n) = some l) (hm : m ≤ nb) :
    ∃ p' cb' l', s' = .slice (some p') nb cb' ∧ F2 (VC ι) l l' ∧ l'.length = m * n ∧ (Builtin.firstCells n m s').run P w = .ok l'.toArray w := by
  obtain ⟨B, o, s0⟩ := p
  obtain ⟨rfl, lb, hlb, hv⟩ := hs.sl_inv
  rcases hv with ⟨cb', rfl, -⟩ | ⟨rfl, rfl, b', o', rfl⟩
  · obtain ⟨l', f1, f2, f3⟩ := H.cells hl hlb
    exact ⟨_, cb', l', rfl, f1, f2, run_firstCells_some (P := P) w n m _ nb cb' l' f2 (fun j v hv => by rw [add_plain]; exact f3 j v hv)⟩
  · have h0 : m = 0 := by omega
    subst h0
    obtain ⟨_, b0, _, hle, rfl⟩ := readN_some hl
    exact ⟨_, 0, [], rfl, by simp; exact .nil, by simp, by simp [Builtin.firstCells, loadCells, loadCellsFrom]⟩

theorem copy_sim {T E ty : TypeId} {n : Nat} {d s d' s' v : Value} {h' : Heap} (H : HR ι h w) (hu : P.underlying T = some (.slice E)) (hn : szT P E = some n)
    (hd : VR ι d d') (hs : VR ι s s') (e : copyA n h d s = some (v, h')) :
    ∃ w', (Builtin.copy_ #[T, T] ty #[d', s']).run P w = .ok v w' ∧ VR ι v v ∧ HR ι h' w' ∧ Ext ι h w ι h' w' := by
  unfold copyA at e
  split at e
  · rename_i pa na ca pb nb cb
    split at e
    · rename_i l hl
      split at e
      · rename_i h1 hw
        cases e
        have hm : Nat.min nb na ≤ nb := Nat.min_le_left _ _
        obtain ⟨p', cb', l', rfl, f1, f2, f3⟩ := first_sim (P := P) H hs hl hm
        obtain ⟨B, o, s0⟩ := pa
        obtain ⟨rfl, la, hla, hva⟩ := hd.sl_inv
        obtain ⟨w1, g0, g1, g2⟩ := store_sim (P := P) H hw hla f1
        rcases hva with ⟨ca', rfl, -⟩ | ⟨rfl, rfl, ba, oa, rfl⟩
        · refine ⟨w1, ?_, .int ι _ _, g1, g2⟩
          simp only [Builtin.copy_, List.getElem?_toArray, List.getElem?_cons_zero, List.getElem?_cons_succ, Sem.run_bind, run_underlying hu, Result.andThen_ok, Builtin.lenOf, Sem.run_pure, run_sz hn, f3, g0, goInt]
        · have h0 : Nat.min nb 0 = 0 := Nat.min_zero nb
          rw [h0] at f2 f3
          have hl0 : l' = [] := List.length_eq_zero_iff.1 (by rw [f2]; simp)
          subst hl0
          have hw1 : w1 = w := by
            simp [storeCells] at g0
            exact g0.symm
          subst hw1
          refine ⟨w1, ?_, .int ι _ _, g1, g2⟩
          simp only [Builtin.copy_, List.getElem?_toArray, List.getElem?_cons_zero, List.getElem?_cons_succ, Sem.run_bind, run_underlying hu, Result.andThen_ok, Builtin.lenOf, Sem.run_pure, run_sz hn, h0, f3, goInt, storeCells]
      · cases e
    · cases e
  · rename_i pa na ca m cb
    split at e
    · rename_i hm
      cases e
      subst hm
      cases hs.nilSl_inv
      obtain ⟨B, o, s0⟩ := pa
      obtain ⟨rfl, la, hla, hva⟩ := hd.sl_inv
      have key : ∀ (p : Addr) (na c : Nat), (Builtin.copy_ #[T, T] ty #[.slice (some p) na c, .slice none 0 cb]).run P w = .ok (.int .i64 0) w := by
        intro p na c
        have h0 : Nat.min 0 na = 0 := Nat.zero_min na
        simp [Builtin.copy_, run_underlying hu, Builtin.lenOf, run_sz hn, h0, Builtin.firstCells, storeCells, goInt]
      rcases hva with ⟨ca', rfl, -⟩ | ⟨rfl, rfl, ba, oa, rfl⟩
      · exact ⟨w, key _ _ _, .int ι _ _, H, Ext.refl ι _ w⟩
      · exact ⟨w, key _ _ _, .int ι _ _, H, Ext.refl ι _ w⟩
    · cases e
  · cases e

theorem mkslice_sim {T E : TypeId} {i : TypeInfo} {z : Array Value} {l c : Int} (H : HR ι h w) (hu : P.underlying T = some (.slice E)) (hi : P.info? E = some i) (hz : zeroT P E = some z) (hzs : z.size = i.size) (h0 : 0 < i.size)
    (hl : 0 ≤ l) (hlc : l ≤ c) (hcb : c * i.bytes ≤ 1099511627776) (hc : c ≤ 1099511627776) :
    ∃ w' ι' v', (Instr.makeSlice T (.int .i64 l) (.int .i64 c)).run P w = .ok v' w' ∧ VR ι' (.slice (some ⟨h.length, 0, none⟩) l.toNat c.toNat) v' ∧
      HR ι' (h ++ [some ⟨.fix, (List.replicate c.toNat z.toList).flatten⟩]) w' ∧ Ext ι h w ι' (h ++ [some ⟨.fix, (List.replicate c.toNat z.toList).flatten⟩]) w' := by
  obtain ⟨zv, z1, z2, z3⟩ := zeroT_info hz hi
  have hok : (List.replicate c.toNat z.toList).flatten.all okCell = true := by
    rw [List.all_eq_true]
    intro v hv
    obtain ⟨q, hq, hvq⟩ := List.mem_flatten.1 hv
    have := (List.mem_replicate.1 hq).2
    subst this
    exact List.all_eq_true.1 z3 v hvq
  obtain ⟨g1, g2⟩ := alloc_sim H E (okCells (ι := ι) hok)
  refine ⟨_, _, _, ?_, vr_newSl l.toNat c.toNat c.toNat rfl (.inl rfl), g1, g2⟩
  have w1 : IntKind.i64.wrap l = l := by simp [IntKind.wrap, IntKind.bits, IntKind.signed]; omega
  have w2 : IntKind.i64.wrap c = c := by simp [IntKind.wrap, IntKind.bits, IntKind.signed]; omega
  have hmul : (i.bytes : Int) * c = c * i.bytes := Int.mul_comm _ _
  have t1 : (decide (c < 0) || decide ((i.bytes : Int) * c > 2 ^ 48)) = false := by simp; omega
  have t2 : (decide (l < 0)) = false := by simp; omega
  have t3 : (decide (l > c)) = false := by simp; omega
  have hroom : ∀ n, (askRoom n).run P w = .ok () w := by intro n; unfold askRoom; split <;> simp
  have hrow : ∀ n : Nat, ((Array.range (n * i.size)).map (fun j => zv.cells[j % zv.cells.size]!)) = ⟨(List.replicate n z.toList).flatten⟩ := by
    intro n
    apply Array.ext'
    rw [z2, ← rowOf_flat z (by omega) n, hzs]
    unfold rowOf
    rw [hzs]
  simp only [Instr.makeSlice, Sem.run_bind, run_underlying hu, Result.andThen_ok, asInt, asIntOf, Sem.run_pure, run_ti hi, w1, w2, t1, t2, t3, Bool.or_false, Bool.false_eq_true, if_false, hroom, run_sz (show szT P E = some i.size by simp [szT, hi]),
    GT.gt]
  have hzr : (zeroValue E).run P w = .ok zv w := by simp [zeroValue, run_ti hi, z1]
  split
  · rename_i h1
    have h2 : (List.replicate c.toNat z.toList).flatten = [] := by
      rw [← rowOf_flat z (by omega), hzs, h1]; simp [rowOf]
    simp only [Sem.run_bind, Sem.run_pure, Result.andThen_ok, h1, h2]
    have h3 : ∀ f : Nat → Value, (Array.range 0).map f = #[] := fun f => by simp
    simp only [h3, newRow_run, Result.andThen_ok]
  · simp only [Sem.run_bind, Sem.run_pure, Result.andThen_ok, hzr, hrow, newRow_run]

/-! ### Calls -/
def callable (P : Program) (f : FuncId) : Bool :=
  match P.funcs[f]? with
  | some fn => !(fn.name == "runtime.NumGoroutine") && fn.body.isSome
  | none => false

theorem callFunc_run {f : FuncId} (hc : callable P f = true) (args : Array Value) : (callFunc f args).run P w = .ok (.enter f args) w := by
  unfold callable at hc
  split at hc
  · rename_i fn hfn
    simp only [Bool.and_eq_true, Bool.not_eq_true'] at hc
    have hb : fn.body.isNone = false := by cases h : fn.body <;> simp_all
    unfold callFunc
    simp only [Sem.run_bind, run_program, Result.andThen_ok, hfn, hc.1, hb, Bool.false_eq_true, if_false, Sem.run_pure]
  · cases hc

/-- What a call does, said of heaps. -/
def Sim (P : Program) (f : FuncId) (args : List Value) (h : Heap) (R : Value → Heap → Prop) : Prop :=
  callable P f = true ∧ ∀ (ι : Map) (w : World) (args' : List Value), F2 (VR ι) args args' → HR ι h w →
    Calls P f ⟨args'⟩ w fun e w' => ∃ v v' h' ι', R v h' ∧ e = .returned v' ∧ VR ι' v v' ∧ HR ι' h' w' ∧ Ext ι h w ι' h' w'

/-- A summary of a function. -/
def Summ (P : Program) (f : FuncId) (S : List Value → Heap → Option (Value × Heap)) : Prop :=
  ∀ args h v h', S args h = some (v, h') → Sim P f args h fun v1 h1 => v1 = v ∧ h1 = h'

def EnvOk (P : Program) (Γ : Env) : Prop := ∀ f, Summ P f (Γ f)

/-- What an operation does. -/
inductive OpOk (P : Program) (ι : Map) (h : Heap) (w : World) (a : Act) (o : Oper) (v : Value) (h' : Heap) : Prop
  | eff : EffOk P ι h w a o v h' → OpOk P ι h w a o v h'
  | call (f : FuncId) (args' : List Value) : (execOp a.eval o).run P w = .ok (.enter f ⟨args'⟩) w →
      (Calls P f ⟨args'⟩ w fun e w' => ∃ v' ι', e = .returned v' ∧ VR ι' v v' ∧ HR ι' h' w' ∧ Ext ι h w ι' h' w') → OpOk P ι h w a o v h'

theorem opdOK_list {l : List Operand} (h : l.all opdOK = true) : ∀ x ∈ l, opdOK x = true := fun x hx => List.all_eq_true.1 h x hx

def effK : IK → Bool
  | .box _ | .alloc _ | .mkrow _ _ _ | .store _ _ _ | .mkslice _ _ _ _ _ | .call _ _ | .callv _ _ | .append _ _ _ _ | .copy _ _ _ => true
  | _ => false
def effOp : Op → Bool
  | .alloc _ | .box _ _ | .buildSlice _ _ _ | .store _ _ _ | .makeSlice _ _ _ | .call _ => true
  | _ => false
theorem opA_pure {Γ : Env} {k : IK} (hk : effK k = false) : opA Γ k t h = (match pureA k t h with | some v => some (v, h) | none => none) := by
  cases k <;> first | rfl | cases hk
theorem stK_pure (op : Op) (hk : effOp op = false) : effK (stK P op) = false := by
  cases op <;> first | (cases hk; done) | skip
  all_goals simp only [stK]
  all_goals first | rfl | skip
  all_goals ((repeat' split) <;> rfl)

theorem op_sim {Γ : Env} (hΓ : EnvOk P Γ) {o : Oper} {v : Value} {h' : Heap} (H : HR ι h w) (hF : F2 (VR ι) t a.tmps.toList) (e : opA Γ (stK P o.op) t h = some (v, h')) : OpOk P ι h w a o v h' := by
  have pure : effK (stK P o.op) = false → OpOk P ι h w a o v h' := by
    intro hk
    rw [opA_pure hk] at e
    split at e
    · rename_i u hu
      cases e
      obtain ⟨v', h1, h2⟩ := pure_sim (P := P) (o := o) H hF hu
      exact .eff (eff_value h1 h2 H (Ext.refl ι h w))
    · cases e
  have one : ∀ {f : FuncId} {args args' : List Value}, F2 (VR ι) args args' → Γ f args h = some (v, h') → (callable P f = true → (execOp a.eval o).run P w = .ok (.enter f ⟨args'⟩) w) → OpOk P ι h w a o v h' := by
    intro f args args' hA hG hr
    obtain ⟨hc, hs⟩ := hΓ f args h v h' hG
    exact .call f args' (hr hc) ((hs ι w args' hA H).mono fun e w' ⟨v1, v', h1, ι', ⟨q1, q2⟩, r1, r2, r3, r4⟩ => by subst q1; subst q2; exact ⟨v', ι', r1, r2, r3, r4⟩)
  by_cases hop : effOp o.op = false
  · exact pure (stK_pure o.op hop)
  obtain ⟨dst, op, type, pos, after, guard⟩ := o
  dsimp only at pure one hop e
  cases op <;> first | (exact absurd rfl hop) | skip
  case alloc T =>
    simp only [stK] at e
    split at e
    · rename_i z hz; cases e; exact .eff (allocT_sim H hz)
    · cases e
  case box T x =>
    simp only [stK] at e
    split at e
    · rename_i hx
      simp only [opA] at e
      split at e
      · rename_i hn; cases e; exact .eff (box_sim H (ev_sim hF hx) hn)
      · cases e
    · cases e
  case buildSlice T len ps =>
    simp only [stK] at e
    split at e
    · rename_i E hu
      split at e
      · rename_i n z hs hz
        split at e
        · rename_i hc
          split at e
          · rename_i l hl
            simp only [opA] at e
            split at e
            · rename_i r hr
              cases e
              exact .eff (mkrow_sim H hF hu hs hz hc.1 hc.2.1 hc.2.2 hl hr)
            · cases e
          · cases e
        · cases e
      · cases e
    · cases e
  case store T x y =>
    simp only [stK] at e
    split at e
    · rename_i n hn
      split at e
      · rename_i hx
        simp only [Bool.and_eq_true] at hx
        have hv := ev_sim hF hx.1
        have hy := ev_sim hF hx.2
        simp only [opA] at e
        split at e
        · rename_i p hp
          split at e
          · rename_i hc
            split at e
            · rename_i h1 hw
              cases e
              obtain ⟨B, o, s⟩ := p
              rw [hp] at hv
              obtain ⟨rfl, l, hl, hv'⟩ := hv.ptr_inv
              have hcs := (hy.va_of hc.1).cells
              obtain ⟨w1, g0, g1, g2⟩ := store_sim (P := P) H hw hl hcs
              refine .eff ⟨w1, ι, .inr ⟨?_, rfl⟩, g1, g2⟩
              have hsz : (a.eval y).cells.size = n := by rw [← Array.length_toList, ← hcs.length, hc.2]
              simp only [execOp, hv', Instr.storeAt, Instr.sureAddr, storeVar, Sem.run_bind, Sem.run_pure, Result.andThen_ok, run_sz hn, hsz, ne_eq, not_true_eq_false, if_false, g0]
            · cases e
          · cases e
        · cases e
      · cases e
    · cases e
  case makeSlice T x y =>
    simp only [stK] at e
    split at e
    · rename_i E hu
      split at e
      · rename_i i z hi hz
        split at e
        · rename_i hx
          simp only [Bool.and_eq_true, decide_eq_true_eq] at hx
          have hv := ev_sim hF hx.1.1.1
          have hy := ev_sim hF hx.1.1.2
          simp only [opA] at e
          split at e
          · rename_i l c hl hc
            split at e
            · rename_i hb
              cases e
              rw [hl] at hv
              rw [hc] at hy
              obtain ⟨w1, ι1, v1, r0, r1, r2, r3⟩ := mkslice_sim (P := P) H hu hi hz hx.1.2 hx.2 hb.1 hb.2.1 hb.2.2.1 hb.2.2.2.1
              exact .eff (eff_value (by simp only [execOp, hv.int_inv, hy.int_inv, Sem.run_bind, r0, Result.andThen_ok, Sem.run_pure]) r1 r2 r3)
            · cases e
          · cases e
        · cases e
      · cases e
    · cases e
  case call c =>
    simp only [stK] at e
    split at e
    · rename_i hargs
      have hl : c.args.map a.eval = ⟨c.args.toList.map a.eval⟩ := by apply Array.ext'; simp
      have hA := evs_sim hF hargs
      split at e
      · rename_i f hc
        refine one hA e fun hcall => ?_
        simp only [execOp, resolve, hc, hl, Act.eval, Deferred.ofValue, Sem.run_bind, Sem.run_pure, Result.andThen_ok, invoke]
        have : (#[] ++ (⟨c.args.toList.map a.eval⟩ : Array Value) ++ #[]) = ⟨c.args.toList.map a.eval⟩ := by simp
        rw [this, callFunc_run hcall]
      · rename_i x hc
        simp only [opA] at e
        split at e
        · rename_i f p q hx
          have hv : VR ι (ev t (.tmp x)) (a.eval (.tmp x)) := ev_sim hF rfl
          rw [hx] at hv
          obtain ⟨pl⟩ := p
          obtain ⟨ql⟩ := q
          have hfn : ∃ p' q', a.eval (.tmp x) = .func (.func f) ⟨p'⟩ ⟨q'⟩ ∧ F2 (VR ι) pl p' ∧ F2 (VR ι) ql q' := by
            generalize a.eval (.tmp x) = u at hv
            cases hv with
            | va hv => cases hv with
              | vc hv => cases hv with
                | v0 hv => cases hv
                | fn _ h1 h2 => exact ⟨_, _, rfl, h1.mono fun _ _ h => .v0 h, h2.mono fun _ _ h => .v0 h⟩
          obtain ⟨p', q', he, f1, f2⟩ := hfn
          refine one (f1.append (hA.append f2)) e fun hcall => ?_
          simp only [execOp, resolve, hc, hl, he, Deferred.ofValue, Sem.run_bind, Sem.run_pure, Result.andThen_ok, invoke]
          have : ((⟨p'⟩ : Array Value) ++ ⟨c.args.toList.map a.eval⟩ ++ ⟨q'⟩) = ⟨p' ++ (c.args.toList.map a.eval ++ q')⟩ := by apply Array.ext'; simp
          rw [this, callFunc_run hcall]
        · cases e
      · rename_i b hc
        split at e
        · refine pure ?_
          rename_i x T h1 h2
          simp only [stK, hargs, if_true, hc, h1, h2]
          (repeat' split) <;> rfl
        · rename_i s x T U h1 h2
          split at e
          · rename_i hTU
            subst hTU
            split at e
            · rename_i E hu
              split at e
              · rename_i i z hi hz
                split at e
                · rename_i hzs
                  simp only [opA] at e
                  rw [h1] at hargs hl
                  simp only [List.all_cons, List.all_nil, Bool.and_true, Bool.and_eq_true] at hargs
                  obtain ⟨w1, ι1, v1, r0, r1, r2, r3⟩ := append_sim (P := P) (ty := type) H hu hi hz hzs (ev_sim hF hargs.1) (ev_sim hF hargs.2) e
                  have ht : c.argTypes = #[T, T] := by apply Array.ext'; simpa using h2
                  have hxa : c.args.map a.eval = #[a.eval s, a.eval x] := hl
                  refine .eff (eff_value ?_ r1 r2 r3)
                  simp only [execOp, resolve, hc, hxa, Sem.run_bind, Sem.run_pure, Result.andThen_ok, invoke, builtin, ht, r0]
                · cases e
              · cases e
            · cases e
          · cases e
        · rename_i d s T U h1 h2
          split at e
          · rename_i hTU
            subst hTU
            split at e
            · rename_i E hu
              split at e
              · rename_i n hn
                simp only [opA] at e
                rw [h1] at hargs hl
                simp only [List.all_cons, List.all_nil, Bool.and_true, Bool.and_eq_true] at hargs
                obtain ⟨w1, r0, r1, r2, r3⟩ := copy_sim (P := P) (ty := type) H hu hn (ev_sim hF hargs.1) (ev_sim hF hargs.2) e
                have ht : c.argTypes = #[T, T] := by apply Array.ext'; simpa using h2
                have hxa : c.args.map a.eval = #[a.eval d, a.eval s] := hl
                refine .eff (eff_value ?_ r1 r2 r3)
                simp only [execOp, resolve, hc, hxa, Sem.run_bind, Sem.run_pure, Result.andThen_ok, invoke, builtin, ht, r0]
              · cases e
            · cases e
          · cases e
        · refine pure ?_
          rename_i x y h1
          simp only [stK, hc, h1]
          split <;> rfl
        · refine pure ?_
          rename_i x y h1
          simp only [stK, hc, h1]
          split <;> rfl
        · cases e
      · cases e
    · cases e

end Go.Am
