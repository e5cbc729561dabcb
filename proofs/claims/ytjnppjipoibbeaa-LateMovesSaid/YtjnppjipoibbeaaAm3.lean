/-
  Operations that leave the heap alone: what the language says is what the program does.
-/
import Derived.Test.YtjnppjipoibbeaaAm2
namespace Go.Am
set_option linter.all false

variable {P : Program} {ι : Map} {h : Heap} {w : World} {t : Fr} {a : Act}

/-- The operation yields a value, and leaves the world alone. -/
def PureOk (P : Program) (ι : Map) (w : World) (a : Act) (o : Oper) (v : Value) : Prop :=
  ∃ v', (execOp a.eval o).run P w = .ok (.value v') w ∧ VR ι v v'

theorem pure_of {o : Oper} {v v' : Value} (s : Sem Value) (hs : execOp a.eval o = (do pure (.value (← s)))) (hr : s.run P w = .ok v' w) (hv : VR ι v v') :
    PureOk P ι w a o v := ⟨v', by rw [hs]; simp [hr], hv⟩

theorem run_und {T : TypeId} {d : TypeDesc} (hu : P.underlying T = some d) : (underlying T).run P w = .ok d w := run_underlying hu w
theorem run_ti {T : TypeId} {i : TypeInfo} (hi : P.info? T = some i) : (typeInfo T).run P w = .ok i w := by simp [typeInfo, hi]
theorem run_sz {T : TypeId} {n : Nat} (hi : szT P T = some n) : (sizeOf T).run P w = .ok n w := by
  unfold szT at hi
  cases h : P.info? T with
  | none => simp [h] at hi
  | some i => simp [h] at hi; simp [sizeOf, run_ti h, hi]

theorem run_zero {T : TypeId} {z : Array Value} (hz : zeroT P T = some z) : ∃ v, (zeroValue T).run P w = .ok v w ∧ v.cells = z ∧ z.toList.all okCell = true := by
  unfold zeroT at hz
  split at hz
  · rename_i i hi
    split at hz
    · rename_i v hv
      split at hz
      · rename_i hc; cases hz; exact ⟨v, by simp [zeroValue, run_ti hi, hv], rfl, hc⟩
      · cases hz
    · cases hz
  · cases hz

/-! ### Loads, parts -/
theorem shT_some {T : TypeId} {n : Option Nat} (e : shT P T = some n) :
    (∃ m, n = some m ∧ szT P T = some m ∧ (isAgg T).run P w = .ok true w) ∨ (n = none ∧ (isAgg T).run P w = .ok false w) := by
  unfold shT at e
  split at e
  · rename_i fs i hu hi; cases e; exact .inl ⟨_, rfl, by simp [szT, hi], by simp [isAgg, run_und hu]⟩
  · rename_i x y i hu hi; cases e; exact .inl ⟨_, rfl, by simp [szT, hi], by simp [isAgg, run_und hu]⟩
  · rename_i d i h1 h2 hu hi
    cases e
    refine .inr ⟨rfl, ?_⟩
    unfold isAgg
    rw [Sem.run_bind, run_und hu]
    cases d <;> simp_all
  · cases e

theorem sim_load1 {T : TypeId} {B o : Nat} {s : Option Nat} {v p' : Value} (H : HR ι h w) (e : shT P T = some none) (hp : VR ι (.pointer (some ⟨B, o, s⟩)) p')
    (hv : read1 h ⟨B, o, s⟩ = some v) : ∃ v', (Instr.loadAt T p').run P w = .ok v' w ∧ VR ι v v' := by
  obtain ⟨rfl, l, hl, rfl⟩ := hp.ptr_inv
  simp only [read1] at hv
  split at hv
  · rename_i b hb
    obtain ⟨v', hc, hr⟩ := H.cell hb hl hv
    rcases shT_some (P := P) (w := w) e with ⟨m, hm, _⟩ | ⟨_, ha⟩
    · cases hm
    · refine ⟨v', ?_, .vc hr⟩
      simp [Instr.loadAt, Instr.sureAddr, loadVar, ha, hc]
  · cases hv

theorem sim_loadN {T : TypeId} {n : Nat} {a0 : Addr} {l : List Value} {p' : Value} (H : HR ι h w) (e : shT P T = some (some n)) (hp : VR ι (.pointer (some a0)) p')
    (hv : readN h a0 n = some l) : ∃ v', (Instr.loadAt T p').run P w = .ok v' w ∧ VR ι (.agg ⟨l⟩) v' := by
  obtain ⟨B, o, s⟩ := a0
  obtain ⟨rfl, lo, hl, rfl⟩ := hp.ptr_inv
  obtain ⟨vs', hF, hn, hc⟩ := H.cells hv hl
  rcases shT_some (P := P) (w := w) e with ⟨m, hm, hs, ha⟩ | ⟨hm, _⟩
  · cases hm
    refine ⟨.agg ⟨vs'⟩, ?_, .va (.agg hF)⟩
    have := run_cells (P := P) hc
    rw [hn] at this
    simp [Instr.loadAt, Instr.sureAddr, loadVar, ha, run_sz hs, this]
  · cases hm

theorem sim_part1 {T : TypeId} {off : Nat} {cs cs' : List Value} {v : Value} (e : shT P T = some none) (hF : F2 (VC ι) cs cs') (hv : cs[off]? = some v) :
    ∃ v', (part T ⟨cs'⟩ off).run P w = .ok v' w ∧ VR ι v v' := by
  obtain ⟨v', hv', hr⟩ := hF.get _ _ hv
  rcases shT_some (P := P) (w := w) e with ⟨m, hm, _⟩ | ⟨_, ha⟩
  · cases hm
  · exact ⟨v', by simp [part, ha, hv'], .vc hr⟩

theorem sim_partN {T : TypeId} {off n : Nat} {cs cs' : List Value} (e : shT P T = some (some n)) (hF : F2 (VC ι) cs cs') :
    ∃ v', (part T ⟨cs'⟩ off).run P w = .ok v' w ∧ VR ι (.agg ⟨(cs.drop off).take n⟩) v' := by
  rcases shT_some (P := P) (w := w) e with ⟨m, hm, hs, ha⟩ | ⟨hm, _⟩
  · cases hm
    refine ⟨.agg ⟨(cs'.drop off).take n⟩, ?_, .va (.agg ((hF.drop off).take n))⟩
    simp [part, ha, run_sz hs]
  · cases hm

/-! ### Composites -/
theorem foldl_setR (vs : List Value) (o : Nat) : ∀ (cs : Array Value) (k : Nat), o + k + vs.length ≤ cs.size →
    ((vs.zipIdx k).foldl (fun cs (c : Value × Nat) => cs.setIfInBounds (o + c.2) c.1) cs).toList = setR cs.toList (o + k) vs := by
  induction vs with
  | nil => intro cs k _; simp [setR]
  | cons v vs ih =>
    intro cs k hk
    simp only [List.length_cons] at hk
    simp only [List.zipIdx_cons, List.foldl_cons]
    have := ih (cs.setIfInBounds (o + k) v) (k + 1) (by simp; omega)
    rw [show o + (k + 1) = o + k + 1 by omega] at this
    rw [this]
    unfold setR
    simp only [Array.toList_setIfInBounds, List.length_cons]
    have hl : o + k < cs.toList.length := by simp; omega
    generalize cs.toList = l at hl
    generalize o + k = p at hl
    apply List.ext_getElem?
    intro i
    simp only [List.getElem?_append, List.getElem?_take, List.getElem?_drop, List.length_take, List.length_set, List.length_cons, List.getElem?_set, List.getElem?_cons]
    rcases Nat.lt_trichotomy i p with hi | hi | hi
    · have h1 : i < p + 1 := by omega
      have h2 : i < min (p + 1) l.length := by omega
      have h3 : i < min p l.length := by omega
      have h4 : ¬ p = i := by omega
      simp [h1, h2, h3, h4, hi]
    · subst hi
      have h2 : i < min (i + 1) l.length := by omega
      have h3 : ¬ i < min i l.length := by omega
      have h5 : i - min i l.length = 0 := by omega
      simp [h2, h3, h5, hl]
    · have h1 : ¬ i < min (p + 1) l.length := by omega
      have h3 : ¬ i < min p l.length := by omega
      have h5 : i - min p l.length = i - (p + 1) + 1 := by omega
      have h6 : i - min (p + 1) l.length = i - (p + 1) := by omega
      simp only [h1, h3, h5, h6, if_false, Nat.add_one_ne_zero, Nat.add_sub_cancel]
      by_cases hlt : i - (p + 1) < vs.length
      · have h7 : i - (p + 1) + 1 < vs.length + 1 := by omega
        rw [if_pos hlt, if_pos h7]
      · have h7 : ¬ i - (p + 1) + 1 < vs.length + 1 := by omega
        have h8 : ¬ p = p + 1 + vs.length + (i - (p + 1) - vs.length) := by omega
        rw [if_neg hlt, if_neg h7, if_neg h8]
        congr 1; omega

theorem fill_sim (place : Nat → Option (Nat × Nat)) : ∀ (ps : List (Nat × Value × Value)) (cells : List Value) (cells' : List Value) (l : List Value),
    F2 (VC ι) cells cells' → (∀ p ∈ ps, VR ι p.2.1 p.2.2) → fillA cells (ps.filterMap fun p => (place p.1).map fun q => (q.1, q.2, p.2.1)) = some l → (∀ p ∈ ps, (place p.1).isSome = true) →
    ∃ l', Instr.fill place ⟨cells'⟩ (ps.map fun p => (p.1, p.2.2)) = some ⟨l'⟩ ∧ F2 (VC ι) l l'
  | [], cells, cells', l, hF, _, e, _ => by simp [fillA] at e; subst e; exact ⟨cells', rfl, hF⟩
  | (i, v, v') :: r, cells, cells', l, hF, hr, e, hs => by
    obtain ⟨⟨o, n⟩, hp⟩ := Option.isSome_iff_exists.1 (hs (i, v, v') (by simp))
    simp only [List.filterMap_cons, hp, Option.map_some, fillA] at e
    split at e
    · rename_i hc
      obtain ⟨h1, h2, h3⟩ := hc
      have hva := (hr (i, v, v') (by simp)).va_of h1
      have hcs := hva.cells
      have hlen := hcs.length
      have hl := hF.length
      have hset : F2 (VC ι) (setR cells o v.cells.toList) (setR cells' o v'.cells.toList) := by
        unfold setR
        rw [hlen]
        exact (hF.take o).append (hcs.append (hF.drop _))
      obtain ⟨l', e1, e2⟩ := fill_sim place r _ _ l hset (fun p hp => hr p (by simp [hp])) e (fun p hp => hs p (by simp [hp]))
      refine ⟨l', ?_, e2⟩
      have hsz : v'.cells.size = n := by rw [← Array.length_toList, ← hlen, h2]
      simp only [List.map_cons, Instr.fill, hp, hsz]
      rw [if_neg (by simp; omega)]
      rw [← e1]
      congr 1
      apply Array.ext'
      have := foldl_setR v'.cells.toList o ⟨cells'⟩ 0 (by simp; omega)
      rw [← Array.foldl_toList]
      simpa using this
    · cases e

end Go.Am
