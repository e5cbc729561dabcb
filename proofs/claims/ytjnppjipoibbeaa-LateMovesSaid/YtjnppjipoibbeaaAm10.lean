/-
  Each operation that turns the heap.
-/
import Derived.Test.YtjnppjipoibbeaaAm9
namespace Go.Am
set_option linter.all false

variable {P : Program} {ι : Map} {h : Heap} {w w' : World} {t : Fr} {a : Act}

theorem eff_value {o : Oper} {v v' : Value} {h' : Heap} {w' : World} {ι' : Map} (hr : (execOp a.eval o).run P w = .ok (.value v') w') (hv : VR ι' v v') (H : HR ι' h' w') (E : Ext ι h w ι' h' w') : EffOk P ι h w a o v h' :=
  ⟨w', ι', .inl ⟨v', hr, hv⟩, H, E⟩

theorem newRow_run (T : TypeId) (c : Array Value) : (newRow T c).run P w = .ok ⟨w.heap.size, 0, none⟩ (w.alloc (.cells c T)) := by
  simp [newRow]

/-- A pointer, a slice to a new block. -/
theorem vr_newPtr {n : Nat} {l : Loc} (hb : l.base = 0) : VR (upd ι n l) (.pointer (some ⟨n, 0, none⟩)) (.pointer (some ⟨l.b, 0, none⟩)) := by
  have := VR.v0 (V0.ptr (ι := upd ι n l) (B := n) (o := 0) (upd_same n l))
  rw [hb] at this
  exact this

theorem box_sim {dst : Option Tmp} {T type : TypeId} {x : Operand} {pos : String} {after : Array Edge} {guard : Option (Nat × Bool)} (H : HR ι h w) (hv : VR ι (ev t x) (a.eval x)) (hn : noTup (ev t x) = true) :
    EffOk P ι h w a ⟨dst, .box T x, type, pos, after, guard⟩ (.pointer (some ⟨h.length, 0, none⟩)) (h ++ [some ⟨.fix, (ev t x).cells.toList⟩]) := by
  have hc := (hv.va_of hn).cells
  obtain ⟨g1, g2⟩ := alloc_sim H T hc
  refine eff_value (v' := .pointer (some ⟨w.heap.size, 0, none⟩)) ?_ (vr_newPtr rfl) g1 g2
  simp [execOp, Instr.box, newVar, newRow_run]

theorem allocT_sim {dst : Option Tmp} {T type : TypeId} {z : Array Value} {pos : String} {after : Array Edge} {guard : Option (Nat × Bool)} (H : HR ι h w) (hz : zeroT P T = some z) :
    EffOk P ι h w a ⟨dst, .alloc T, type, pos, after, guard⟩ (.pointer (some ⟨h.length, 0, none⟩)) (h ++ [some ⟨.fix, z.toList⟩]) := by
  obtain ⟨zv, z1, z2, z3⟩ := run_zero (w := w) hz
  obtain ⟨g1, g2⟩ := alloc_sim H T (okCells (ι := ι) z3)
  refine eff_value (v' := .pointer (some ⟨w.heap.size, 0, none⟩)) ?_ (vr_newPtr rfl) g1 g2
  simp [execOp, Instr.alloc, z1, newVar, z2, newRow_run]

theorem vr_newSl {n : Nat} {l : Loc} (len cap cap' : Nat) (hb : l.base = 0) (hc : cap' = cap ∨ (0 < l.e ∧ 0 + cap * l.e = l.n ∧ l.base + 0 + cap' * l.e = l.N ∧ cap ≤ cap')) :
    VR (upd ι n l) (.slice (some ⟨n, 0, none⟩) len cap) (.slice (some ⟨l.b, 0, none⟩) len cap') := by
  have := VR.v0 (V0.sl (ι := upd ι n l) (B := n) (o := 0) (len := len) (upd_same n l) hc)
  rw [hb] at this
  exact this

/-! ### Literals of slices; make -/
theorem stps_sim (hF : F2 (VR ι) t a.tmps.toList) (place : Nat → Option (Nat × Nat)) : ∀ (ps : List (Nat × Operand)) (l : List (Nat × Nat × Operand)), stps place ps = some l →
    (∀ p ∈ ps, (place p.1).isSome = true) ∧ (∀ p ∈ ps, VR ι (ev t p.2) (a.eval p.2)) ∧
    evps t l = (ps.map fun p => (p.1, ev t p.2, a.eval p.2)).filterMap fun p => (place p.1).map fun q => (q.1, q.2, p.2.1)
  | [], l, hl => by simp [stps] at hl; subst hl; simp [evps]
  | (i, x) :: ps, l, hl => by
    simp only [stps] at hl
    split at hl
    · rename_i q l' hp hl'
      split at hl
      · rename_i hx
        cases hl
        obtain ⟨g1, g2, g3⟩ := stps_sim hF place ps l' hl'
        refine ⟨?_, ?_, ?_⟩
        · intro p hm; rcases List.mem_cons.1 hm with rfl | hm
          · simp [hp]
          · exact g1 p hm
        · intro p hm; rcases List.mem_cons.1 hm with rfl | hm
          · exact ev_sim hF hx
          · exact g2 p hm
        · simp only [evps, List.map_cons, List.filterMap_cons, hp, Option.map_some]
          rw [← g3]; rfl
      · cases hl
    · cases hl

theorem mkrow_sim {dst : Option Tmp} {T E type : TypeId} {len n : Nat} {z : Array Value} {ps : Array (Nat × Operand)} {l : List (Nat × Nat × Operand)} {r : List Value} {pos : String} {after : Array Edge} {guard : Option (Nat × Bool)}
    (H : HR ι h w) (hF : F2 (VR ι) t a.tmps.toList) (hu : P.underlying T = some (.slice E)) (hs : szT P E = some n) (hz : zeroT P E = some z) (hm : len * n ≤ 2 ^ 24) (hn : 0 < n) (hok : (rowOf z (len * n)).all okCell = true)
    (hl : stps (fun i => some (i * n, n)) ps.toList = some l) (hr : fillA (rowOf z (len * n)) (evps t l) = some r) :
    EffOk P ι h w a ⟨dst, .buildSlice T len ps, type, pos, after, guard⟩ (.slice (some ⟨h.length, 0, none⟩) len len) (h ++ [some ⟨.fix, r⟩]) := by
  obtain ⟨g1, g2, g3⟩ := stps_sim hF _ ps.toList l hl
  rw [g3] at hr
  obtain ⟨r', f1, f2⟩ := fill_sim (fun i => some (i * n, n)) _ (rowOf z (len * n)) (rowOf z (len * n)) r (okCells hok) (by
    intro p hp
    obtain ⟨q, hq, rfl⟩ := List.mem_map.1 hp
    exact g2 q hq) hr (by intro p hp; rfl)
  obtain ⟨q1, q2⟩ := alloc_sim H E f2
  refine eff_value (v' := .slice (some ⟨w.heap.size, 0, none⟩) len len) ?_ (vr_newSl len len len rfl (.inl rfl)) q1 q2
  have f1' : Instr.fill (fun i => some (i * n, n)) ((Array.range (len * n)).map (fun i => z[i % z.size]!)) (ps.map fun (i, x) => (i, a.eval x)).toList = some ⟨r'⟩ := by
    rw [← f1]
    have q : (Array.range (len * n)).map (fun i => z[i % z.size]!) = ⟨rowOf z (len * n)⟩ := by apply Array.ext'; simp [rowOf]
    rw [q]
    simp [Function.comp_def]
  obtain ⟨zv, z1, z2, z3⟩ := run_zero (w := w) hz
  have hbig : ¬ (2 ^ 24 < len * n) := by omega
  simp only [execOp, Instr.buildSlice, Sem.run_bind, run_und hu, Result.andThen_ok, run_sz hs]
  rw [if_neg (by omega)]
  by_cases h0 : len * n = 0
  · rw [if_pos h0]
    have hz0 : (Array.range (len * n)).map (fun i => z[i % z.size]!) = #[] := by rw [h0]; simp
    rw [hz0] at f1'
    simp only [Sem.run_bind, Sem.run_pure, Result.andThen_ok]
    have hz1 : (Array.range (len * n)).map (fun i => (#[] : Array Value)[i % (#[] : Array Value).size]!) = #[] := by rw [h0]; simp
    rw [hz1, f1']
    simp [newRow_run]
  · rw [if_neg h0]
    simp only [Sem.run_bind, z1, Result.andThen_ok, Sem.run_pure, z2, f1']
    simp [newRow_run]

theorem rowOf_flat (z : Array Value) (hz : 0 < z.size) (c : Nat) : rowOf z (c * z.size) = (List.replicate c z.toList).flatten := by
  unfold rowOf
  induction c with
  | zero => simp
  | succ c ih =>
    have h1 : (Array.range ((c + 1) * z.size)).toList = (Array.range (c * z.size)).toList ++ (List.range z.size).map (c * z.size + ·) := by
      simp [Nat.succ_mul, List.range_add]
    rw [Array.toList_map, h1, List.map_append]
    rw [Array.toList_map] at ih
    rw [ih, List.replicate_succ', List.flatten_append]
    congr 1
    simp only [List.flatten_cons, List.flatten_nil, List.append_nil]
    apply List.ext_getElem?
    intro i
    by_cases hi : i < z.size
    · simp [hi, Nat.mod_eq_of_lt hi]
    · simp [hi]

end Go.Am
