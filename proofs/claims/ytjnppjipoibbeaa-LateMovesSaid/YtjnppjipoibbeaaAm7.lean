/-
  Slices, strings, arrays; then all operations that leave the heap alone, together.
-/
import Derived.Test.YtjnppjipoibbeaaAm6
namespace Go.Am
set_option linter.all false

variable {P : Program} {ι : Map} {h : Heap} {w : World} {t : Fr} {a : Act}

theorem VR.sl_inv {B o : Nat} {s : Option Nat} {n c : Nat} {v' : Value} (hv : VR ι (.slice (some ⟨B, o, s⟩) n c) v') : s = none ∧ ∃ l, ι B = some l ∧
    ((∃ c', v' = .slice (some ⟨l.b, l.base + o, none⟩) n c' ∧ (c' = c ∨ (0 < l.e ∧ o + c * l.e = l.n ∧ l.base + o + c' * l.e = l.N ∧ c ≤ c'))) ∨
     (n = 0 ∧ c = 0 ∧ ∃ b' o', v' = .slice (some ⟨b', o', none⟩) 0 0)) := by
  have h0 := hv.v0_inv rfl
  cases h0 with
  | sl hl hc => exact ⟨rfl, _, hl, .inl ⟨_, rfl, hc⟩⟩
  | sl0 hl => exact ⟨rfl, _, hl, .inr ⟨rfl, rfl, _, _, rfl⟩⟩

theorem slice_sim {T E : TypeId} {esz : Nat} {x x' v : Value} {lo hi mx lo' hi' mx' : Option Value} (H : HR ι h w) (hu : P.underlying T = some (.slice E)) (hs : szT P E = some esz)
    (hx : VR ι x x') (hsl : ∃ a n c, x = .slice a n c) (e : sliceA esz h x lo hi mx = some v)
    (h1 : ∀ v, hi = some v → ∃ v', hi' = some v' ∧ VR ι v v') (h1' : hi = none → hi' = none) (h2 : ∀ v, lo = some v → ∃ v', lo' = some v' ∧ VR ι v v') (h2' : lo = none → lo' = none)
    (h3 : ∀ v, mx = some v → ∃ v', mx' = some v' ∧ VR ι v v') (h3' : mx = none → mx' = none) :
    ∃ v', (Instr.sliceAt T x' lo' hi' mx').run P w = .ok v' w ∧ VR ι v v' := by
  obtain ⟨p, n, c, rfl⟩ := hsl
  simp only [sliceA] at e
  -- what the program does, given its bounds
  have real : ∀ (p' : Option Addr) (c' l ee m : Nat), (Instr.sliceBounds true n c' lo' hi' mx').run P w = .ok (l, ee, m) w →
      (Instr.sliceAt T (.slice p' n c') lo' hi' mx').run P w = .ok (.slice (if m = l then p' else p'.map (·.add (l * esz))) (ee - l) (m - l)) w := by
    intro p' c' l ee m hb
    simp [Instr.sliceAt, run_und hu, Instr.slice, hb, run_sz hs]
  cases mx with
  | none =>
    rw [h3' rfl] at real ⊢
    dsimp only at e
    split at e
    · rename_i ee he
      split at e
      · rename_i l hl
        cases p with
        | none =>
          cases e
          cases hx.nilSl_inv
          obtain ⟨g1, g2, g3⟩ := bounds_sim (P := P) (w := w) (lo' := lo') (hi' := hi') true he hl h1 h1' h2 h2' (Nat.le_refl c)
          refine ⟨_, real _ _ _ _ _ g1, ?_⟩
          rw [show (if c = l then (none : Option Addr) else (none : Option Addr).map (·.add (l * esz))) = none by split <;> rfl]
          exact .v0 (.nilSl _ _)
        | some p =>
          obtain ⟨B, o, s⟩ := p
          obtain ⟨rfl, lo0, hlo, hv⟩ := hx.sl_inv
          dsimp only at e
          split at e
          · rename_i q hq
            cases e
            obtain ⟨blk, hblk, hkind⟩ := isEnd_some hq
            obtain ⟨hn, hbN, hN, hk, -⟩ := H.at hblk hlo
            rcases hv with ⟨c', rfl, hc⟩ | ⟨rfl, rfl, b', o', rfl⟩
            · have hcc : c ≤ c' := by rcases hc with rfl | ⟨_, _, _, h⟩ <;> omega
              obtain ⟨g1, g2, g3⟩ := bounds_sim (P := P) (w := w) (lo' := lo') (hi' := hi') true he hl h1 h1' h2 h2' hcc
              refine ⟨_, real _ _ _ _ _ g1, ?_⟩
              -- the kind tells the size of an element
              have hes : 0 < lo0.e → lo0.e = esz := by
                intro h0
                rcases hkind with ⟨e0, k1, k2, k3, _⟩ | ⟨k1, _⟩
                · rw [k1] at hk; simp only at hk; omega
                · cases hkk : blk.kind with
                  | grown e1 => exact absurd hkk (k1 e1)
                  | ro => rw [hkk] at hk; simp only at hk; omega
                  | fix => rw [hkk] at hk; simp only at hk; omega
              simp only [add_plain]
              by_cases hcl : c = l
              · subst hcl
                by_cases hq0 : q = false
                · -- no spare room: the same capacity
                  have hcs : c' = c := by
                    rcases hc with h | ⟨h0, h1, _, _⟩
                    · exact h
                    · have := hes h0
                      rcases hkind with ⟨e0, k1, k2, k3, k4⟩ | ⟨k1, _⟩
                      · rw [hq0] at k4
                        have k5 : o + c * esz ≠ blk.cells.length := by simpa using k4.symm
                        rw [this] at h1
                        exact absurd (h1.trans hn) k5
                      · cases hkk : blk.kind with
                        | grown e1 => exact absurd hkk (k1 e1)
                        | ro => rw [hkk] at hk; simp only at hk; omega
                        | fix => rw [hkk] at hk; simp only at hk; omega
                  subst hcs
                  simp only [hq0, and_self, if_true]
                  exact .v0 (.sl hlo (.inl rfl))
                · have hqt : q = true := by cases q <;> simp_all
                  subst hqt
                  rw [show (if c = c ∧ true = false then (⟨B, o, none⟩ : Addr) else ⟨B, o + c * esz, none⟩) = ⟨B, o + c * esz, none⟩ from if_neg (by simp)]
                  have hee : ee - c = 0 := by omega
                  rw [hee, Nat.sub_self]
                  by_cases hcs : c' = c
                  · rw [if_pos hcs, hcs, Nat.sub_self]
                    exact .v0 (.sl0 hlo)
                  · rw [if_neg hcs]
                    simp only [Option.map_some, add_plain]
                    rcases hc with h | ⟨h0, q1, q2, _⟩
                    · exact absurd h hcs
                    · have hee := hes h0
                      rw [Nat.add_assoc]
                      refine .v0 (.sl hlo (.inr ⟨h0, ?_, ?_, Nat.zero_le _⟩))
                      · rw [hee] at q1; omega
                      · rw [← q2, hee, Nat.sub_mul]
                        have : c * esz ≤ c' * esz := Nat.mul_le_mul_right _ hcc
                        omega
              · simp only [hcl, false_and, if_false]
                have hlc : l < c := by omega
                rw [if_neg (by omega)]
                simp only [Option.map_some, add_plain]
                rw [Nat.add_assoc]
                refine .v0 (.sl hlo ?_)
                rcases hc with rfl | ⟨h0, q1, q2, _⟩
                · exact .inl rfl
                · right
                  have hee := hes h0
                  have m1 : l * esz ≤ c * esz := Nat.mul_le_mul_right _ (by omega)
                  have m2 : c * esz ≤ c' * esz := Nat.mul_le_mul_right _ hcc
                  refine ⟨h0, ?_, ?_, by omega⟩
                  · rw [hee] at q1 ⊢; rw [Nat.sub_mul]; omega
                  · rw [hee] at q2 ⊢; rw [Nat.sub_mul]; omega
            · obtain ⟨g1, g2, g3⟩ := bounds_sim (P := P) (w := w) (lo' := lo') (hi' := hi') true he hl h1 h1' h2 h2' (Nat.le_refl 0)
              refine ⟨_, real _ _ _ _ _ g1, ?_⟩
              have hl0 : l = 0 := by omega
              have he0 : ee = 0 := by omega
              subst hl0
              subst he0
              simp only [Nat.zero_mul, add_plain, Nat.add_zero, Nat.sub_self, if_true, ite_self]
              exact .v0 (.sl0 hlo)
          · cases e
      · cases e
    · cases e
  | some m =>
    obtain ⟨m', rfl, hm'⟩ := h3 m rfl
    dsimp only at e
    split at e
    · rename_i q hq
      split at e
      · rename_i ee he
        split at e
        · rename_i l hl
          cases e
          cases hi with
          | none => cases he
          | some u =>
            obtain ⟨u', rfl, hu'⟩ := h1 u rfl
            dsimp only at he
            cases p with
            | none =>
              cases hx.nilSl_inv
              obtain ⟨g1, g2, g3, g4⟩ := bounds3_sim (P := P) (w := w) (len := n) (lo' := lo') true hq he hl hm' hu' h2 h2' (Nat.le_refl c)
              refine ⟨_, real _ _ _ _ _ g1, ?_⟩
              rw [show (if q = l then (none : Option Addr) else (none : Option Addr).map (·.add (l * esz))) = none by split <;> rfl]
              exact .v0 (.nilSl _ _)
            | some p =>
              obtain ⟨B, o, s⟩ := p
              obtain ⟨rfl, lo0, hlo, hv⟩ := hx.sl_inv
              rcases hv with ⟨c', rfl, hc⟩ | ⟨rfl, rfl, b', o', rfl⟩
              · have hcc : c ≤ c' := by rcases hc with rfl | ⟨_, _, _, h⟩ <;> omega
                obtain ⟨g1, g2, g3, g4⟩ := bounds3_sim (P := P) (w := w) (len := n) (lo' := lo') true hq he hl hm' hu' h2 h2' hcc
                refine ⟨_, real _ _ _ _ _ g1, ?_⟩
                simp only [Option.map_some, add_plain]
                split
                · exact .v0 (.sl hlo (.inl rfl))
                · rw [Nat.add_assoc]; exact .v0 (.sl hlo (.inl rfl))
              · obtain ⟨g1, g2, g3, g4⟩ := bounds3_sim (P := P) (w := w) (len := 0) (lo' := lo') true hq he hl hm' hu' h2 h2' (Nat.le_refl 0)
                refine ⟨_, real _ _ _ _ _ g1, ?_⟩
                have hq0 : q = 0 := by omega
                have hl0 : l = 0 := by omega
                have he0 : ee = 0 := by omega
                subst hq0
                subst hl0
                subst he0
                simp only [if_true, Nat.sub_self]
                exact .v0 (.sl0 hlo)
        · cases e
      · cases e
    · cases e

theorem slarr_sim {T E : TypeId} {esz n : Nat} {x x' v : Value} {lo hi lo' hi' : Option Value} (hu : P.underlying T = some (.array n E)) (hs : szT P E = some esz)
    (hx : VR ι x x') (e : slarrA esz n x lo hi = some v)
    (h1 : ∀ v, hi = some v → ∃ v', hi' = some v' ∧ VR ι v v') (h1' : hi = none → hi' = none) (h2 : ∀ v, lo = some v → ∃ v', lo' = some v' ∧ VR ι v v') (h2' : lo = none → lo' = none) :
    ∃ v', (Instr.sliceAt T x' lo' hi' none).run P w = .ok v' w ∧ VR ι v v' := by
  unfold slarrA at e
  split at e
  · rename_i p
    obtain ⟨B, o, s⟩ := p
    obtain ⟨rfl, lo0, hlo, rfl⟩ := hx.ptr_inv
    split at e
    · rename_i ee he
      split at e
      · rename_i l hl
        cases e
        obtain ⟨g1, g2, g3⟩ := bounds_sim (P := P) (w := w) (lo' := lo') (hi' := hi') false he hl h1 h1' h2 h2' (Nat.le_refl n)
        refine ⟨_, by simp [Instr.sliceAt, run_und hu, Instr.sureAddr, g1, run_sz hs]; rfl, ?_⟩
        simp only [add_plain]
        split
        · exact .v0 (.sl hlo (.inl rfl))
        · rw [Nat.add_assoc]; exact .v0 (.sl hlo (.inl rfl))
      · cases e
    · cases e
  · cases e

theorem strslice_sim {T : TypeId} {x x' v : Value} {lo hi lo' hi' : Option Value} (hu : P.underlying T = some .string) (hx : VR ι x x')
    (e : strslA x lo hi = some v)
    (h1 : ∀ v, hi = some v → ∃ v', hi' = some v' ∧ VR ι v v') (h1' : hi = none → hi' = none) (h2 : ∀ v, lo = some v → ∃ v', lo' = some v' ∧ VR ι v v') (h2' : lo = none → lo' = none) :
    ∃ v', (Instr.sliceAt T x' lo' hi' none).run P w = .ok v' w ∧ VR ι v v' := by
  unfold strslA at e
  split at e
  · rename_i s
    cases hx.str_inv
    split at e
    · rename_i ee he
      split at e
      · rename_i l hl
        cases e
        obtain ⟨g1, g2, g3⟩ := bounds_sim (P := P) (w := w) (lo' := lo') (hi' := hi') false he hl h1 h1' h2 h2' (Nat.le_refl s.size)
        exact ⟨_, by simp [Instr.sliceAt, run_und hu, Instr.slice, g1], .v0 (.str _)⟩
      · cases e
    · cases e
  · cases e

end Go.Am
