/-
  Operations that turn the heap: new blocks, stores, append, copy.
-/
import Derived.Test.YtjnppjipoibbeaaAm8
namespace Go.Am
set_option linter.all false

variable {P : Program} {ι : Map} {h : Heap} {w w' : World} {t : Fr} {a : Act}

/-- The operation yields a value, and the heap is another one. -/
def EffOk (P : Program) (ι : Map) (h : Heap) (w : World) (a : Act) (o : Oper) (v : Value) (h' : Heap) : Prop :=
  ∃ w' ι', ((∃ v', (execOp a.eval o).run P w = .ok (.value v') w' ∧ VR ι' v v') ∨ ((execOp a.eval o).run P w = .ok .skip w' ∧ v = undef)) ∧
    HR ι' h' w' ∧ Ext ι h w ι' h' w'

def upd (ι : Map) (n : Nat) (l : Loc) : Map := fun B => if B = n then some l else ι B

theorem HR.new (H : HR ι h w) : ι h.length = none := by
  cases e : ι h.length with
  | none => rfl
  | some l => exact absurd (H.dom _ _ e) (by omega)
theorem HR.subU (H : HR ι h w) (l : Loc) : Sub ι (upd ι h.length l) := by
  intro B l0 e
  have := H.dom _ _ e
  unfold upd
  rw [if_neg (by omega)]
  exact e
theorem upd_same (n : Nat) (l : Loc) : upd ι n l n = some l := if_pos rfl

theorem HR.lt (H : HR ι h w) {B : Nat} {b : Blk} (e : h[B]? = some (some b)) {l : Loc} (hl : ι B = some l) : l.b < w.heap.size := by
  obtain ⟨l', e1, _, _, _, _, c, _, _, hb, _⟩ := H.live B b e
  rw [hl] at e1
  cases e1
  exact (Array.getElem?_eq_some_iff.1 hb).1

/-- The shape that a block's place must have. -/
def Fits (ι : Map) (w : World) (K : Kind) (cells : List Value) (l : Loc) : Prop :=
  l.n = cells.length ∧ l.base + l.n ≤ l.N ∧ (l.e = 0 → l.N = l.base + l.n) ∧ (match K with | .grown e => l.e = e | _ => l.e = 0) ∧
    ∃ c e f, w.heap[l.b]? = some (.cells c e f) ∧ l.N ≤ c.size ∧ (K ≠ .ro → f = (0, 0)) ∧ F2 (VC ι) cells ((c.toList.drop l.base).take l.n)

theorem get_push (h : Heap) (x : Option Blk) (B : Nat) : (h ++ [x])[B]? = if B = h.length then some x else h[B]? := by
  rw [List.getElem?_append]
  split
  · rw [if_neg (by omega)]
  · split
    · simp [*]
    · rw [List.getElem?_eq_none (by simp; omega), List.getElem?_eq_none (by omega)]

/-- A block more, in a place that no live block has. -/
theorem HR.add (H : HR ι h w) {K : Kind} {cells : List Value} {l : Loc} (hold : ∀ B blk l0, h[B]? = some (some blk) → ι B = some l0 → l0.b ≠ l.b ∧ w'.heap[l0.b]? = w.heap[l0.b]?)
    (hf : Fits (upd ι h.length l) w' K cells l) : HR (upd ι h.length l) (h ++ [some ⟨K, cells⟩]) w' where
  dom := fun B l0 e => by
    unfold upd at e
    simp
    split at e
    · omega
    · have := H.dom _ _ e; omega
  live := fun B blk e => by
    rw [get_push] at e
    split at e
    · rename_i hB
      subst hB
      cases e
      obtain ⟨f1, f2, f3, f4, f5⟩ := hf
      exact ⟨l, upd_same _ _, f1, f2, f3, f4, f5⟩
    · rename_i hB
      obtain ⟨l0, e1, f1, f2, f3, f4, c, e2, f, hb, f5, f6, f7⟩ := H.live B blk e
      refine ⟨l0, H.subU l _ _ e1, f1, f2, f3, f4, c, e2, f, ?_, f5, f6, f7.mono fun _ _ h => h.mono (H.subU l)⟩
      rw [(hold B blk l0 e e1).2]
      exact hb
  apart := fun B1 B2 b1 b2 l1 l2 e1 e2 hne hr h1 h2 => by
    rw [get_push] at e1 e2
    unfold upd at h1 h2
    split at e1
    · rename_i q1
      rw [if_pos q1] at h1
      cases h1
      rw [if_neg (by omega)] at e2 h2
      exact fun q => (hold B2 b2 l2 e2 h2).1 q.symm
    · rename_i q1
      rw [if_neg q1] at h1
      split at e2
      · rename_i q2
        rw [if_pos q2] at h2
        cases h2
        exact (hold B1 b1 l1 e1 h1).1
      · rename_i q2
        rw [if_neg q2] at h2
        exact H.apart B1 B2 b1 b2 l1 l2 e1 e2 hne hr h1 h2

/-- A new block. -/
theorem HR.push (H : HR ι h w) {K : Kind} {cells : List Value} {l : Loc} (hold : ∀ b, b < w.heap.size → w'.heap[b]? = w.heap[b]?) (hfresh : w.heap.size ≤ l.b) (hf : Fits (upd ι h.length l) w' K cells l) :
    HR (upd ι h.length l) (h ++ [some ⟨K, cells⟩]) w' :=
  H.add (fun B blk l0 e1 e2 => by have := H.lt e1 e2; exact ⟨by omega, hold _ this⟩) hf

/-- A block is let go. -/
theorem get_kill (h : Heap) (B B' : Nat) (b : Blk) (e : (h.set B none)[B']? = some (some b)) : B' ≠ B ∧ h[B']? = some (some b) := by
  rw [List.getElem?_set] at e
  split at e
  · split at e <;> cases e
  · rename_i q; exact ⟨fun q' => q q'.symm, e⟩
theorem HR.kill (H : HR ι h w) (B : Nat) : HR ι (h.set B none) w :=
  ⟨fun B' l e => by simpa using H.dom B' l e, fun B' b e => H.live B' b (get_kill h B B' b e).2,
   fun B1 B2 b1 b2 l1 l2 e1 e2 => H.apart B1 B2 b1 b2 l1 l2 (get_kill h B B1 b1 e1).2 (get_kill h B B2 b2 e2).2⟩
theorem Ext.kill (ι : Map) (h : Heap) (w : World) (B : Nat) : Ext ι h w ι (h.set B none) w :=
  ⟨Sub.refl ι, Nat.le_refl _, fun _ _ _ => rfl, fun B' b l e h2 h3 => .inr ⟨B', b, l, (get_kill h B B' b e).2, h2, h3, rfl⟩, rfl, rfl, rfl, fun B' b l e h3 => .inr ⟨B', b, l, (get_kill h B B' b e).2, h3, rfl⟩⟩

theorem Ext.push (H : HR ι h w) {K : Kind} {cells : List Value} {l : Loc} (hold : ∀ b, b < w.heap.size → w'.heap[b]? = w.heap[b]?) (hsz : w.heap.size ≤ w'.heap.size) (hfresh : w.heap.size ≤ l.b)
    (e1 : w'.os = w.os) (e2 : w'.tape = w.tape) (e3 : w'.output = w.output) : Ext ι h w (upd ι h.length l) (h ++ [some ⟨K, cells⟩]) w' where
  sub := H.subU l
  size := hsz
  frame := fun b hb _ => hold b hb
  imgs := fun B blk l0 e hr hl => by
    rw [get_push] at e
    unfold upd at hl
    split at e
    · rename_i q; rw [if_pos q] at hl; cases hl; exact .inl hfresh
    · rename_i q; rw [if_neg q] at hl; exact .inr ⟨B, blk, l0, e, hr, hl, rfl⟩
  os := e1
  tape := e2
  output := e3
  imgR := fun B blk l0 e hl => by
    rw [get_push] at e
    unfold upd at hl
    split at e
    · rename_i q; rw [if_pos q] at hl; cases hl; exact .inl hfresh
    · rename_i q; rw [if_neg q] at hl; exact .inr ⟨B, blk, l0, e, hl, rfl⟩

/-- A row of cells is laid. -/
theorem alloc_fits (w : World) (T : TypeId) {n : Nat} {cells cells' : List Value} {ι : Map} (hF : F2 (VC ι) cells cells') :
    Fits ι (w.alloc (.cells ⟨cells'⟩ T)) .fix cells ⟨w.heap.size, 0, cells.length, cells.length, 0⟩ := by
  refine ⟨rfl, by simp, by simp, rfl, ⟨cells'⟩, T, (0, 0), by show (w.heap.push _)[w.heap.size]? = _; simp, by simp [hF.length], fun _ => rfl, ?_⟩
  simp only [List.drop_zero]
  rw [List.take_of_length_le (by rw [hF.length]; exact Nat.le_refl _)]
  exact hF

theorem alloc_old (w : World) (o : Obj) : ∀ b, b < w.heap.size → (w.alloc o).heap[b]? = w.heap[b]? := by
  intro b hb
  show (w.heap.push o)[b]? = _
  rw [Array.getElem?_push, if_neg (Nat.ne_of_lt hb)]

theorem alloc_sim (H : HR ι h w) (T : TypeId) {cells cells' : List Value} (hF : F2 (VC ι) cells cells') :
    HR (upd ι h.length ⟨w.heap.size, 0, cells.length, cells.length, 0⟩) (h ++ [some ⟨.fix, cells⟩]) (w.alloc (.cells ⟨cells'⟩ T)) ∧
    Ext ι h w (upd ι h.length ⟨w.heap.size, 0, cells.length, cells.length, 0⟩) (h ++ [some ⟨.fix, cells⟩]) (w.alloc (.cells ⟨cells'⟩ T)) :=
  ⟨H.push (alloc_old w _) (Nat.le_refl _) (alloc_fits (n := 0) w T (hF.mono fun _ _ h => h.mono (H.subU _))),
   Ext.push H (alloc_old w _) (by show _ ≤ (w.heap.push _).size; simp) (Nat.le_refl _) rfl rfl rfl⟩

/-- The cells that a store may write. -/
theorem vc_one {v v' : Value} (hv : VC ι v v') : v'.oneCell' = true := by
  cases hv with
  | v0 h => cases h <;> rfl
  | fn => rfl

theorem writeN_some {B o : Nat} {s : Option Nat} {vs : List Value} {h' : Heap} (e : writeN h ⟨B, o, s⟩ vs = some h') :
    s = none ∧ ∃ b, rd h B = some b ∧ b.kind ≠ .ro ∧ o + vs.length ≤ b.cells.length ∧ h' = h.set B (some ⟨b.kind, setR b.cells o vs⟩) := by
  cases s with
  | some s => simp [writeN] at e
  | none =>
    simp only [writeN] at e
    split at e
    · rename_i b hb
      split at e
      · cases e
      · rename_i hk
        split at e
        · rename_i hle; cases e; exact ⟨rfl, b, hb, hk, hle, rfl⟩
        · cases e
    · cases e

theorem store_sim {B o : Nat} {s : Option Nat} {vs vs' : List Value} {h' : Heap} (H : HR ι h w) (e : writeN h ⟨B, o, s⟩ vs = some h') {l : Loc} (hl : ι B = some l) (hF : F2 (VC ι) vs vs') :
    ∃ w', (storeCells ⟨l.b, l.base + o, none⟩ vs').run P w = .ok () w' ∧ HR ι h' w' ∧ Ext ι h w ι h' w' := by
  obtain ⟨-, blk, hblk, hk, hle, rfl⟩ := writeN_some e
  have hB := rd_some hblk
  obtain ⟨hn, hbN, hN, hke, c, T, f, hc, hsz, hf0, hFc⟩ := H.at hblk hl
  have hf := hf0 hk
  subst hf
  have hlen := hF.length
  have hst := run_storeCells_at P l.b (l.base + o) T vs' 0 c w hc (by omega) (fun v hv => by
    obtain ⟨i, hi⟩ := List.getElem?_of_mem hv
    have : i < vs.length := by rw [hlen]; exact (List.getElem?_eq_some_iff.1 hi).1
    obtain ⟨u, hu, hr⟩ := hF.get i vs[i] (List.getElem?_eq_getElem this)
    rw [hi] at hu
    cases hu
    exact vc_one hr)
  simp only [Nat.add_zero] at hst
  refine ⟨_, hst, ?_, ?_⟩
  · have hBlt : B < h.length := (List.getElem?_eq_some_iff.1 hB).1
    refine ⟨fun B' l' e' => by simpa using H.dom B' l' e', fun B' blk' e' => ?_, fun B1 B2 b1 b2 l1 l2 e1 e2 hne hr h1 h2 => ?_⟩
    · rw [List.getElem?_set] at e'
      split at e'
      · rename_i q
        subst q
        cases e'
        refine ⟨l, hl, ?_, hbN, hN, hke, _, T, (0, 0), setRow_heap w l.b c _ T (0, 0) hc, ?_, fun _ => rfl, ?_⟩
        · simp [setR]; omega
        · simp; omega
        · -- the cells
          have e1 : ((c.toList.take (l.base + o) ++ vs' ++ c.toList.drop (l.base + o + vs'.length)).drop l.base).take l.n =
              setR ((c.toList.drop l.base).take l.n) o vs' := by
            unfold setR
            have hcl : l.base + l.n ≤ c.toList.length := by simp; omega
            have hol : o + vs'.length ≤ l.n := by omega
            generalize c.toList = cl at hcl
            apply List.ext_getElem?
            intro i
            simp only [List.getElem?_append, List.getElem?_take, List.getElem?_drop, List.length_take, List.length_append, List.length_drop]
            by_cases g1 : i < l.n
            · by_cases g2 : i < o
              · have m1 : l.base + i < min (l.base + o) cl.length := by omega
                have m2 : l.base + i < min (l.base + o) cl.length + vs'.length := by omega
                have m3 : i < min o (min l.n (cl.length - l.base)) := by omega
                have m4 : l.base + i < l.base + o := by omega
                simp only [g1, g2, m1, m2, m3, m4, if_true]
              · by_cases g3 : i < o + vs'.length
                · have m1 : ¬ l.base + i < min (l.base + o) cl.length := by omega
                  have m2 : l.base + i < min (l.base + o) cl.length + vs'.length := by omega
                  have m3 : ¬ i < min o (min l.n (cl.length - l.base)) := by omega
                  have m4 : i - min o (min l.n (cl.length - l.base)) < vs'.length := by omega
                  simp only [g1, m1, m2, m3, m4, if_true, if_false]
                  congr 1; omega
                · have m2 : ¬ l.base + i < min (l.base + o) cl.length + vs'.length := by omega
                  have m3 : ¬ i < min o (min l.n (cl.length - l.base)) := by omega
                  have m4 : ¬ i - min o (min l.n (cl.length - l.base)) < vs'.length := by omega
                  have m5 : o + vs'.length + (i - min o (min l.n (cl.length - l.base)) - vs'.length) < l.n := by omega
                  simp only [g1, m2, m3, m4, m5, if_true, if_false]
                  congr 1; omega
            · have m3 : ¬ i < min o (min l.n (cl.length - l.base)) := by omega
              have m4 : ¬ i - min o (min l.n (cl.length - l.base)) < vs'.length := by omega
              have m5 : ¬ o + vs'.length + (i - min o (min l.n (cl.length - l.base)) - vs'.length) < l.n := by omega
              simp only [g1, m3, m4, m5, if_false]
          rw [e1]
          unfold setR
          rw [hlen]
          exact (hFc.take o).append (hF.append (hFc.drop _))
      · rename_i q
        obtain ⟨l0, g1, g2, g3, g4, g5, c0, T0, f0, g6, g7, g8, g9⟩ := H.live B' blk' e'
        refine ⟨l0, g1, g2, g3, g4, g5, c0, T0, f0, ?_, g7, g8, g9⟩
        have := H.apart B B' blk blk' l l0 hB e' q hk hl g1
        rw [setRow_other w l.b l0.b _ (fun h => this h.symm)]
        exact g6
    · rw [List.getElem?_set] at e1 e2
      have r1 : ∃ b1', h[B1]? = some (some b1') ∧ b1'.kind = b1.kind := by
        split at e1
        · rename_i q; subst q; cases e1; exact ⟨blk, hB, rfl⟩
        · exact ⟨b1, e1, rfl⟩
      have r2 : ∃ b2', h[B2]? = some (some b2') := by
        split at e2
        · rename_i q; subst q; exact ⟨blk, hB⟩
        · exact ⟨b2, e2⟩
      obtain ⟨b1', q1, q2⟩ := r1
      obtain ⟨b2', q3⟩ := r2
      exact H.apart B1 B2 b1' b2' l1 l2 q1 q3 hne (by rw [q2]; exact hr) h1 h2
  · refine ⟨Sub.refl ι, by simp, fun b hb hno => setRow_other w l.b b _ (fun q => hno B blk l hB hk hl q.symm), fun B' blk' l0 e' hr hl0 => ?_, rfl, rfl, rfl, fun B' blk' l0 e' hl0 => ?_⟩
    · rw [List.getElem?_set] at e'
      have hBlt : B < h.length := (List.getElem?_eq_some_iff.1 hB).1
      split at e'
      · rename_i q; subst q; cases e'; exact .inr ⟨B, blk, l0, hB, hk, hl0, rfl⟩
      · exact .inr ⟨B', blk', l0, e', hr, hl0, rfl⟩
    · rw [List.getElem?_set] at e'
      have hBlt : B < h.length := (List.getElem?_eq_some_iff.1 hB).1
      split at e'
      · rename_i q; subst q; cases e'; exact .inr ⟨B, blk, l0, hB, hl0, rfl⟩
      · exact .inr ⟨B', blk', l0, e', hl0, rfl⟩

end Go.Am
