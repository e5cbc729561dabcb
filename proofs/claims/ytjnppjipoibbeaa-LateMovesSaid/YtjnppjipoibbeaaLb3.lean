/-
  Lists of whole numbers among the arguments, opened.
-/
import Derived.Test.YtjnppjipoibbeaaLb2
import Derived.ProofKit
import Derived.OpenShut
import Derived.ChangeSlices
namespace Go.Am
set_option linter.all false
open Go.ChangeShapes Go.WideShapes Go.ChangeAt Go.RowKit
variable {H : Type} {enc : TypeId × Value → H} {P : Program} {w : World}

/-- A block that lies in the world, and may only be read. -/
structure LiveAt (w : World) (l : Loc) (blk : Blk) : Prop where
  n : l.n = blk.cells.length
  N : l.base + l.n = l.N
  e : l.e = 0
  ro : blk.kind = .ro
  at_ : ∃ c el f, w.heap[l.b]? = some (.cells c el f) ∧ l.N ≤ c.size ∧ ((c.toList.drop l.base).take l.n) = blk.cells
  ints : ∃ zs : List Int, blk.cells = zs.map (Value.int .i64)

/-- An argument's list: its value, by the block's number; its block; where that lies; the numbers. -/
structure ArgSl where
  val : Nat → Value
  ob : Option Blk
  ol : Option Loc
  zs : List Int
structure ArgSl.Ok (w : World) (v : Value) (a : ArgSl) : Prop where
  vc : ∀ (ι : Map) (B : Nat), ι B = a.ol → V0 ι (a.val B) v
  rows : ∀ (h : Heap) (B : Nat), h[B]? = some a.ob → RowsAt 1 h (a.val B) (a.zs.map fun z => [.int .i64 z])
  live : (a.ob = none ∧ a.ol = none) ∨ ∃ blk l, a.ob = some blk ∧ a.ol = some l ∧ LiveAt w l blk

theorem open_sl {t e : TypeId} {r : Reach} {b0 : Nat} {v : Value} {fuel : Nat} {x : DataW H × List MemPlace} (ht : P.underlying t = some (.slice e)) (he : P.underlying e = some (.int .i64)) (hc : P.cellsOf e = 1)
    (ok : Cell.okWide P w r b0 t v) (h : DataW.trod enc P w 0 (fun _ => true) true fuel t [v] = some x) : ∃ a : ArgSl, a.Ok w v := by
  rcases open_ints ht he hc h with ⟨hcs, _⟩ | ⟨a, len, cap, zs, hcs, _, hl, hm, hzl, _, hcell, hwf⟩
  · simp only [List.cons.injEq, and_true] at hcs
    subst hcs
    exact ⟨⟨fun _ => .slice none 0 0, none, none, []⟩, fun ι B _ => .nilSl 0 0, fun h B _ => .inl ⟨rfl, rfl⟩, .inl ⟨rfl, rfl⟩⟩
  · simp only [List.cons.injEq, and_true] at hcs
    subst hcs
    simp only [if_true] at hzl
    have has : a.spot = none ∧ ∃ row cells, w.shape? a.block = some (row, cells) := by
      simp only [Cell.okWide, ht, Cell.ok] at ok
      obtain ⟨_, _, _, h2, row, cells, h3, _⟩ := ok
      exact ⟨h2, row, cells, h3⟩
    obtain ⟨hsp, row, cells, hsh⟩ := has
    obtain ⟨c, el, f, hblk⟩ : ∃ c el f, w.heap[a.block]? = some (.cells c el f) := by
      unfold World.shape? at hsh
      split at hsh
      · rename_i c el f hh; exact ⟨_, _, _, hh⟩
      · cases hsh
    obtain ⟨b, o, s⟩ := a
    simp only at hsp hblk
    subst hsp
    have hget : ∀ i, i < zs.length → c[o + i]? = some (.int .i64 (zs.getD i 0)) := fun i hi => by
      have := hcell i hi
      unfold World.cell? at this
      rw [show ((⟨b, o, none⟩ : Addr).add i).block = b by simp only [Addr.add]; split <;> rfl, hblk] at this
      have ho : ((⟨b, o, none⟩ : Addr).add i).off = o + i := by simp only [Addr.add]; split <;> simp_all
      have hs : ((⟨b, o, none⟩ : Addr).add i).spot = none := by simp only [Addr.add]; split <;> rfl
      simpa [ho, hs] using this
    rcases Nat.eq_zero_or_pos len with hz | hp
    · subst hz
      refine ⟨⟨fun B => .slice (some ⟨B, o, none⟩) 0 cap, some ⟨.ro, []⟩, some ⟨b, 0, 0, 0, 0⟩, []⟩, fun ι B hB => ?_, fun h B hB => ?_, .inr ⟨_, _, rfl, rfl, ⟨rfl, rfl, rfl, rfl, ⟨c, el, f, hblk, Nat.zero_le _, by simp⟩, [], rfl⟩⟩⟩
      · have := V0.sl (ι := ι) (B := B) (o := o) (len := 0) (cap := cap) (cap' := cap) hB (.inl rfl)
        simpa using this
      · exact .inr ⟨B, o, cap, ⟨.ro, []⟩, by simp, by simp [rd, hB], fun i r e => by simp at e⟩
    · have hlen : (zs.take len).length = len := by rw [List.length_take]; omega
      have hsz : o + len ≤ c.size := by
        have := hget (len - 1) (by omega)
        have := (Array.getElem?_eq_some_iff.1 this).1
        omega
      refine ⟨⟨fun B => .slice (some ⟨B, 0, none⟩) len cap, some ⟨.ro, (zs.take len).map (Value.int .i64)⟩, some ⟨b, o, len, o + len, 0⟩, zs.take len⟩, fun ι B hB => ?_, fun h B hB => ?_,
        .inr ⟨_, _, rfl, rfl, ⟨by simp only [List.length_map, hlen], rfl, rfl, rfl, ⟨c, el, f, hblk, hsz, ?_⟩, _, rfl⟩⟩⟩
      · have := V0.sl (ι := ι) (B := B) (o := 0) (len := len) (cap := cap) (cap' := cap) hB (.inl rfl)
        simpa using this
      · refine .inr ⟨B, 0, cap, ⟨.ro, (zs.take len).map (Value.int .i64)⟩, by simp only [List.length_map, hlen], by simp [rd, hB], fun i r e => ?_⟩
        rw [List.getElem?_map] at e
        cases hq : (zs.take len)[i]? with
        | none => rw [hq] at e; cases e
        | some z =>
          rw [hq] at e
          cases e
          have hlt := (List.getElem?_eq_some_iff.1 hq).1
          refine ⟨by simp only [List.length_map]; omega, ?_⟩
          apply List.ext_getElem?
          intro j
          rw [List.getElem?_take]
          cases j with
          | zero => simp only [Nat.zero_lt_one, if_true, List.getElem?_drop, List.getElem?_map]; rw [show 0 + i * 1 + 0 = i by omega, hq]; rfl
          | succ j => simp
      · apply List.ext_getElem?
        intro i
        rw [List.getElem?_take]
        split
        · rename_i hi0
          have hi : i < len := hi0
          rw [List.getElem?_drop, List.getElem?_map, List.getElem?_take, if_pos hi]
          rw [Array.getElem?_toList, hget i (by omega)]
          have : zs[i]? = some zs[i] := List.getElem?_eq_getElem (by omega)
          simp [List.getD, this]
        · rename_i hi0
          have hi : ¬ i < len := hi0
          rw [List.getElem?_eq_none (by simp only [List.length_map, hlen]; omega)]

/-- A list of whole numbers, by itself. -/
theorem open_list {t e : TypeId} {r : Reach} {b0 : Nat} {v : Value} {d : DataW H} {p : List MemPlace} (ht : P.underlying t = some (.slice e)) (he : P.underlying e = some (.int .i64)) (hc : P.cellsOf e = 1)
    (hv : Value.okWide P w r b0 t v) (h : DataW.Trod enc P w 0 (fun _ => true) true t v d p) : ∃ a : ArgSl, a.Ok w v := by
  obtain ⟨a, len, cap, rfl⟩ := okWide_slice ht hv
  simp only [Value.okWide, ht] at hv
  obtain ⟨fuel, hf⟩ := h
  exact open_sl ht he hc hv hf

/-- The heap of what came in. -/
def argM (A : List ArgSl) : Map := fun B => (A[B]?).bind (·.ol)
def argH (A : List ArgSl) : Heap := A.map (·.ob)
theorem args_hr {A : List ArgSl} (h : ∀ a ∈ A, ∃ v, a.Ok w v) : HR (argM A) (argH A) w where
  dom := fun B l e => by
    unfold argM at e
    cases hA : A[B]? with
    | none => rw [hA] at e; cases e
    | some a => simpa [argH] using (List.getElem?_eq_some_iff.1 hA).1
  live := fun B blk hB => by
    simp only [argH, List.getElem?_map] at hB
    cases hA : A[B]? with
    | none => rw [hA] at hB; cases hB
    | some a =>
      rw [hA] at hB
      simp only [Option.map_some, Option.some.injEq] at hB
      obtain ⟨v, ok⟩ := h a (List.mem_of_getElem? hA)
      rcases ok.live with ⟨h1, _⟩ | ⟨blk', l, h1, h2, L⟩
      · rw [h1] at hB; cases hB
      · rw [h1] at hB; cases hB
        obtain ⟨c, el, f, q1, q2, q3⟩ := L.at_
        refine ⟨l, by simp [argM, hA, h2], L.n, by have := L.N; omega, fun _ => L.N.symm, ?_, c, el, f, q1, q2, fun q => absurd L.ro q, ?_⟩
        · rw [L.ro]; exact L.e
        · rw [q3]
          obtain ⟨zs, hz⟩ := L.ints
          rw [hz]
          clear hz q3 q2 q1
          induction zs with
          | nil => exact .nil
          | cons z r ih => exact .cons (.v0 (.int .i64 z)) ih
  apart := fun B1 B2 b1 b2 l1 l2 h1 _ _ hk _ _ => by
    simp only [argH, List.getElem?_map] at h1
    cases hA : A[B1]? with
    | none => rw [hA] at h1; cases h1
    | some a =>
      rw [hA] at h1
      simp only [Option.map_some, Option.some.injEq] at h1
      obtain ⟨v, ok⟩ := h a (List.mem_of_getElem? hA)
      rcases ok.live with ⟨q1, _⟩ | ⟨blk', l, q1, q2, L⟩
      · rw [q1] at h1; cases h1
      · rw [q1] at h1; cases h1
        exact absurd L.ro hk
theorem args_ro {A : List ArgSl} (h : ∀ a ∈ A, ∃ v, a.Ok w v) (B : Nat) (blk : Blk) (e : (argH A)[B]? = some (some blk)) : blk.kind = .ro := by
  simp only [argH, List.getElem?_map] at e
  cases hA : A[B]? with
  | none => rw [hA] at e; cases e
  | some a =>
    rw [hA] at e
    simp only [Option.map_some, Option.some.injEq] at e
    obtain ⟨v, ok⟩ := h a (List.mem_of_getElem? hA)
    rcases ok.live with ⟨q1, _⟩ | ⟨blk', l, q1, q2, L⟩
    · rw [q1] at e; cases e
    · rw [q1] at e; cases e
      exact L.ro
theorem arg_at {A : List ArgSl} {B : Nat} {a : ArgSl} {v : Value} (hA : A[B]? = some a) (ok : a.Ok w v) : V0 (argM A) (a.val B) v ∧ RowsAt 1 (argH A) (a.val B) (a.zs.map fun z => [.int .i64 z]) :=
  ⟨ok.vc _ _ (by simp [argM, hA]), ok.rows _ _ (by simp [argH, hA])⟩

/-- A struct whose fields are lists of whole numbers, by value. -/
theorem open_lists {t e s : TypeId} {fs : Array Field} {r : Reach} {b0 : Nat} {v : Value} {d : DataW H} {p : List MemPlace} {ts : List TypeId} (hs : P.underlying t = some (.struct fs)) (ht : P.underlying s = some (.slice e)) (he : P.underlying e = some (.int .i64)) (hc : P.cellsOf e = 1)
    (hi : ∀ (i : Nat) (f : Field), fs[i]? = some f → f.type = s ∧ f.offset = i ∧ P.cellsOf f.type = 1) (hC : P.cellsOf t = fs.size) (hts : P.cellTypes P.depth t = some ts) (hts2 : ts = List.replicate fs.size s)
    (hv : Value.okWide P w r b0 t v) (h : DataW.Trod enc P w 0 (fun _ => true) true t v d p) :
    ∃ vs : List Value, vs.length = fs.size ∧ v = .agg ⟨vs⟩ ∧ ∀ (i : Nat) (u : Value), vs[i]? = some u → ∃ a : ArgSl, a.Ok w u := by
  simp only [Value.okWide, hs] at hv
  obtain ⟨cs, rfl, hsz, ts', hts', ⟨n, hn⟩, hrow⟩ := hv
  rw [hts] at hts'
  cases hts'
  obtain ⟨fuel, hf⟩ := h
  obtain ⟨xs, m, hm, hx, hl, hlen, hfld⟩ := DataW.trod_struct hs hf
  refine ⟨cs.toList, by simpa [hC] using hsz, by cases cs; rfl, fun i u hu => ?_⟩
  have hlt : i < fs.size := by
    have := (List.getElem?_eq_some_iff.1 hu).1
    simp at this
    omega
  have hfi : fs[i]? = some fs[i] := Array.getElem?_eq_getElem hlt
  obtain ⟨u1, u2, u3⟩ := hi i _ hfi
  have h1 := hfld i _ hfi
  have hxi : xs[i]? = some xs[i] := List.getElem?_eq_getElem (by omega)
  rw [hxi, u2, u3, u1] at h1
  have hone : ((Value.agg cs).cells.toList.drop i).take 1 = [u] := by
    have : (cs.toList.drop i).take 1 = [u] := by
      apply List.ext_getElem?
      intro j
      rw [List.getElem?_take]
      cases j with
      | zero => simp only [Nat.zero_lt_one, if_true, List.getElem?_drop, Nat.add_zero, hu]; rfl
      | succ j => simp
    simpa [Value.cells] using this
  rw [hone] at h1
  obtain ⟨u', hu', hok⟩ := hrow i u (by simpa using hu)
  have : u' = s := by
    rw [hts2, List.getElem?_replicate] at hu'
    split at hu'
    · exact (Option.some.inj hu').symm
    · cases hu'
  subst this
  exact open_sl ht he hc hok h1
end Go.Am
