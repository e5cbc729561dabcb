/-
  A logic over the kit's wp, part LcB: Lc12. No conditions.
-/
import Derived.Test.YtgdojnamjkhknaaQbLcA
namespace Go.Am
set_option linter.all false
open Go.ChangeShapes Go.WideShapes Go.ChangeAt Go.RowKit
variable {E : Type} {enc : TypeId × Value → E} {P : Program} {w : World}
def Anc (ι : Map) (H : Heap) : Prop := ∃ B l blk, ι B = some l ∧ H[B]? = some (some blk) ∧ blk.kind = .ro
theorem Anc.up {ι ι' : Map} {H : Heap} (h : Anc ι H) (s : Sub ι ι') (X : Heap) : Anc ι' (H ++ X) := by
 obtain ⟨B, l, blk, h1, h2, h3⟩ := h
 exact ⟨B, l, blk, s _ _ h1, by rw [List.getElem?_append_left (List.getElem?_eq_some_iff.1 h2).1]; exact h2, h3⟩
def Opx (w : World) (ks : List LT) (cs : List Value) : Prop :=
 ∀ (ι : Map) (H : Heap), HR ι H w → (∀ (B : Nat) (blk : Blk), H[B]? = some (some blk) → blk.kind = .ro) → Anc ι H →
  ∃ (X : Heap) (ι' : Map) (A : List Value), HR ι' (H ++ X) w ∧ (∀ (B : Nat) (blk : Blk), (H ++ X)[B]? = some (some blk) → blk.kind = .ro) ∧ Sub ι ι' ∧ F2 (V0 ι') A cs ∧ F2 (LT.ok (H ++ X)) ks A
theorem Op.x {ks : List LT} {cs : List Value} (h : Op w ks cs) : Opx w ks cs := fun ι H a b _ => h ι H a b
theorem Opx.nil : Opx w [] [] := Op.nil.x
theorem Opx.append {a b : List LT} {x y : List Value} (p : Opx w a x) (q : Opx w b y) : Opx w (a ++ b) (x ++ y) := fun ι H h ro an => by
 obtain ⟨X, ι1, A, h1, r1, s1, f1, o1⟩ := p ι H h ro an
 obtain ⟨Y, ι2, B, h2, r2, s2, f2, o2⟩ := q ι1 (H ++ X) h1 r1 (an.up s1 X)
 rw [List.append_assoc] at h2 r2 o2
 refine ⟨X ++ Y, ι2, A ++ B, h2, r2, s1.trans s2, (f1.mono fun _ _ k => k.mono s2).append f2, F2.append (o1.mono fun _ _ k => ?_) o2⟩
 rw [← List.append_assoc]
 exact LT.ok_app k Y
theorem cells_spot {base n : Nat} {a : Addr} {row : List Value} (h : w.cells? base a n = some row) (hn : 0 < n) : a.spot = none ∧ ∃ c el f, w.heap[a.block]? = some (.cells c el f) := by
 unfold World.cells? at h
 split at h
 ·obtain ⟨h1, h2⟩ := mapM_get h
  rw [List.length_range] at h1
  have h3 := h2 0 0 (by simp [hn])
  have h4 : (w.cell? (a.add 0)).isSome := by
   rw [h3, List.getElem?_eq_getElem (by omega)]; rfl
  obtain ⟨b, o, s⟩ := a
  unfold World.cell? at h4
  cases s with
  | none =>
   refine ⟨rfl, ?_⟩
   simp only [Addr.add] at h4
   split at h4 <;> first | (cases h4; done) | skip
   all_goals first
    | exact ⟨_, _, _, by assumption⟩
    | (simp at h4; done)
    | skip
  | some s =>
   simp only [Addr.add] at h4
   exfalso
   unfold Option.isSome at h4
   split at h4 <;> first | (rename_i q; split at q <;> cases q; done) | (cases h4; done) | (simp_all; done)
 ·cases h
theorem Opx.slice {e t : TypeId} {ks : List LK} {n fuel : Nat} {held : Bool} {v : Value} {x : DataW E × List MemPlace} (ht : P.underlying t = some (.slice e)) (hk : kinds P n e = some ks) (hp : 0 < P.cellsOf e) (hb0 : 0 < P.bytesOf e) (sz : ∀ n ∈ x.1.weights P t, n ≤ reachBytes) (h : DataW.trod enc P w 0 (fun _ => true) held fuel t [v] = some x) :
  Opx w [.s (P.cellsOf e) ks] [v] := by
 rcases DataW.trod_slice ht h with ⟨hcs, _⟩ | ⟨a, len, cap, elems, rest, m, hm, hcs, hx, hb, hl, hcap, hel, hel2, hsp, _⟩
 ·simp only [List.cons.injEq, and_true] at hcs
  subst hcs
  exact (Op.slice ht hk hp hb0 (fun a n c q => by cases q) sz h).x
 ·simp only [List.cons.injEq, and_true] at hcs
  subst hcs
  rcases Nat.eq_zero_or_pos cap with hz | hcp
  ·subst hz
   obtain rfl : len = 0 := by omega
   intro ι H hr ro ⟨B, l, blk, a1, a2, a3⟩
   refine ⟨[], ι, [.slice (some ⟨B, 0, none⟩) 0 0], by simpa using hr, by simpa using ro, Sub.refl ι, .cons (.sl0 a1) .nil,
    .cons ⟨[], .inr ⟨B, 0, 0, blk, rfl, Nat.le_refl _, ?_, fun e q => (by rw [a3] at q; cases q), by simp, fun i r e => by simp at e⟩, (fun r h => by cases h), Nat.zero_le _⟩ .nil⟩
   simp [rd, a2]
  ·refine (Op.slice ht hk hp hb0 (fun a' n' c' q => ?_) sz h).x
   cases q
   rcases Nat.eq_zero_or_pos len with hz | hlp
   ·subst hz
    obtain ⟨hr1, hr2⟩ := hsp rfl
    have h1 := hr2 0 (by omega)
    rw [List.getElem?_eq_getElem (by omega)] at h1
    simp only [Option.bind_eq_some_iff] at h1
    obtain ⟨row, r1, _⟩ := h1
    obtain ⟨s1, s2⟩ := cells_spot r1 hp
    exact ⟨by simpa [Addr.add] using s1, by simpa [Addr.add] using s2⟩
   ·have h1 := hel2 0 hlp
    rw [List.getElem?_eq_getElem (by omega)] at h1
    simp only [Option.bind_eq_some_iff] at h1
    obtain ⟨row, r1, _⟩ := h1
    obtain ⟨s1, s2⟩ := cells_spot r1 hp
    exact ⟨by simpa [Addr.add] using s1, by simpa [Addr.add] using s2⟩
theorem topsx {held : Bool} : ∀ (n fuel : Nat) (t : TypeId) (ks : List LT) (cs : List Value) (x : DataW E × List MemPlace), tops P n t = some ks → (∀ n ∈ x.1.weights P t, n ≤ reachBytes) → DataW.trod enc P w 0 (fun _ => true) held fuel t cs = some x → Opx w ks cs
 | 0, _, _, _, _, _, hk, _, _ => by cases hk
 | n + 1, fuel, t, ks, cs, x, hk, sz, h => by
  have hk0 := hk
  simp only [tops] at hk
  split at hk
  ·rename_i ht
   cases hk
   have := kinds_ok (n + 1) fuel t [.b] cs x (by simp only [kinds, ht]) h
   exact (Op.flat this).x
  ·rename_i k ht
   cases hk
   have := kinds_ok (n + 1) fuel t [.i k] cs x (by simp only [kinds, ht]) h
   exact (Op.flat this).x
  ·rename_i e ht
   split at hk
   ·rename_i kl hkl
    split at hk
    ·rename_i hc
     cases hk
     have : ∃ v, cs = [v] := by
      rcases DataW.trod_slice ht h with ⟨hcs, _⟩ | ⟨a, len, cap, elems, rest, m, hm, hcs, _⟩
      ·exact ⟨_, hcs⟩
      ·exact ⟨_, hcs⟩
     obtain ⟨v, rfl⟩ := this
     exact Opx.slice ht hkl hc.2.1 hc.2.2 sz h
    ·cases hk
   ·cases hk
  ·rename_i fs ht
   split at hk
   ·rename_i htl
    obtain ⟨xs, m, hm, hx, hl, hlen, hfld⟩ := DataW.trod_struct ht h
    have := tile_all (Q := Opx w) .nil (fun _ _ _ _ a b => a.append b) (g := fun t => tops P n t) (cs := cs) fs.toList 0 _ ks htl hl (fun f hf k hk => by
     obtain ⟨i, hi⟩ := List.mem_iff_getElem?.1 hf
     have hi' : fs[i]? = some f := by simpa using hi
     have h1 := hfld i f hi'
     have hlt : i < xs.length := by rw [hlen]; exact (Array.getElem?_eq_some_iff.1 hi').1
     rw [List.getElem?_eq_getElem hlt] at h1
     exact topsx n m f.type k _ _ hk (fun n hn => sz n (by
      rw [hx]
      simp only [DataW.weights, ht]
      exact DataW.weights_mem_each (j := i) (by rw [List.getElem?_map, hi]; rfl) (by rw [List.getElem?_map, List.getElem?_eq_getElem hlt]; rfl) n hn)) h1) hk
    simpa using this
   ·cases hk
  ·rename_i m e ht
   split at hk
   ·rename_i hc
    obtain ⟨xs, m', hm, hx, hl, hlen, hfld⟩ := DataW.trod_array ht h
    have := array_all (Q := Opx w) .nil (fun _ _ _ _ a b => a.append b) (k := tops P n e) (cs := cs) (by rw [hl, hc]) (fun i hi a ha => by
     have h1 := hfld i hi
     rw [List.getElem?_eq_getElem (by rw [hlen]; exact hi)] at h1
     exact topsx n m' e a _ _ ha (fun n hn => sz n (by
      rw [hx]
      simp only [DataW.weights, ht]
      exact mem_all (i := i) (by rw [List.getElem?_map, List.getElem?_eq_getElem (by rw [hlen]; exact hi)]; rfl) n hn)) h1) m 0 ks (by omega) hk
    simpa using this
   ·cases hk
  ·cases hk
theorem Opx.rows {ks : List LT} : ∀ (rows : List (List Value)), (∀ r ∈ rows, Opx w ks r) → ∀ (ι : Map) (H : Heap), HR ι H w → (∀ (B : Nat) (blk : Blk), H[B]? = some (some blk) → blk.kind = .ro) → Anc ι H →
  ∃ (X : Heap) (ι' : Map) (As : List (List Value)), HR ι' (H ++ X) w ∧ (∀ (B : Nat) (blk : Blk), (H ++ X)[B]? = some (some blk) → blk.kind = .ro) ∧ Sub ι ι' ∧ F2 (F2 (V0 ι')) As rows ∧ (∀ A ∈ As, F2 (LT.ok (H ++ X)) ks A)
 | [], _, ι, H, hr, ro, _ => ⟨[], ι, [], by simpa using hr, by simpa using ro, Sub.refl ι, .nil, fun A h => by cases h⟩
 | r :: rs, ho, ι, H, hr, ro, an => by
  obtain ⟨X, ι1, A, h1, r1, s1, f1, o1⟩ := ho r (by simp) ι H hr ro an
  obtain ⟨Y, ι2, As, h2, r2, s2, f2, o2⟩ := Opx.rows rs (fun r h => ho r (by simp [h])) ι1 (H ++ X) h1 r1 (an.up s1 X)
  rw [List.append_assoc] at h2 r2 o2
  refine ⟨X ++ Y, ι2, A :: As, h2, r2, s1.trans s2, .cons (f1.mono fun _ _ k => k.mono s2) f2, fun B hB => ?_⟩
  rcases List.mem_cons.1 hB with rfl | hB
  ·refine o1.mono fun _ _ k => ?_
   rw [← List.append_assoc]
   exact LT.ok_app k Y
  ·exact o2 B hB
theorem HR.roV {ι : Map} {H : Heap} (h : HR ι H w) (ro : ∀ (B : Nat) (blk : Blk), H[B]? = some (some blk) → blk.kind = .ro) {l : Loc} {cells real : List Value} {c : Array Value} {el : TypeId} {f : Nat × Nat} (hn : l.n = cells.length) (hN : l.base + l.n = l.N) (he : l.e = 0) (hb : w.heap[l.b]? = some (.cells c el f)) (hle : l.N ≤ c.size)
  (hc : (c.toList.drop l.base).take l.n = real) (hf : F2 (V0 ι) cells real) : ∃ ι', HR ι' (H ++ [some ⟨.ro, cells⟩]) w ∧ (∀ (B : Nat) (blk : Blk), (H ++ [some (Blk.mk .ro cells)])[B]? = some (some blk) → blk.kind = .ro) ∧ Sub ι ι' ∧ ι' H.length = some l := by
 have get : ∀ (B : Nat) (blk : Blk), (H ++ [some (Blk.mk .ro cells)])[B]? = some (some blk) → (B < H.length ∧ H[B]? = some (some blk)) ∨ (B = H.length ∧ blk = ⟨.ro, cells⟩) := fun B blk e => by
  rcases Nat.lt_trichotomy B H.length with q | q | q
  ·left; rw [List.getElem?_append_left q] at e; exact ⟨q, e⟩
  ·right; subst q; simp at e; exact ⟨rfl, e.symm⟩
  ·rw [List.getElem?_eq_none (by simp; omega)] at e; cases e
 have hro : ∀ (B : Nat) (blk : Blk), (H ++ [some (Blk.mk .ro cells)])[B]? = some (some blk) → blk.kind = .ro := fun B blk e => by
  rcases get B blk e with ⟨_, q⟩ | ⟨_, rfl⟩
  ·exact ro B blk q
  ·rfl
 let ι' : Map := fun B => if B = H.length then some l else ι B
 have old : ∀ B, B ≠ H.length → ι' B = ι B := fun B hB => by simp only [ι', hB, if_false]
 have sub : Sub ι ι' := fun B l' e => by
  have := h.dom B l' e
  rw [old B (by omega)]; exact e
 have new : ι' H.length = some l := by simp only [ι', if_true]
 refine ⟨ι', ⟨?_, ?_, ?_⟩, hro, sub, new⟩
 ·intro B l' e
  by_cases hB : B = H.length
  ·simp [hB]
  ·rw [old B hB] at e
   have := h.dom B l' e
   simp; omega
 ·intro B blk e
  rcases get B blk e with ⟨q1, q2⟩ | ⟨rfl, rfl⟩
  ·obtain ⟨l', z1, z2, z3, z4, z5, c3, e3, f3, z6, z7, z8, z9⟩ := h.live _ _ q2
   exact ⟨l', sub _ _ z1, z2, z3, z4, z5, c3, e3, f3, z6, z7, z8, z9.mono fun _ _ k => k.mono sub⟩
  ·refine ⟨l, new, hn, by omega, fun _ => hN.symm, he, c, el, f, hb, hle, fun q => absurd rfl q, ?_⟩
   rw [hc]
   exact hf.mono fun _ _ k => .v0 (k.mono sub)
 ·intro B1 B2 b1 b2 l1 l2 e1 _ _ hk
  exact absurd (hro _ _ e1) hk
def NestOk (wd : Nat) (ks : List LT) (H : Heap) (v : Value) : Prop := ∃ rows, RowsW wd H v rows ∧ (∀ r ∈ rows, F2 (LT.ok H) ks r) ∧ rows.length ≤ 140737488355328
theorem NestOk.app {wd : Nat} {ks : List LT} {H : Heap} {v : Value} (h : NestOk wd ks H v) (X : Heap) : NestOk wd ks (H ++ X) v := by
 obtain ⟨rows, a, b, c⟩ := h
 exact ⟨rows, a.app X, fun r hr => (b r hr).mono fun _ _ k => LT.ok_app k X, c⟩
def OpQ (w : World) (Q : Heap → Value → Prop) (v : Value) : Prop :=
 ∀ (ι : Map) (H : Heap), HR ι H w → (∀ (B : Nat) (blk : Blk), H[B]? = some (some blk) → blk.kind = .ro) →
  ∃ (X : Heap) (ι' : Map) (a : Value), HR ι' (H ++ X) w ∧ (∀ (B : Nat) (blk : Blk), (H ++ X)[B]? = some (some blk) → blk.kind = .ro) ∧ Sub ι ι' ∧ VR ι' a v ∧ Q (H ++ X) a
theorem F2.flat {α β : Type} {R : α → β → Prop} {a : List (List α)} {b : List (List β)} (h : F2 (F2 R) a b) : F2 R a.flatten b.flatten := by
 induction h with
 | nil => exact .nil
 | cons h _ ih => exact h.append ih
theorem F2.lens {α β : Type} {R : α → β → Prop} {a : List α} {b : List β} (h : F2 R a b) : a.length = b.length := h.length
theorem flat_rows {wd : Nat} : ∀ (rows : List (List Value)) (cs : List Value) (i : Nat) (r : List Value), (∀ x ∈ rows, x.length = wd) → rows[i]? = some r → ((rows.flatten ++ cs).drop (i * wd)).take wd = r
 | [], _, i, r, _, e => by simp at e
 | x :: l, cs, 0, r, h, e => by
  simp at e; subst e
  have := h x (by simp)
  simp [← this]
 | x :: l, cs, i + 1, r, h, e => by
  have hx := h x (by simp)
  have := flat_rows l cs i r (fun y hy => h y (by simp [hy])) (by simpa using e)
  rw [List.flatten_cons, List.append_assoc, show (i + 1) * wd = x.length + i * wd by rw [Nat.add_mul, Nat.one_mul, hx]; omega, ← List.drop_drop, List.drop_left]
  exact this
theorem open_nest {e t : TypeId} {n base wd : Nat} {ks : List LT} {v : Value} {d : DataW E} {p : List MemPlace} (ht : P.underlying t = some (.slice e)) (hk : tops P n e = some ks) (hwd : P.cellsOf e = wd) (hp : 0 < P.cellsOf e) (hb0 : 0 < P.bytesOf e) (hv : Value.okWide P w .any base t v) (sz : ∀ n ∈ d.weights P t, n ≤ reachBytes) (h : DataW.Trod enc P w 0 (fun _ => true) true t v d p) : OpQ w (NestOk wd ks) v := by
 subst hwd
 obtain ⟨fuel, h⟩ := h
 intro ι H hr ro
 unfold Value.okWide at hv
 rw [ht] at hv
 have sl := slOk hv
 have one : ∃ u, v.cells.toList = [u] ∧ v = u := by
  rcases DataW.trod_slice ht h with ⟨hcs, _⟩ | ⟨a, len, cap, elems, rest, m, hm, hcs, _⟩
  ·cases v <;> first | exact ⟨_, rfl, rfl⟩ | skip
   exfalso
   rename_i cs
   unfold Cell.okWide at hv
   rw [ht] at hv
   unfold Cell.ok at hv
   rw [ht] at hv
   exact hv
  ·cases v <;> first | exact ⟨_, rfl, rfl⟩ | skip
   exfalso
   rename_i cs
   unfold Cell.okWide at hv
   rw [ht] at hv
   unfold Cell.ok at hv
   rw [ht] at hv
   exact hv
 obtain ⟨u, hu, rfl⟩ := one
 rw [hu] at h
 rcases DataW.trod_slice ht h with ⟨hcs, _⟩ | ⟨a, len, cap, elems, rest, m, hm, hcs, hx, hb, hl, hcap, hel, hel2, hsp, _⟩
 ·simp only [List.cons.injEq, and_true] at hcs
  subst hcs
  exact ⟨[], ι, .slice none 0 0, by simpa using hr, by simpa using ro, Sub.refl ι, .va (.vc (.v0 (.nilSl 0 0))), [], .inl ⟨rfl, rfl⟩, (fun r h => by cases h), Nat.zero_le _⟩
 ·simp only [List.cons.injEq, and_true] at hcs
  subst hcs
  obtain ⟨hspot, c, el, f, hblk⟩ := sl a len cap rfl
  obtain ⟨b, o, s⟩ := a
  simp only at hspot hblk
  subst hspot
  obtain ⟨ι0, h01, h02, h03, h04⟩ := hr.ro ro (l := ⟨b, 0, 0, 0, 0⟩) (cells := []) rfl rfl rfl hblk (Nat.zero_le _) (by simp) (fun v hv => by cases hv)
  have an : Anc ι0 (H ++ [some ⟨.ro, []⟩]) := ⟨H.length, _, ⟨.ro, []⟩, h04, by simp, rfl⟩
  have rowi : ∀ i, i < len → ∃ row, w.cells? 0 ⟨b, o + i * P.cellsOf e, none⟩ (P.cellsOf e) = some row ∧ Opx w ks row := fun i hi => by
   have h1 := hel2 i hi
   rw [List.getElem?_eq_getElem (by omega), add_off] at h1
   simp only [Option.bind_eq_some_iff] at h1
   obtain ⟨row, r1, r2⟩ := h1
   refine ⟨row, r1, topsx n m e ks row _ hk (fun n hn => sz n ?_) r2⟩
   have hx1 : d = .slice (elems.map (·.1)) (rest.map (·.1)) := by
    have := congrArg Prod.fst hx
    exact this
   rw [hx1]
   simp only [DataW.weights, ht, List.mem_cons, List.mem_append]
   exact .inr (.inl (mem_all (i := i) (by rw [List.getElem?_map, List.getElem?_eq_getElem (by omega)]; rfl) n hn))
  let rows : List (List Value) := (List.range len).map fun i => (c.toList.drop (o + i * P.cellsOf e)).take (P.cellsOf e)
  have hrl : rows.length = len := by simp [rows]
  have hrow : ∀ i (r : List Value), rows[i]? = some r → i < len ∧ r = (c.toList.drop (o + i * P.cellsOf e)).take (P.cellsOf e) := fun i r e => by
   have hi : i < len := by have := (List.getElem?_eq_some_iff.1 e).1; omega
   refine ⟨hi, ?_⟩
   simp only [rows, List.getElem?_map, List.getElem?_range hi, Option.map_some, Option.some.injEq] at e
   exact e.symm
  have hok : ∀ r ∈ rows, Opx w ks r ∧ r.length = P.cellsOf e := fun r hr => by
   obtain ⟨i, hi⟩ := List.mem_iff_getElem?.1 hr
   obtain ⟨hlt, rfl⟩ := hrow i r hi
   obtain ⟨row, r1, r2⟩ := rowi i hlt
   obtain ⟨q1, q2, _⟩ := cells_row hblk r1
   rw [q2]
   exact ⟨r2, q1⟩
  have hsz : 0 < cap → o + len * P.cellsOf e ≤ c.size := fun hcp => by
   rcases Nat.eq_zero_or_pos len with hz | hlp
   ·subst hz
    obtain ⟨hr1, hr2⟩ := hsp rfl
    have h1 := hr2 0 (by omega)
    rw [List.getElem?_eq_getElem (by omega), add_off] at h1
    simp only [Option.bind_eq_some_iff] at h1
    obtain ⟨row, r1, _⟩ := h1
    have := (cells_row hblk r1).2.2 hp
    simp at this ⊢
    omega
   ·obtain ⟨row, r1, _⟩ := rowi (len - 1) (by omega)
    have := (cells_row hblk r1).2.2 hp
    have e1 : len * P.cellsOf e = (len - 1) * P.cellsOf e + P.cellsOf e := by
     have : len = (len - 1) + 1 := by omega
     conv => lhs; rw [this, Nat.add_mul, Nat.one_mul]
    omega
  obtain ⟨X, ι1, As, h11, h12, h13, h14, h15⟩ := Opx.rows rows (fun r h => (hok r h).1) ι0 _ h01 h02 an
  have hAl : As.length = len := by rw [h14.lens, hrl]
  have hAw : ∀ A ∈ As, A.length = P.cellsOf e := by
   intro A hA
   obtain ⟨i, hi⟩ := List.mem_iff_getElem?.1 hA
   have hlt := (List.getElem?_eq_some_iff.1 hi).1
   obtain ⟨r, hr2, this⟩ := h14.get i _ hi
   rw [this.lens]
   exact (hok _ (List.mem_of_getElem? hr2)).2
  rcases Nat.eq_zero_or_pos cap with hz | hcp
  ·subst hz
   obtain rfl : len = 0 := by omega
   refine ⟨[some ⟨.ro, []⟩], ι0, .slice (some ⟨H.length, 0, none⟩) 0 0, h01, h02, h03, .va (.vc (.v0 (.sl0 h04))), [], .inr ⟨H.length, 0, 0, ⟨.ro, []⟩, rfl, Nat.le_refl _, rd_last rfl, fun e q => (by cases q), by simp, fun i r e => by simp at e⟩, (fun r h => by cases h), Nat.zero_le _⟩
  ·have hfl : As.flatten.length = len * P.cellsOf e := by rw [flat_len hAw, hAl]
   have hreal : (c.toList.drop o).take (len * P.cellsOf e) = rows.flatten := by
    have key : ∀ (k i : Nat), i + k = len → (c.toList.drop (o + i * P.cellsOf e)).take (k * P.cellsOf e) = (((List.range len).drop i).map fun i => (c.toList.drop (o + i * P.cellsOf e)).take (P.cellsOf e)).flatten := by
     intro k
     induction k with
     | zero =>
      intro i hi
      rw [List.drop_of_length_le (l := List.range len) (by simp; omega)]
      simp
     | succ k ih =>
      intro i hi
      have := ih (i + 1) (by omega)
      rw [List.drop_eq_getElem_cons (l := List.range len) (by simp; omega), List.map_cons, List.flatten_cons, List.getElem_range, ← this, Nat.add_mul k, Nat.one_mul, Nat.add_comm (k * P.cellsOf e), List.take_add, List.drop_drop]
      rw [Nat.add_mul i, Nat.one_mul]
      simp [Nat.add_assoc]
    simpa using key len 0 (by omega)
   obtain ⟨ι2, h21, h22, h23, h24⟩ := h11.roV h12 (l := ⟨b, o, len * P.cellsOf e, o + len * P.cellsOf e, 0⟩) (cells := As.flatten) (real := rows.flatten) hfl.symm rfl rfl hblk (hsz hcp) hreal h14.flat
   refine ⟨[some (Blk.mk .ro [])] ++ (X ++ [some (Blk.mk .ro As.flatten)]), ι2, .slice (some ⟨(H ++ [some (Blk.mk .ro [])] ++ X).length, 0, none⟩) len cap, by simpa using h21, by simpa using h22, h03.trans (h13.trans h23), .va (.vc (.v0 ?_)), As, .inr ⟨_, 0, cap, ⟨.ro, As.flatten⟩, by rw [hAl], by rw [hAl]; exact hl, ?_, fun e q => (by cases q), by rw [hAl]; simp only [hfl]; omega, fun i r e => ?_⟩, fun A hA => ?_, ?_⟩
   ·have := V0.sl (ι := ι2) (B := (H ++ [some (Blk.mk .ro [])] ++ X).length) (o := 0) (len := len) (cap := cap) (cap' := cap) h24 (.inl rfl)
    simpa using this
   ·have : H ++ ([some (Blk.mk .ro [])] ++ (X ++ [some (Blk.mk .ro As.flatten)])) = (H ++ [some (Blk.mk .ro [])] ++ X) ++ [some (Blk.mk .ro As.flatten)] := by simp
    rw [this]; exact rd_last rfl
   ·have := flat_rows As [] i r hAw e
    simpa using this
   ·refine (h15 A hA).mono fun _ _ k => ?_
    have := LT.ok_app k [some (Blk.mk .ro As.flatten)]
    simpa using this
   ·rw [hAl, ← hel]
    have h1 := sz ((elems.length + rest.length) * P.bytesOf e) (by
     have hx1 : d = .slice (elems.map (·.1)) (rest.map (·.1)) := congrArg Prod.fst hx
     rw [hx1]; simp [DataW.weights, ht])
    have h2 : elems.length + rest.length ≤ (elems.length + rest.length) * P.bytesOf e := Nat.le_mul_of_pos_right _ hb0
    have h3 : reachBytes = 140737488351232 := rfl
    omega
theorem OpA.q {ag : Bool} {ks : List LT} {v : Value} (h : OpA w ag ks v) : OpQ w (fun H a => ArgOk H ag ks a) v := h
structure QM where
 Q : Heap → Value → Prop
 mono : ∀ H X a, Q H a → Q (H ++ X) a
def qA (ag : Bool) (ks : List LT) : QM := ⟨fun H a => ArgOk H ag ks a, fun _ X _ h => h.app X⟩
def qN (wd : Nat) (ks : List LT) : QM := ⟨NestOk wd ks, fun _ X _ h => h.app X⟩
theorem open_argsQ : ∀ (l : List QM) (vs : List Value) (ι : Map) (H : Heap), HR ι H w → (∀ (B : Nat) (blk : Blk), H[B]? = some (some blk) → blk.kind = .ro) → F2 (fun p v => OpQ w p.Q v) l vs →
  ∃ (X : Heap) (ι' : Map) (as : List Value), HR ι' (H ++ X) w ∧ (∀ (B : Nat) (blk : Blk), (H ++ X)[B]? = some (some blk) → blk.kind = .ro) ∧ Sub ι ι' ∧ F2 (VR ι') as vs ∧ F2 (fun p a => p.Q (H ++ X) a) l as
 | _, _, ι, H, hr, ro, .nil => ⟨[], ι, [], by simpa using hr, by simpa using ro, Sub.refl ι, .nil, .nil⟩
 | q :: _, _, ι, H, hr, ro, .cons h r => by
  obtain ⟨X, ι1, a, h1, r1, s1, v1, k1⟩ := h ι H hr ro
  obtain ⟨Y, ι2, as, h2, r2, s2, v2, k2⟩ := open_argsQ _ _ ι1 (H ++ X) h1 r1 r
  rw [List.append_assoc] at h2 r2 k2
  refine ⟨X ++ Y, ι2, a :: as, h2, r2, s1.trans s2, .cons (v1.mono s2) v2, .cons ?_ k2⟩
  rw [← List.append_assoc]
  exact q.mono _ Y _ k1
theorem law_ofQ {f : FuncId} {l : List QM} {vs : List Value} (s : ∀ H as, F2 (fun p a => p.Q H a) l as → Sim P f as H fun v _ => v = .bool true) (h : F2 (fun p v => OpQ w p.Q v) l vs) :
  Calls P f ⟨vs⟩ w fun e w' => e = .returned (.bool true) ∧ Below w.heap.size w w' := by
 obtain ⟨X, ι, as, h1, r1, _, v1, k1⟩ := open_argsQ l vs _ [] (HR.nil w) (fun B blk e => by simp at e) h
 exact (s _ as k1).law v1 h1 r1
end Go.Am
