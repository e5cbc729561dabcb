/-
  Values that name a call's own blocks by number: the rest of the heap may be open.
-/
import Derived.Test.YtgdojnamjkhknaaAm25
namespace Go.Am
set_option linter.all false

inductive SV where
  | raw (v : Value)
  | ptr (k o : Nat)
  | sl (k o n c : Nat)
  | agg (l : List SV)
  | tup (l : List SV)
abbrev SFr := List SV
def sund : SV := .raw undef

def den0 (f : Nat → Nat) : SV → Value
  | .raw v => v
  | .ptr k o => .pointer (some ⟨f k, o, none⟩)
  | .sl k o n c => .slice (some ⟨f k, o, none⟩) n c
  | _ => undef
def denA (f : Nat → Nat) : SV → Value
  | .agg l => .agg ⟨l.map (den0 f)⟩
  | v => den0 f v
def denV (f : Nat → Nat) : SV → Value
  | .tup l => .tuple ⟨l.map (denA f)⟩
  | v => denA f v
def bnd0 (n : Nat) : SV → Bool
  | .ptr k _ => decide (k < n)
  | .sl k _ _ _ => decide (k < n)
  | _ => true
def bndA (n : Nat) : SV → Bool
  | .agg l => l.all (bnd0 n)
  | v => bnd0 n v
def bndV (n : Nat) : SV → Bool
  | .tup l => l.all (bndA n)
  | v => bndA n v

theorem map_congr_all {α β : Type} {f g : α → β} {p : α → Bool} {l : List α} (h : ∀ x, p x = true → f x = g x) (hl : l.all p = true) : l.map f = l.map g := by
  rw [List.all_eq_true] at hl
  exact List.map_congr_left fun x hx => h x (hl x hx)
theorem den0_congr {f g : Nat → Nat} {n : Nat} (h : ∀ k, k < n → f k = g k) (v : SV) (hb : bnd0 n v = true) : den0 f v = den0 g v := by
  cases v <;> simp only [bnd0, decide_eq_true_eq] at hb <;> simp only [den0]
  · rw [h _ hb]
  · rw [h _ hb]
theorem denA_congr {f g : Nat → Nat} {n : Nat} (h : ∀ k, k < n → f k = g k) (v : SV) (hb : bndA n v = true) : denA f v = denA g v := by
  cases v with
  | agg l => simp only [denA]; rw [map_congr_all (den0_congr h) hb]
  | _ => simp only [denA]; exact den0_congr h _ (by simpa only [bndA] using hb)
theorem denV_congr {f g : Nat → Nat} {n : Nat} (h : ∀ k, k < n → f k = g k) (v : SV) (hb : bndV n v = true) : denV f v = denV g v := by
  cases v with
  | tup l => simp only [denV]; rw [map_congr_all (denA_congr h) hb]
  | _ => simp only [denV]; exact denA_congr h _ (by simpa only [bndV] using hb)
theorem bnd0_up {n m : Nat} (h : n ≤ m) (v : SV) (hb : bnd0 n v = true) : bnd0 m v = true := by
  cases v <;> simp only [bnd0, decide_eq_true_eq] at hb ⊢ <;> omega
theorem all_up {α : Type} {p q : α → Bool} {l : List α} (h : ∀ x, p x = true → q x = true) (hl : l.all p = true) : l.all q = true := by
  rw [List.all_eq_true] at hl ⊢
  exact fun x hx => h x (hl x hx)
theorem bndA_up {n m : Nat} (h : n ≤ m) (v : SV) (hb : bndA n v = true) : bndA m v = true := by
  cases v with
  | agg l => exact all_up (bnd0_up h) hb
  | _ => simp only [bndA] at hb ⊢; exact bnd0_up h _ hb
theorem bndV_up {n m : Nat} (h : n ≤ m) (v : SV) (hb : bndV n v = true) : bndV m v = true := by
  cases v with
  | tup l => exact all_up (bndA_up h) hb
  | _ => simp only [bndV] at hb ⊢; exact bndA_up h _ hb

/-! ### The heap, item by item -/
inductive It where
  | blk (kd : Kind) (cs : List SV)
  | raw (b : Option Blk)
  | seg (S : Heap)
abbrev SH := List It
def It.len : It → Nat
  | .seg S => S.length
  | _ => 1
def It.den (f : Nat → Nat) : It → Heap
  | .blk kd cs => [some ⟨kd, cs.map (den0 f)⟩]
  | .raw b => [b]
  | .seg S => S
def It.bnd (n : Nat) : It → Bool
  | .blk _ cs => cs.all (bnd0 n)
  | _ => true
def ofs : SH → Nat → Nat
  | [], _ => 0
  | _ :: _, 0 => 0
  | i :: r, k + 1 => i.len + ofs r k
def denL (f : Nat → Nat) : SH → Heap
  | [] => []
  | i :: r => i.den f ++ denL f r
def denH (I : SH) : Heap := denL (ofs I) I
def denF (I : SH) (t : SFr) : Fr := t.map (denV (ofs I))

theorem It.den_len (f : Nat → Nat) (i : It) : (i.den f).length = i.len := by cases i <;> rfl
theorem It.den_congr {f g : Nat → Nat} {n : Nat} (h : ∀ k, k < n → f k = g k) (i : It) (hb : i.bnd n = true) : i.den f = i.den g := by
  cases i with
  | blk kd cs => simp only [It.den]; rw [map_congr_all (den0_congr h) hb]
  | _ => rfl
theorem It.bnd_up {n m : Nat} (h : n ≤ m) (i : It) (hb : i.bnd n = true) : i.bnd m = true := by
  cases i with
  | blk kd cs => exact all_up (bnd0_up h) hb
  | _ => rfl
theorem denL_congr {f g : Nat → Nat} {n : Nat} (h : ∀ k, k < n → f k = g k) : ∀ (I : SH), I.all (It.bnd n) = true → denL f I = denL g I
  | [], _ => rfl
  | i :: r, hb => by
    simp only [List.all_cons, Bool.and_eq_true] at hb
    simp only [denL, It.den_congr h i hb.1, denL_congr h r hb.2]
theorem denL_app (f : Nat → Nat) : ∀ (I J : SH), denL f (I ++ J) = denL f I ++ denL f J
  | [], J => rfl
  | i :: r, J => by simp only [List.cons_append, denL, denL_app f r J, List.append_assoc]
theorem denL_len (f : Nat → Nat) : ∀ (I : SH), (denL f I).length = ofs I I.length
  | [] => rfl
  | i :: r => by simp only [denL, List.length_append, It.den_len, denL_len f r, List.length_cons, ofs]
theorem denH_len (I : SH) : (denH I).length = ofs I I.length := denL_len _ I
theorem off_app (J : SH) : ∀ (I : SH) (k : Nat), k ≤ I.length → ofs (I ++ J) k = ofs I k
  | [], 0, _ => by cases J <;> rfl
  | [], k + 1, h => by simp at h
  | i :: r, 0, _ => rfl
  | i :: r, k + 1, h => by simp only [List.cons_append, ofs]; rw [off_app J r k (by simpa using h)]
theorem off_set {x y : It} : ∀ (I : SH) (j : Nat), I[j]? = some x → y.len = x.len → ∀ k, ofs (I.set j y) k = ofs I k
  | [], j, e, _, k => by simp at e
  | i :: r, 0, e, hl, k => by
    simp at e; subst e
    cases k with
    | zero => rfl
    | succ k => simp only [List.set_cons_zero, ofs, hl]
  | i :: r, j + 1, e, hl, k => by
    cases k with
    | zero => rfl
    | succ k => simp only [List.set_cons_succ, ofs]; rw [off_set r j (by simpa using e) hl k]

theorem get_app_off {f : Nat → Nat} {i : It} {b : Option Blk} : ∀ (I : SH) (k : Nat), I[k]? = some i → i.den f = [b] → (denL f I)[ofs I k]? = some b
  | [], k, e, _ => by simp at e
  | j :: r, 0, e, hd => by
    simp at e; subst e
    simp only [denL, ofs, hd]; rfl
  | j :: r, k + 1, e, hd => by
    simp only [denL, ofs]
    rw [List.getElem?_append_right (by rw [It.den_len]; omega), It.den_len, Nat.add_sub_cancel_left]
    exact get_app_off r k (by simpa using e) hd
theorem set_app_off {f : Nat → Nat} {i j : It} {b : Option Blk} : ∀ (I : SH) (k : Nat), I[k]? = some i → i.len = 1 → j.den f = [b] → denL f (I.set k j) = (denL f I).set (ofs I k) b
  | [], k, e, _, _ => by simp at e
  | x :: r, 0, e, hl, hd => by
    simp at e; subst e
    have h1 := It.den_len f x
    rw [hl] at h1
    match hx : x.den f, h1 with
    | [a], _ => simp only [List.set_cons_zero, denL, ofs, hd, hx]; rfl
  | x :: r, k + 1, e, hl, hd => by
    simp only [List.set_cons_succ, denL, ofs]
    rw [List.set_append, if_neg (by rw [It.den_len]; omega), It.den_len, Nat.add_sub_cancel_left, set_app_off r k (by simpa using e) hl hd]

/-- The items go on. -/
structure Grow (I J : SH) : Prop where
  le : I.length ≤ J.length
  ofs : ∀ k, k ≤ I.length → Am.ofs J k = Am.ofs I k
theorem Grow.refl (I : SH) : Grow I I := ⟨Nat.le_refl _, fun _ _ => rfl⟩
theorem Grow.trans {I J K : SH} (a : Grow I J) (b : Grow J K) : Grow I K := ⟨Nat.le_trans a.le b.le, fun k hk => (b.ofs k (Nat.le_trans hk a.le)).trans (a.ofs k hk)⟩
theorem Grow.app (I J : SH) : Grow I (I ++ J) := ⟨by simp, fun k hk => off_app J I k hk⟩
theorem Grow.set {I : SH} {j : Nat} {x y : It} (e : I[j]? = some x) (hl : y.len = x.len) : Grow I (I.set j y) := ⟨by simp, fun k _ => off_set I j e hl k⟩

structure Good (t : SFr) (I : SH) : Prop where
  t : t.all (bndV I.length) = true
  h : I.all (It.bnd I.length) = true
theorem Grow.denV {I J : SH} (g : Grow I J) (v : SV) (hb : bndV I.length v = true) : denV (Am.ofs J) v = denV (Am.ofs I) v := denV_congr (n := I.length) (fun k hk => g.ofs k (by omega)) v hb
theorem Grow.denF {I J : SH} (g : Grow I J) {t : SFr} (ht : t.all (bndV I.length) = true) : denF J t = denF I t := map_congr_all (fun v => g.denV v) ht
theorem Grow.good {I J : SH} (g : Grow I J) {t : SFr} (ht : t.all (bndV I.length) = true) (hJ : J.all (It.bnd J.length) = true) : Good t J := ⟨all_up (bndV_up g.le) ht, hJ⟩
theorem denH_app {I J : SH} (hI : I.all (It.bnd I.length) = true) : denH (I ++ J) = denH I ++ denL (ofs (I ++ J)) J := by
  unfold denH
  rw [denL_app]
  congr 1
  exact denL_congr (n := I.length) (fun k hk => off_app J I k (by omega)) I hI

/-! ### Frames -/
def evS (t : SFr) : Operand → SV
  | .tmp i => t.getD i sund
  | .const v => .raw v
  | .func f => .raw (.func (.func f) #[] #[])
  | .global _ => sund
theorem ev_denF (I : SH) (t : SFr) (o : Operand) : ev (denF I t) o = denV (ofs I) (evS t o) := by
  cases o with
  | tmp i =>
    simp only [ev, evS, denF, List.getD, List.getElem?_map]
    cases t[i]? <;> rfl
  | _ => rfl
theorem evS_bnd {t : SFr} {n : Nat} (h : t.all (bndV n) = true) (o : Operand) : bndV n (evS t o) = true := by
  cases o with
  | tmp i =>
    simp only [evS, List.getD]
    cases hi : t[i]? with
    | none => rfl
    | some v => exact List.all_eq_true.1 h v (List.mem_of_getElem? hi)
  | _ => rfl
def isRaw : SV → Bool
  | .raw _ => true
  | _ => false
def rawOf : SV → Value
  | .raw v => v
  | _ => undef
def rt (t : SFr) : Fr := t.map rawOf
theorem ev_rt {I : SH} {t : SFr} {o : Operand} (h : isRaw (evS t o) = true) : ev (rt t) o = ev (denF I t) o := by
  rw [ev_denF]
  cases o with
  | tmp i =>
    simp only [ev, evS, rt, List.getD, List.getElem?_map] at h ⊢
    cases hi : t[i]? with
    | none => rfl
    | some v =>
      rw [hi] at h
      cases v <;> first | rfl | cases h
  | _ => rfl

def isC : SV → Bool
  | .agg _ | .tup _ => false
  | _ => true
def isA : SV → Bool
  | .tup _ => false
  | _ => true
theorem isC_den {f : Nat → Nat} {v : SV} (h : isC v = true) : denV f v = den0 f v := by cases v <;> first | rfl | cases h
theorem isA_den {f : Nat → Nat} {v : SV} (h : isA v = true) : denV f v = denA f v := by cases v <;> first | rfl | cases h
def mkAgg (l : List SV) : SV := if l.all isRaw then .raw (.agg ⟨l.map rawOf⟩) else .agg l
theorem mkAgg_den (f : Nat → Nat) (l : List SV) : denV f (mkAgg l) = .agg ⟨l.map (den0 f)⟩ := by
  unfold mkAgg
  split
  · rename_i h
    have : l.map rawOf = l.map (den0 f) := map_congr_all (p := isRaw) (fun v hv => by cases v <;> first | rfl | cases hv) h
    simp only [denV, denA, den0, this]
  · rfl
def noTupS : SV → Bool
  | .raw v => noTup v
  | .tup _ => false
  | _ => true
def cellsS : SV → List SV
  | .raw v => v.cells.toList.map .raw
  | .agg l => l
  | .tup _ => []
  | v => [v]
theorem map_raw (f : Nat → Nat) (l : List Value) : (l.map SV.raw).map (den0 f) = l := by
  rw [List.map_map]
  exact List.map_id'' (fun _ => rfl) l
theorem noTup_den {f : Nat → Nat} {v : SV} (h : noTupS v = true) : noTup (denV f v) = true ∧ (denV f v).cells.toList = (cellsS v).map (den0 f) := by
  cases v with
  | raw v => exact ⟨h, (map_raw f _).symm⟩
  | tup l => cases h
  | _ => exact ⟨rfl, rfl⟩
theorem cellsS_bnd {n : Nat} {v : SV} (h : bndV n v = true) : (cellsS v).all (bnd0 n) = true := by
  cases v with
  | raw v =>
    simp only [cellsS, List.all_map]
    exact List.all_eq_true.2 fun x _ => rfl
  | agg l => exact h
  | tup l => rfl
  | ptr k o => simpa [cellsS, bndV, bndA] using h
  | sl k o n c => simpa [cellsS, bndV, bndA] using h

def setL {α : Type} (cs : List α) (o : Nat) (vs : List α) : List α := cs.take o ++ (vs ++ cs.drop (o + vs.length))
theorem setL_map {α β : Type} (f : α → β) (cs : List α) (o : Nat) (vs : List α) : (setL cs o vs).map f = setL (cs.map f) o (vs.map f) := by
  simp [setL, List.map_take, List.map_drop]
theorem setR_eq (cs : List Value) (o : Nat) (vs : List Value) : setR cs o vs = setL cs o vs := rfl

def fillS (cells : List SV) : List (Nat × Nat × SV) → Option (List SV)
  | [] => some cells
  | (o, n, v) :: r => if noTupS v = true ∧ (cellsS v).length = n ∧ o + n ≤ cells.length then fillS (setL cells o (cellsS v)) r else none
def evpsS (t : SFr) (ps : List (Nat × Nat × Operand)) : List (Nat × Nat × SV) := ps.map fun p => (p.1, p.2.1, evS t p.2.2)
theorem fillS_ok {I : SH} {t : SFr} : ∀ (ps : List (Nat × Nat × Operand)) (cells l : List SV), fillS cells (evpsS t ps) = some l → fillA (cells.map (den0 (ofs I))) (evps (denF I t) ps) = some (l.map (den0 (ofs I)))
  | [], cells, l, e => by cases e; rfl
  | (o, n, x) :: r, cells, l, e => by
    simp only [evpsS, List.map_cons, fillS] at e
    split at e
    · rename_i hc
      obtain ⟨h1, h2, h3⟩ := hc
      obtain ⟨k1, k2⟩ := noTup_den (f := ofs I) h1
      simp only [evps, List.map_cons, fillA, ev_denF, k1, k2, List.length_map, h2, h3, true_and, if_true]
      rw [setR_eq, ← setL_map]
      have := fillS_ok (I := I) r _ l e
      simp only [evps, ev_denF] at this
      exact this
    · cases e

/-! ### Operations that leave the heap -/
def rawO (t : SFr) : Option Operand → Option (Option Value)
  | none => some none
  | some o => match evS t o with
    | .raw v => some (some v)
    | _ => none
def specS (k : IK) (t : SFr) (I : SH) : Option SV :=
  match k with
  | .mov x => some (evS t x)
  | .nilck x => match evS t x with
    | .ptr k o => some (.ptr k o)
    | _ => none
  | .load x n => match evS t x with
    | .ptr k o => match I[k]? with
      | some (.blk _ cs) => match n with
        | none => match cs[o]? with
          | some v => if isC v then some v else none
          | none => none
        | some n => if o + n ≤ cs.length then some (mkAgg ((cs.drop o).take n)) else none
      | _ => none
    | _ => none
  | .fadr d x => match evS t x with
    | .ptr k o => some (.ptr k (o + d))
    | _ => none
  | .iadr esz a x i => match evS t x, a, evS t i with
    | .ptr k o, some n, .raw (.int _ i) => if 0 ≤ i ∧ i < n then some (.ptr k (o + i.toNat * esz)) else none
    | .sl k o n _, none, .raw (.int _ i) => if 0 ≤ i ∧ i < n then some (.ptr k (o + i.toNat * esz)) else none
    | _, _, _ => none
  | .fld d n x => match evS t x, n with
    | .agg l, none => match l[d]? with
      | some v => if isC v then some v else none
      | none => none
    | .agg l, some n => if d + n ≤ l.length then some (mkAgg ((l.drop d).take n)) else none
    | _, _ => none
  | .ext i x => match evS t x with
    | .tup l => match l[i]? with
      | some v => if isA v then some v else none
      | none => none
    | _ => none
  | .len x => match evS t x with
    | .sl _ _ n _ => some (.raw (.int .i64 n))
    | _ => none
  | .build z ps => match fillS (z.map .raw) (evpsS t ps) with
    | some l => some (mkAgg l)
    | none => none
  | .eqv neg .ptr x y => match evS t x, evS t y with
    | .ptr _ _, .raw (.pointer none) => some (.raw (.bool (if neg then !false else false)))
    | .raw (.pointer none), .ptr _ _ => some (.raw (.bool (if neg then !false else false)))
    | _, _ => none
  | .eqv neg .slc x y => match evS t x, evS t y with
    | .sl _ _ _ _, .raw (.slice none _ _) => some (.raw (.bool (if neg then !false else false)))
    | .raw (.slice none _ _), .sl _ _ _ _ => some (.raw (.bool (if neg then !false else false)))
    | _, _ => none
  | .slarr esz n x lo hi => match evS t x, rawO t lo, rawO t hi with
    | .ptr k o, some lo, some hi => match hiB n n hi with
      | some e => match loB e lo with
        | some l => some (.sl k (if n = l then o else o + l * esz) (e - l) (n - l))
        | none => none
      | none => none
    | _, _, _ => none
  | .slice esz x lo hi none => match evS t x, rawO t lo, rawO t hi with
    | .sl k o len cap, some lo, some hi => match hiB len cap hi with
      | some e => match loB e lo with
        | some l => match I[k]? with
          | some (.blk .fix _) => some (.sl k (if cap = l then o else o + l * esz) (e - l) (cap - l))
          | some (.blk (.grown g) cs) => if g = esz ∧ 0 < esz then some (.sl k (if cap = l ∧ (o + cap * esz == cs.length) = false then o else o + l * esz) (e - l) (cap - l)) else none
          | _ => none
        | none => none
      | none => none
    | _, _, _ => none
  | _ => none
def pureS (k : IK) (t : SFr) (I : SH) : Option SV :=
  match specS k t I with
  | some v => some v
  | none => if heapFree k && (opnds k).all fun o => isRaw (evS t o) then match pureA k (rt t) [] with
      | some v => some (.raw v)
      | none => none
    else none

theorem rd_item {I : SH} {k : Nat} {kd : Kind} {cs : List SV} (e : I[k]? = some (.blk kd cs)) : rd (denH I) (ofs I k) = some ⟨kd, cs.map (den0 (ofs I))⟩ := by
  have := get_app_off (f := ofs I) I k e rfl
  unfold rd denH
  rw [this]
theorem rawO_ok {I : SH} {t : SFr} {x : Option Operand} {v : Option Value} (e : rawO t x = some v) : x.map (ev (denF I t)) = v := by
  cases x with
  | none => cases e; rfl
  | some o =>
    simp only [rawO] at e
    split at e
    · rename_i u hu
      cases e
      simp only [Option.map_some, ev_denF, hu]; rfl
    · cases e
theorem add_off (b o d : Nat) : (Addr.mk b o none).add d = ⟨b, o + d, none⟩ := by
  unfold Addr.add
  split
  · rename_i h; subst h; rfl
  · rfl

theorem specS_ok {k : IK} {t : SFr} {I : SH} {v : SV} (e : specS k t I = some v) : effK k = false ∧ pureA k (denF I t) (denH I) = some (denV (ofs I) v) := by
  unfold specS at e
  split at e
  · cases e; exact ⟨rfl, by simp only [pureA, ev_denF]⟩
  · rename_i x
    split at e
    · rename_i k o h
      cases e
      exact ⟨rfl, by simp only [pureA, ev_denF, h]; rfl⟩
    · cases e
  · rename_i x n
    refine ⟨rfl, ?_⟩
    split at e
    · rename_i k o h
      split at e
      · rename_i kd cs hI
        have hr := rd_item hI
        split at e
        · split at e
          · rename_i v' hv
            split at e
            · rename_i hc
              cases e
              simp only [pureA, ev_denF, h, denV, denA, den0, read1, hr, List.getElem?_map, hv, Option.map_some]
              exact congrArg some (isC_den hc).symm
            · cases e
          · cases e
        · rename_i n
          split at e
          · rename_i hle
            cases e
            simp only [pureA, ev_denF, h, denV, denA, den0, readN, hr, List.length_map, hle, if_true]
            rw [← List.map_drop, ← List.map_take]
            exact congrArg some (mkAgg_den _ _).symm
          · cases e
      · cases e
    · cases e
  · rename_i d x
    split at e
    · rename_i k o h
      cases e
      exact ⟨rfl, by simp only [pureA, ev_denF, h]; rfl⟩
    · cases e
  · rename_i esz a x i
    refine ⟨rfl, ?_⟩
    split at e
    · rename_i k o n ik i hx hi
      split at e
      · rename_i hc
        cases e
        simp only [pureA, ev_denF, hx, hi, denV, denA, den0, hc, and_self, if_true]
      · cases e
    · rename_i k o n c ik i hx hi
      split at e
      · rename_i hc
        cases e
        simp only [pureA, ev_denF, hx, hi, denV, denA, den0, hc, and_self, if_true]
      · cases e
    · cases e
  · rename_i d n x
    refine ⟨rfl, ?_⟩
    split at e
    · rename_i l h
      split at e
      · rename_i v' hv
        split at e
        · rename_i hc
          cases e
          simp only [pureA, ev_denF, h, denV, denA, List.getElem?_map, hv, Option.map_some]
          exact congrArg some (isC_den hc).symm
        · cases e
      · cases e
    · rename_i l n h
      split at e
      · rename_i hle
        cases e
        simp only [pureA, ev_denF, h, denV, denA, List.length_map, hle, if_true]
        rw [← List.map_drop, ← List.map_take]
        exact congrArg some (mkAgg_den _ _).symm
      · cases e
    · cases e
  · rename_i i x
    refine ⟨rfl, ?_⟩
    split at e
    · rename_i l h
      split at e
      · rename_i v' hv
        split at e
        · rename_i hc
          cases e
          simp only [pureA, ev_denF, h, denV, List.getElem?_map, hv, Option.map_some]
          exact congrArg some (isA_den hc).symm
        · cases e
      · cases e
    · cases e
  · rename_i x
    split at e
    · rename_i k o n c h
      cases e
      exact ⟨rfl, by simp only [pureA, ev_denF, h]; rfl⟩
    · cases e
  · rename_i z ps
    refine ⟨rfl, ?_⟩
    split at e
    · rename_i l hl
      cases e
      have := fillS_ok (I := I) ps _ l hl
      rw [map_raw] at this
      simp only [pureA, this]
      exact congrArg some (mkAgg_den _ _).symm
    · cases e
  · rename_i neg x y
    refine ⟨rfl, ?_⟩
    split at e
    · rename_i k o hx hy
      cases e
      simp only [pureA, ev_denF, hx, hy]; rfl
    · rename_i k o hx hy
      cases e
      simp only [pureA, ev_denF, hx, hy]; rfl
    · cases e
  · rename_i neg x y
    refine ⟨rfl, ?_⟩
    split at e
    · rename_i k o n c a b hx hy
      cases e
      simp only [pureA, ev_denF, hx, hy]; rfl
    · rename_i a b k o n c hx hy
      cases e
      simp only [pureA, ev_denF, hx, hy]; rfl
    · cases e
  · rename_i esz n x lo hi
    refine ⟨rfl, ?_⟩
    split at e
    · rename_i k o lo hi hx hlo hhi
      split at e
      · rename_i e1 he
        split at e
        · rename_i l hl
          cases e
          simp only [pureA, ev_denF, hx, denV, denA, den0, rawO_ok hlo, rawO_ok hhi, slarrA, he, hl, add_off]
          split <;> rfl
        · cases e
      · cases e
    · cases e
  · rename_i esz x lo hi
    refine ⟨rfl, ?_⟩
    split at e
    · rename_i k o len cap lo hi hx hlo hhi
      split at e
      · rename_i e1 he
        split at e
        · rename_i l hl
          split at e
          · rename_i cs hI
            cases e
            have hr := rd_item hI
            simp only [pureA, ev_denF, hx, denV, denA, den0, rawO_ok hlo, rawO_ok hhi, sliceA, he, hl, Option.map_none, isEnd, hr, add_off, and_true]
            split <;> rfl
          · rename_i g cs hI
            split at e
            · rename_i hg
              cases e
              have hr := rd_item hI
              simp only [pureA, ev_denF, hx, denV, denA, den0, rawO_ok hlo, rawO_ok hhi, sliceA, he, hl, Option.map_none, isEnd, hr, add_off, hg, and_self, if_true, List.length_map]
              split <;> rfl
            · cases e
          · cases e
        · cases e
      · cases e
    · cases e
  · cases e

theorem pureS_ok {Γ : Env} {k : IK} {t : SFr} {I : SH} {v : SV} (e : pureS k t I = some v) : opA Γ k (denF I t) (denH I) = some (denV (ofs I) v, denH I) := by
  unfold pureS at e
  split at e
  · rename_i v' h
    cases e
    obtain ⟨h1, h2⟩ := specS_ok h
    rw [opA_pure h1, h2]
  · split at e
    · rename_i hc
      simp only [Bool.and_eq_true, List.all_eq_true] at hc
      split at e
      · rename_i u hu
        cases e
        have hp : effK k = false := by cases k <;> first | rfl | cases hc.1
        have h1 : opA Γ k (rt t) [] = some (u, []) := by rw [opA_pure hp, hu]
        rw [opA_congr fun o ho => ev_rt (I := I) (hc.2 o ho)] at h1
        exact (opA_free hc.1 h1).2
      · cases e
    · cases e

/-! ### Operations that turn the heap -/
def effS (k : IK) (t : SFr) (I : SH) : Option (SV × SH) :=
  match k with
  | .box x => if noTupS (evS t x) then some (.ptr I.length 0, I ++ [.blk .fix (cellsS (evS t x))]) else none
  | .alloc z => some (.ptr I.length 0, I ++ [.blk .fix (z.map .raw)])
  | .mkrow z len ps => match fillS (z.map .raw) (evpsS t ps) with
    | some l => some (.sl I.length 0 len len, I ++ [.blk .fix l])
    | none => none
  | .store x v n => match evS t x with
    | .ptr k o => match I[k]? with
      | some (.blk kd cs) => if kd ≠ .ro ∧ noTupS (evS t v) = true ∧ (cellsS (evS t v)).length = n ∧ o + n ≤ cs.length then some (sund, I.set k (.blk kd (setL cs o (cellsS (evS t v))))) else none
      | _ => none
    | _ => none
  | .append esz eby s x => match evS t s, evS t x with
    | .raw (.slice none len cap), .sl k o n _ => match I[k]? with
      | some (.blk _ cs) => if len = 0 ∧ cap = 0 ∧ n ≠ 0 ∧ 0 < esz ∧ n * eby ≤ 1099511627776 ∧ n ≤ 1099511627776 ∧ o + n * esz ≤ cs.length then
          some (.sl I.length 0 n n, I ++ [.blk (.grown esz) ((cs.drop o).take (n * esz))]) else none
      | _ => none
    | .sl j 0 len cap, .sl k o n _ => match I[j]?, I[k]? with
      | some (.blk (.grown g) old), some (.blk _ cs) => if g = esz ∧ len = cap ∧ n ≠ 0 ∧ 0 < esz ∧ (len + n) * eby ≤ 1099511627776 ∧ len + n ≤ 1099511627776 ∧ o + n * esz ≤ cs.length ∧ old.length = len * esz then
          some (.sl I.length 0 (len + n) (len + n), I.set j (.raw none) ++ [.blk (.grown esz) (old ++ (cs.drop o).take (n * esz))]) else none
      | _, _ => none
    | _, _ => none
  | _ => none

theorem all_take {α : Type} {p : α → Bool} {l : List α} (h : l.all p = true) (n : Nat) : (l.take n).all p = true := by
  rw [List.all_eq_true] at h ⊢
  exact fun x hx => h x (List.mem_of_mem_take hx)
theorem all_drop {α : Type} {p : α → Bool} {l : List α} (h : l.all p = true) (n : Nat) : (l.drop n).all p = true := by
  rw [List.all_eq_true] at h ⊢
  exact fun x hx => h x (List.mem_of_mem_drop hx)
theorem item_bnd {I : SH} {n k : Nat} {kd : Kind} {cs : List SV} (h : I.all (It.bnd n) = true) (e : I[k]? = some (.blk kd cs)) : cs.all (bnd0 n) = true :=
  List.all_eq_true.1 h (.blk kd cs) (List.mem_of_getElem? e)
theorem fillS_bnd {n : Nat} : ∀ (ps : List (Nat × Nat × SV)) (cells l : List SV), fillS cells ps = some l → cells.all (bnd0 n) = true → (∀ p ∈ ps, bndV n p.2.2 = true) → l.all (bnd0 n) = true
  | [], cells, l, e, h, _ => by cases e; exact h
  | (o, m, v) :: r, cells, l, e, h, hp => by
    simp only [fillS] at e
    split at e
    · refine fillS_bnd r _ l e ?_ fun p hm => hp p (by simp [hm])
      simp only [setL, List.all_append, Bool.and_eq_true]
      exact ⟨all_take h _, cellsS_bnd (hp (o, m, v) (by simp)), all_drop h _⟩
    · cases e
theorem new_blk {I : SH} {i : It} (hI : I.all (It.bnd I.length) = true) (hi : i.bnd I.length = true) : denH (I ++ [i]) = denH I ++ i.den (ofs I) ∧ ofs (I ++ [i]) I.length = (denH I).length := by
  refine ⟨?_, ?_⟩
  · rw [denH_app hI]
    simp only [denL, List.append_nil]
    rw [It.den_congr (n := I.length) (fun k hk => off_app [i] I k (by omega)) i hi]
  · rw [off_app _ _ _ (Nat.le_refl _), denH_len]
theorem raws_bnd (n : Nat) (z : List Value) : (z.map SV.raw).all (bnd0 n) = true := by
  rw [List.all_map]
  exact List.all_eq_true.2 fun _ _ => rfl

theorem effS_ok {Γ : Env} {k : IK} {t : SFr} {I I' : SH} {v : SV} (e : effS k t I = some (v, I')) (G : Good t I) : opA Γ k (denF I t) (denH I) = some (denV (ofs I') v, denH I') ∧ Grow I I' := by
  unfold effS at e
  split at e
  · rename_i x
    split at e
    · rename_i hx
      cases e
      obtain ⟨k1, k2⟩ := noTup_den (f := ofs I) hx
      obtain ⟨n1, n2⟩ := new_blk (i := .blk .fix (cellsS (evS t x))) G.h (cellsS_bnd (evS_bnd G.t x))
      refine ⟨?_, .app _ _⟩
      have hp : denV (ofs (I ++ [.blk .fix (cellsS (evS t x))])) (.ptr I.length 0) = .pointer (some ⟨(denH I).length, 0, none⟩) := by simp only [denV, denA, den0, n2]
      rw [hp]
      simp only [opA, ev_denF, k1, if_true, k2, n1]; rfl
    · cases e
  · rename_i z
    cases e
    obtain ⟨n1, n2⟩ := new_blk (i := .blk .fix (z.map .raw)) G.h (raws_bnd _ z)
    refine ⟨?_, .app _ _⟩
    simp only [opA, n1, denV, denA, den0, n2, It.den, map_raw]
  · rename_i z len ps
    split at e
    · rename_i l hl
      cases e
      have h1 := fillS_ok (I := I) ps _ l hl
      rw [map_raw] at h1
      obtain ⟨n1, n2⟩ := new_blk (i := .blk .fix l) G.h (fillS_bnd _ _ l hl (raws_bnd _ z) fun p hp => by
        simp only [evpsS, List.mem_map] at hp
        obtain ⟨q, _, rfl⟩ := hp
        exact evS_bnd G.t _)
      refine ⟨?_, .app _ _⟩
      simp only [opA, h1, n1, denV, denA, den0, n2, It.den]
    · cases e
  · rename_i x u n
    split at e
    · rename_i k o hx
      split at e
      · rename_i kd cs hI
        split at e
        · rename_i hc
          cases e
          obtain ⟨c1, c2, c3, c4⟩ := hc
          obtain ⟨k1, k2⟩ := noTup_den (f := ofs I) c2
          have hr := rd_item hI
          have hg : Grow I (I.set k (.blk kd (setL cs o (cellsS (evS t u))))) := .set hI rfl
          refine ⟨?_, hg⟩
          have hd : denH (I.set k (.blk kd (setL cs o (cellsS (evS t u))))) = (denH I).set (ofs I k) (some ⟨kd, setR (cs.map (den0 (ofs I))) o ((cellsS (evS t u)).map (den0 (ofs I)))⟩) := by
            unfold denH
            rw [show ofs (I.set k (.blk kd (setL cs o (cellsS (evS t u))))) = ofs I from funext fun j => off_set (y := .blk kd (setL cs o (cellsS (evS t u)))) I k hI rfl j]
            rw [set_app_off I k hI rfl (b := some ⟨kd, setR (cs.map (den0 (ofs I))) o ((cellsS (evS t u)).map (den0 (ofs I)))⟩) (by simp only [It.den, setL_map, setR_eq])]
          have hp : ev (denF I t) x = .pointer (some ⟨ofs I k, o, none⟩) := by rw [ev_denF, hx]; rfl
          have hu : ev (denF I t) u = denV (ofs I) (evS t u) := ev_denF I t u
          simp only [opA, hp, hu, k1, k2, List.length_map, c3, and_self, if_true, writeN, hr, c1, if_false, c4, hd]
          rfl
        · cases e
      · cases e
    · cases e
  · rename_i esz eby s x
    split at e
    · rename_i len cap k o n c hs hx
      split at e
      · rename_i kd cs hI
        split at e
        · rename_i hc
          cases e
          obtain ⟨rfl, rfl, c1, c2, c3, c4, c5⟩ := hc
          have hr := rd_item hI
          obtain ⟨n1, n2⟩ := new_blk (i := .blk (.grown esz) ((cs.drop o).take (n * esz))) G.h (all_take (all_drop (item_bnd G.h hI) _) _)
          refine ⟨?_, .app _ _⟩
          simp only [opA, ev_denF, hs, hx, denV, denA, den0, appA, srcA, readN, hr, List.length_map, c5, if_true, c1, if_false, c2, c3, c4, and_self, n1, n2, It.den, List.map_take, List.map_drop]
        · cases e
      · cases e
    · rename_i j len cap k o n c hs hx
      split at e
      · rename_i g old kd cs hJ hI
        split at e
        · rename_i hc
          cases e
          obtain ⟨rfl, rfl, c1, c2, c3, c4, c5, c6⟩ := hc
          have hr := rd_item hI
          have hq := rd_item hJ
          have hset : Grow I (I.set j (.raw none)) := .set hJ rfl
          have hb : (I.set j (.raw none)).all (It.bnd (I.set j (.raw none)).length) = true := by
            rw [List.length_set]
            refine List.all_eq_true.2 fun i hi => ?_
            rcases List.mem_or_eq_of_mem_set hi with q | q
            · exact List.all_eq_true.1 G.h i q
            · subst q; rfl
          obtain ⟨n1, n2⟩ := new_blk (i := .blk (.grown g) (old ++ (cs.drop o).take (n * g))) hb (by
            rw [List.length_set]
            simp only [It.bnd, List.all_append, Bool.and_eq_true]
            exact ⟨item_bnd G.h hJ, all_take (all_drop (item_bnd G.h hI) _) _⟩)
          have hoff : ofs (I.set j (.raw none)) = ofs I := funext fun q => off_set (y := .raw none) I j hJ rfl q
          have hd : denH (I.set j (.raw none)) = (denH I).set (ofs I j) none := by
            unfold denH
            rw [hoff, set_app_off I j hJ rfl (b := none) rfl]
          rw [hd, hoff] at n1
          rw [hd, List.length_set, List.length_set] at n2
          refine ⟨?_, hset.trans (.app _ _)⟩
          have hlt : ¬ (len + n ≤ len) := by omega
          simp only [opA, ev_denF, hs, hx, denV, denA, den0, appA, srcA, readN, isEnd, hr, hq, List.length_map, c5, if_true, c1, if_false, hlt, c2, c3, c4, and_self, n1, n2, It.den, Nat.zero_add, c6, Nat.le_refl, beq_self_eq_true,
            List.map_append, List.map_take, List.map_drop, List.drop_zero]
          rw [show (old.map (den0 (ofs I))).take (len * g) = old.map (den0 (ofs I)) from by rw [List.take_of_length_le (by rw [List.length_map, c6]; exact Nat.le_refl _)]]
        · cases e
      · cases e
    · cases e
  · cases e
end Go.Am
