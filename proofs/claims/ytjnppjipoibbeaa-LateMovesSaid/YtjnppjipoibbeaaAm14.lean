/-
  Regions that draw their order: if they are walked in the order of the text, and nothing of it hangs on the order, every order comes to the same.
-/
import Derived.Test.YtjnppjipoibbeaaAm13
namespace Go.Am
set_option linter.all false

variable {P : Program} {ι : Map} {h : Heap} {w w' : World} {t : Fr} {a : Act}

/-! ### Which operations read the heap -/
def heapFree : IK → Bool
  | .mov _ | .pick _ _ _ | .build _ _ | .nilck _ | .bin _ _ _ | .eqv _ _ _ _ | .un _ _ | .conv _ _ | .mkfun _ _ _ | .strsl _ _ _ | .slarr _ _ _ _ _ | .fld _ _ _ | .fadr _ _ | .iadr _ _ _ _
  | .idx _ _ _ _ _ | .sidx _ _ | .ext _ _ | .len _ | .slen _ | .mn _ _ | .mx _ _ => true
  | _ => false
def isAlloc : IK → Bool
  | .box _ | .alloc _ | .mkrow _ _ _ | .mkslice _ _ _ _ _ => true
  | _ => false
/-- Operations that may turn the heap. -/
def isEff (qt : List Nat) : IK → Bool
  | .box _ | .alloc _ | .mkrow _ _ _ | .mkslice _ _ _ _ _ | .store _ _ _ | .callv _ _ | .append _ _ _ _ | .copy _ _ _ => true
  | .call f _ => !qt.contains f
  | _ => false
def isCall : IK → Bool
  | .call _ _ => true
  | _ => false

def opnds : IK → List Operand
  | .mov x | .box x | .nilck x | .un _ x | .conv _ x | .b2s x | .fld _ _ x | .fadr _ x | .ext _ x | .len x | .slen x | .load x _ => [x]
  | .pick a b c => [a, b, c]
  | .alloc _ | .bad => []
  | .build _ ps | .mkrow _ _ ps => ps.map (·.2.2)
  | .store x v _ => [x, v]
  | .bin _ x y | .eqv _ _ x y | .iadr _ _ x y | .idx _ _ _ x y | .sidx x y | .append _ _ x y | .copy _ x y | .mn x y | .mx x y | .mkslice _ _ _ x y => [x, y]
  | .mkfun _ a b => a ++ b
  | .slice _ x l h m => x :: (l.toList ++ (h.toList ++ m.toList))
  | .strsl x l h | .slarr _ _ x l h => x :: (l.toList ++ h.toList)
  | .call _ xs => xs
  | .callv x xs => x :: xs

theorem map_congr_opt {t t' : Fr} {x : Option Operand} (hx : ∀ o ∈ x.toList, ev t o = ev t' o) : x.map (ev t) = x.map (ev t') := by
  cases x with
  | none => rfl
  | some o => simp [hx o (by simp)]
theorem evps_congr {t t' : Fr} {ps : List (Nat × Nat × Operand)} (hx : ∀ o ∈ ps.map (·.2.2), ev t o = ev t' o) : evps t ps = evps t' ps := by
  unfold evps
  apply List.map_congr_left
  intro p hp
  rw [hx p.2.2 (List.mem_map.2 ⟨p, hp, rfl⟩)]

theorem opA_congr {Γ : Env} {k : IK} {t t' : Fr} (hx : ∀ o ∈ opnds k, ev t o = ev t' o) : opA Γ k t h = opA Γ k t' h := by
  cases k <;> simp only [opnds] at hx
  case build z ps => simp only [opA, pureA, evps_congr hx]
  case mkrow z n ps => simp only [opA, evps_congr hx]
  case call f xs => simp only [opA]; rw [List.map_congr_left hx]
  case callv x xs =>
    have h1 := hx x (by simp)
    have h2 : xs.map (ev t) = xs.map (ev t') := List.map_congr_left fun o ho => hx o (by simp [ho])
    simp only [opA, h1, h2]
  case mkfun fn a b =>
    have h1 : a.map (ev t) = a.map (ev t') := List.map_congr_left fun o ho => hx o (by simp [ho])
    have h2 : b.map (ev t) = b.map (ev t') := List.map_congr_left fun o ho => hx o (by simp [ho])
    simp only [opA, pureA, h1, h2]
  case slice e x l hh m =>
    have h0 := hx x (by simp)
    have h1 := map_congr_opt (x := l) fun o ho => hx o (by simp at ho ⊢; simp [ho])
    have h2 := map_congr_opt (x := hh) fun o ho => hx o (by simp at ho ⊢; simp [ho])
    have h3 := map_congr_opt (x := m) fun o ho => hx o (by simp at ho ⊢; simp [ho])
    simp only [opA, pureA, h0, h1, h2, h3]
  case strsl x l hh =>
    have h0 := hx x (by simp)
    have h1 := map_congr_opt (x := l) fun o ho => hx o (by simp at ho ⊢; simp [ho])
    have h2 := map_congr_opt (x := hh) fun o ho => hx o (by simp at ho ⊢; simp [ho])
    simp only [opA, pureA, h0, h1, h2]
  case slarr e n x l hh =>
    have h0 := hx x (by simp)
    have h1 := map_congr_opt (x := l) fun o ho => hx o (by simp at ho ⊢; simp [ho])
    have h2 := map_congr_opt (x := hh) fun o ho => hx o (by simp at ho ⊢; simp [ho])
    simp only [opA, pureA, h0, h1, h2]
  all_goals first
    | rfl
    | (have h0 := hx _ (List.mem_cons_self ..); simp only [opA, pureA, h0]; done)
    | (have h0 := hx _ (List.mem_cons_self ..); have h1 := hx _ (List.mem_cons_of_mem _ (List.mem_cons_self ..)); simp only [opA, pureA, h0, h1]; done)
    | (have h0 := hx _ (List.mem_cons_self ..); have h1 := hx _ (List.mem_cons_of_mem _ (List.mem_cons_self ..)); have h2 := hx _ (List.mem_cons_of_mem _ (List.mem_cons_of_mem _ (List.mem_cons_self ..))); simp only [opA, pureA, h0, h1, h2]; done)

theorem opA_free {Γ : Env} {k : IK} (hk : heapFree k = true) {h h1 h' : Heap} {v : Value} (e : opA Γ k t h = some (v, h')) : h' = h ∧ opA Γ k t h1 = some (v, h1) := by
  have hp : effK k = false := by cases k <;> first | rfl | cases hk
  rw [opA_pure hp] at e ⊢
  have : pureA k t h1 = pureA k t h := by cases k <;> first | rfl | cases hk
  rw [this]
  split at e
  · cases e; exact ⟨rfl, rfl⟩
  · cases e

theorem rd_more {h L : Heap} {B : Nat} {b : Blk} (e : rd h B = some b) : rd (h ++ L) B = some b := by
  have hb := rd_some e
  have : (h ++ L)[B]? = some (some b) := by
    rw [List.getElem?_append_left (List.getElem?_eq_some_iff.1 hb).1]; exact hb
  simp [rd, this]
theorem readN_more {h L : Heap} {p : Addr} {n : Nat} {l : List Value} (e : readN h p n = some l) : readN (h ++ L) p n = some l := by
  obtain ⟨B, o, s⟩ := p
  obtain ⟨rfl, b, hb, hle, rfl⟩ := readN_some e
  simp [readN, rd_more hb, hle]
theorem read1_more {h L : Heap} {p : Addr} {v : Value} (e : read1 h p = some v) : read1 (h ++ L) p = some v := by
  obtain ⟨B, o, s⟩ := p
  cases s with
  | some s => cases e
  | none =>
    simp only [read1] at e ⊢
    split at e
    · rename_i b hb; rw [rd_more hb]; exact e
    · cases e
theorem isEnd_more {h L : Heap} {esz : Nat} {p : Addr} {cap : Nat} {q : Bool} (e : isEnd h esz p cap = some q) : isEnd (h ++ L) esz p cap = some q := by
  unfold isEnd at e ⊢
  split at e
  · rename_i b hb; rw [rd_more hb]; exact e
  · cases e

theorem pureA_more {k : IK} {L : Heap} {v : Value} (e : pureA k t h = some v) : pureA k t (h ++ L) = some v := by
  cases k
  case load x n =>
    simp only [pureA] at e ⊢
    split at e
    · rename_i p hp; exact read1_more e
    · rename_i p n hp
      split at e
      · rename_i l hl; rw [readN_more hl]; exact e
      · cases e
    · cases e
  case b2s x =>
    simp only [pureA] at e ⊢
    unfold b2sA at e ⊢
    split at e
    · exact e
    · rename_i p n c hp
      split at e
      · rename_i l hl; rw [readN_more hl]; exact e
      · cases e
    · cases e
  case slice esz x l hh m =>
    simp only [pureA] at e ⊢
    unfold sliceA at e ⊢
    split at e
    · rename_i p n c hp
      split at e
      · exact e
      · split at e
        · rename_i ee he
          split at e
          · rename_i l1 hl
            split at e
            · exact e
            · rename_i p1
              split at e
              · rename_i q hq; rw [isEnd_more hq]; exact e
              · cases e
          · cases e
        · cases e
    · cases e
  all_goals exact e

end Go.Am
