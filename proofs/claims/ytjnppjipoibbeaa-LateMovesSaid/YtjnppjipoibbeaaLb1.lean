/-
  A struct of whole numbers, by value: opened, and shut at every world.
-/
import Derived.Test.YtjnppjipoibbeaaAm23
import Derived.ProofKit
import Derived.OpenShut
import Derived.Lib.SmallJoins
namespace Go.Am
set_option linter.all false
open Go.ChangeShapes Go.WideShapes Go.ChangeAt Go.RowKit
variable {H : Type} {enc : TypeId × Value → H} {P : Program} {w : World} {base : Nat} {spare : Nat → Bool} {held : Bool}

theorem mapM_of_get {α β : Type} {g : α → Option β} : ∀ (l : List α) (m : List β), l.length = m.length → (∀ (i : Nat) (a : α), l[i]? = some a → g a = m[i]?) → l.mapM g = some m
  | [], [], _, _ => rfl
  | a :: l, b :: m, hl, h => by
    have h0 : g a = some b := by simpa using h 0 a rfl
    have h1 := mapM_of_get l m (by simpa using hl) fun i x hx => by simpa using h (i + 1) x (by simpa using hx)
    simp [List.mapM_cons, h0, h1]
  | [], _ :: _, hl, _ => by simp at hl
  | _ :: _, [], hl, _ => by simp at hl

def numOf : Value → Int
  | .int _ z => z
  | _ => 0

theorem open_flat {t : TypeId} {fs : Array Field} {r : Reach} {b0 : Nat} {v : Value} {d : DataW H} {p : List MemPlace} (hs : P.underlying t = some (.struct fs))
    (hi : ∀ (i : Nat) (f : Field), fs[i]? = some f → P.underlying f.type = some (.int .i64) ∧ f.offset = i ∧ P.cellsOf f.type = 1) (hC : P.cellsOf t = fs.size)
    (hv : Value.okWide P w r b0 t v) (h : DataW.Trod enc P w base spare held t v d p) :
    ∃ zs : List Int, zs.length = fs.size ∧ v = .agg ⟨zs.map (Value.int .i64)⟩ ∧ p = [] ∧ (∀ z ∈ zs, (Lit.int .i64 z).wf = true) ∧ ∀ (w' : World) (base' : Nat) (spare' : Nat → Bool) (held' : Bool), DataW.Trod enc P w' base' spare' held' t v d [] := by
  obtain ⟨cs, rfl, hsz⟩ := okWide_struct hs hv
  obtain ⟨fuel, hf⟩ := h
  obtain ⟨xs, n, hn, hx, hl, hlen, hfld⟩ := DataW.trod_struct hs hf
  have hl' : cs.toList.length = fs.size := by simpa [Value.cells, hC] using hl
  have key : ∀ i, i < fs.size → ∃ z, cs.toList[i]? = some (.int .i64 z) ∧ xs[i]? = some (.lit (.int .i64 z), []) ∧ (Lit.int .i64 z).wf = true := by
    intro i hlt
    have hfi : fs[i]? = some fs[i] := Array.getElem?_eq_getElem hlt
    obtain ⟨u1, u2, u3⟩ := hi i _ hfi
    have h1 := hfld i _ hfi
    have hxi : xs[i]? = some xs[i] := List.getElem?_eq_getElem (by omega)
    rw [hxi] at h1
    obtain ⟨z, e1, e2, e3⟩ := DataW.trod_int u1 h1
    rw [u2, u3] at e1
    refine ⟨z, ?_, by rw [hxi, e2], e3⟩
    have : ((cs.toList.drop i).take 1)[0]? = some (Value.int .i64 z) := by
      have e1' : (cs.toList.drop i).take 1 = [.int .i64 z] := by simpa [Value.cells] using e1
      rw [e1']; rfl
    rw [List.getElem?_take] at this
    simpa using this
  have hcs : cs.toList = (cs.toList.map numOf).map (Value.int .i64) := by
    apply List.ext_getElem?
    intro i
    rcases Nat.lt_or_ge i fs.size with h1 | h1
    · obtain ⟨z, e1, _, _⟩ := key i h1
      simp only [List.getElem?_map, e1, Option.map_some, numOf]
    · rw [List.getElem?_eq_none (by omega), List.getElem?_eq_none (by simp only [List.length_map]; omega)]
  have hxs : xs = (cs.toList.map numOf).map (fun z => ((.lit (.int .i64 z), []) : DataW H × List MemPlace)) := by
    apply List.ext_getElem?
    intro i
    rcases Nat.lt_or_ge i fs.size with h1 | h1
    · obtain ⟨z, e1, e2, _⟩ := key i h1
      simp only [List.getElem?_map, e1, e2, Option.map_some, numOf]
    · rw [List.getElem?_eq_none (by omega), List.getElem?_eq_none (by simp only [List.length_map]; omega)]
  have hd : d = .agg (xs.map (·.1)) := (congrArg (·.1) hx)
  have hp : p = xs.flatMap (·.2) := (congrArg (·.2) hx)
  refine ⟨cs.toList.map numOf, by simpa using hl', ?_, ?_, ?_, ?_⟩
  · rw [← hcs]
  · rw [hp, hxs]
    induction cs.toList with
    | nil => rfl
    | cons a l ih => simpa using ih
  · intro z hz
    obtain ⟨i, hi2⟩ := List.mem_iff_getElem?.1 hz
    have hlt : i < fs.size := by
      have := (List.getElem?_eq_some_iff.1 hi2).1
      simp only [List.length_map] at this
      omega
    obtain ⟨z', e1, _, e3⟩ := key i hlt
    rw [List.getElem?_map, e1] at hi2
    simp [numOf] at hi2
    subst hi2
    exact e3
  · intro w' base' spare' held'
    have hmk := trod_struct_mk (enc := enc) (w := w') (base := base') (spare := spare') (held := held') (n := 1) (cs := cs.toList) (xs := xs) hs (by simpa [Value.cells] using hl) ?_
    · have hnil : xs.flatMap (·.2) = [] := by
        rw [hxs]
        induction cs.toList with
        | nil => rfl
        | cons a l ih => simpa using ih
      rw [hnil] at hmk
      exact ⟨2, by rw [hd]; simpa [Value.cells] using hmk⟩
    · refine mapM_of_get _ _ (by simp [hlen]) fun i f hfi => ?_
      have hfi' : fs[i]? = some f := by simpa using hfi
      have hlt : i < fs.size := (Array.getElem?_eq_some_iff.1 hfi').1
      obtain ⟨u1, u2, u3⟩ := hi i f hfi'
      obtain ⟨z, e1, e2, e3⟩ := key i hlt
      rw [e2, u2, u3]
      have : (cs.toList.drop i).take 1 = [.int .i64 z] := by
        have hlt2 : i < cs.toList.length := by omega
        rw [List.drop_eq_getElem_cons hlt2, List.take_succ_cons, List.take_zero]
        rw [List.getElem?_eq_getElem hlt2] at e1
        simp only [Option.some.injEq] at e1
        rw [e1]
      rw [this]
      exact trod_int_mk 0 u1 e3

/-! ### Structs' cells -/
def intsOf : List Value → Option (List Int)
  | [] => some []
  | .int .i64 z :: r => (intsOf r).map (z :: ·)
  | _ => none
theorem intsOf_eq : ∀ {l : List Value} {zs : List Int}, intsOf l = some zs → l = zs.map (Value.int .i64)
  | [], zs, e => by cases e; rfl
  | v :: r, zs, e => by
    unfold intsOf at e
    split at e
    · rename_i h; cases h
    · rename_i z r' h
      cases h
      cases hr : intsOf r with
      | none => rw [hr] at e; cases e
      | some ys => rw [hr] at e; cases e; rw [intsOf_eq hr]; rfl
    · cases e
def boolsOf : List Value → Option (List Bool)
  | [] => some []
  | .bool z :: r => (boolsOf r).map (z :: ·)
  | _ => none
theorem boolsOf_eq : ∀ {l : List Value} {zs : List Bool}, boolsOf l = some zs → l = zs.map Value.bool
  | [], zs, e => by cases e; rfl
  | v :: r, zs, e => by
    unfold boolsOf at e
    split at e
    · rename_i h; cases h
    · rename_i z r' h
      cases h
      cases hr : boolsOf r with
      | none => rw [hr] at e; cases e
      | some ys => rw [hr] at e; cases e; rw [boolsOf_eq hr]; rfl
    · cases e
theorem intsOf_below (n : Nat) {l : List Value} {zs : List Int} (e : intsOf l = some zs) : belowV n (.agg ⟨l⟩) = true := by
  rw [intsOf_eq e]
  simp only [belowV, belowA, List.all_map, List.all_eq_true]
  intro x _
  rfl
end Go.Am
