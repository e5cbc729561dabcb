/-
  Bytes of whole numbers, in plain Lean: their value, their order.
-/
import Derived.Test.YtgdojnamjkhknaaWFn
import Derived.Test.YtgdojnamjkhknaaLcA
namespace Go.Proofs.Ytgdojnamjkhknaa
open Go.Am
set_option linter.all false
namespace WB
theorem loop_eq (bs : ByteArray) : ∀ (n i : Nat) (r : List UInt8), bs.size - i = n → ByteArray.toList.loop bs i r = r.reverse ++ bs.data.toList.drop i := by
  intro n
  induction n with
  | zero =>
    intro i r h
    rw [ByteArray.toList.loop]
    have h1 : ¬ i < bs.size := by omega
    rw [if_neg h1, List.drop_of_length_le (by have : bs.data.toList.length = bs.size := rfl; omega), List.append_nil]
  | succ n ih =>
    intro i r h
    rw [ByteArray.toList.loop]
    have h1 : i < bs.size := by omega
    rw [if_pos h1, ih (i + 1) _ (by omega)]
    have h2 : i < bs.data.toList.length := h1
    rw [List.drop_eq_getElem_cons h2]
    have : bs.get! i = bs.data.toList[i] := by
      have : bs.get! i = bs.data[i]! := rfl
      rw [this, getElem!_pos bs.data i h1]; simp
    simp [this]
theorem toList_eq (l : List UInt8) : (ByteArray.mk ⟨l⟩).toList = l := by
  unfold ByteArray.toList
  rw [loop_eq _ _ 0 [] rfl]
  simp
def u8 (z : Int) : UInt8 := UInt8.ofNat z.toNat
def str (zs : List Int) : ByteArray := ⟨⟨zs.map u8⟩⟩
theorem str_size (zs : List Int) : (str zs).size = zs.length := by simp [str, ByteArray.size]
theorem u8_lt {a b : Int} (ha : InB a) (hb : InB b) : (u8 a < u8 b) ↔ a < b := by
  obtain ⟨a1, a2⟩ := ha
  obtain ⟨b1, b2⟩ := hb
  rw [UInt8.lt_iff_toNat_lt]
  simp only [u8, UInt8.toNat_ofNat']
  rw [Nat.mod_eq_of_lt (by omega), Nat.mod_eq_of_lt (by omega)]
  omega
theorem u8_eq {a b : Int} (ha : InB a) (hb : InB b) : (u8 a = u8 b) ↔ a = b := by
  obtain ⟨a1, a2⟩ := ha
  obtain ⟨b1, b2⟩ := hb
  refine ⟨fun h => ?_, fun h => by rw [h]⟩
  have := congrArg UInt8.toNat h
  simp only [u8, UInt8.toNat_ofNat'] at this
  rw [Nat.mod_eq_of_lt (by omega), Nat.mod_eq_of_lt (by omega)] at this
  omega
/-- The value of bytes, the greatest first. -/
def val : List Int → Int
  | [] => 0
  | x :: r => x * 256 ^ r.length + val r
theorem pow_pos' (n : Nat) : (0 : Int) < 256 ^ n := Int.pow_pos (by decide)
theorem val_range : ∀ {l : List Int}, (∀ x ∈ l, InB x) → 0 ≤ val l ∧ val l < 256 ^ l.length
  | [], _ => by simp [val]
  | x :: r, h => by
    obtain ⟨h1, h2⟩ := val_range (l := r) fun y hy => h y (by simp [hy])
    obtain ⟨x1, x2⟩ := h x (by simp)
    have hp := pow_pos' r.length
    have hn : 0 ≤ x * 256 ^ r.length := Int.mul_nonneg x1 (by omega)
    have hm : x * 256 ^ r.length ≤ 255 * 256 ^ r.length := Int.mul_le_mul_of_nonneg_right (by omega) (by omega)
    simp only [val, List.length_cons]
    have e : (256 : Int) ^ (r.length + 1) = 256 * 256 ^ r.length := by rw [Int.pow_succ]; omega
    rw [e]
    constructor <;> omega
theorem less_val : ∀ {a b : List Int}, a.length = b.length → (∀ x ∈ a, InB x) → (∀ x ∈ b, InB x) → (Op.bytesLess (a.map u8) (b.map u8) = true ↔ val a < val b)
  | [], [], _, _, _ => by simp [Op.bytesLess, val]
  | x :: r, y :: s, hl, ha, hb => by
    have hl' : r.length = s.length := by simpa using hl
    have ih := less_val (a := r) (b := s) hl' (fun z hz => ha z (by simp [hz])) fun z hz => hb z (by simp [hz])
    have hx := ha x (by simp)
    have hy := hb y (by simp)
    have v1 := val_range (l := r) fun z hz => ha z (by simp [hz])
    have v2 := val_range (l := s) fun z hz => hb z (by simp [hz])
    have hp := pow_pos' s.length
    simp only [List.map_cons, Op.bytesLess, Bool.or_eq_true, decide_eq_true_eq, Bool.and_eq_true, beq_iff_eq, u8_lt hx hy, u8_eq hx hy, ih, val, hl']
    rw [hl'] at v1
    generalize (256 : Int) ^ s.length = p at *
    constructor
    · rintro (h | ⟨rfl, h⟩)
      · have : (x + 1) * p ≤ y * p := Int.mul_le_mul_of_nonneg_right (by omega) (by omega)
        rw [Int.add_mul, Int.one_mul] at this
        omega
      · omega
    · intro h
      rcases Int.lt_trichotomy x y with q | q | q
      · exact .inl q
      · subst q; exact .inr ⟨rfl, by omega⟩
      · have : (y + 1) * p ≤ x * p := Int.mul_le_mul_of_nonneg_right (by omega) (by omega)
        rw [Int.add_mul, Int.one_mul] at this
        omega
theorem val_inj : ∀ {a b : List Int}, a.length = b.length → (∀ x ∈ a, InB x) → (∀ x ∈ b, InB x) → val a = val b → a = b
  | [], [], _, _, _, _ => rfl
  | x :: r, y :: s, hl, ha, hb, he => by
    have hl' : r.length = s.length := by simpa using hl
    have v1 := val_range (l := r) fun z hz => ha z (by simp [hz])
    have v2 := val_range (l := s) fun z hz => hb z (by simp [hz])
    have hp := pow_pos' s.length
    simp only [val, hl'] at he
    rw [hl'] at v1
    have hxy : x = y := by
      generalize (256 : Int) ^ s.length = p at *
      rcases Int.lt_trichotomy x y with q | q | q
      · have : (x + 1) * p ≤ y * p := Int.mul_le_mul_of_nonneg_right (by omega) (by omega)
        rw [Int.add_mul, Int.one_mul] at this
        omega
      · exact q
      · have : (y + 1) * p ≤ x * p := Int.mul_le_mul_of_nonneg_right (by omega) (by omega)
        rw [Int.add_mul, Int.one_mul] at this
        omega
    subst hxy
    rw [val_inj hl' (fun z hz => ha z (by simp [hz])) (fun z hz => hb z (by simp [hz])) (by omega)]
/-- A number's lowest digits. -/
def dg : Nat → Int → List Int
  | 0, _ => []
  | n + 1, z => (z / 256 ^ n) % 256 :: dg n z
theorem dg_len : ∀ (n : Nat) (z : Int), (dg n z).length = n
  | 0, _ => rfl
  | n + 1, z => by simp [dg, dg_len n z]
theorem dg_in : ∀ (n : Nat) (z : Int), ∀ x ∈ dg n z, InB x
  | 0, _ => fun x h => by cases h
  | n + 1, z => fun x h => by
    rcases List.mem_cons.1 h with rfl | h
    · exact ⟨Int.emod_nonneg _ (by decide), Int.emod_lt_of_pos _ (by decide)⟩
    · exact dg_in n z x h
theorem dg_val : ∀ (n : Nat) (z : Int), val (dg n z) = z % 256 ^ n
  | 0, z => by simp [dg, val, Int.emod_one]
  | n + 1, z => by
    simp only [dg, val, dg_len, dg_val n z, Int.pow_succ]
    have hp := pow_pos' n
    generalize (256 : Int) ^ n = p at *
    have h1 := Int.mul_ediv_add_emod z p
    have h2 := Int.mul_ediv_add_emod (z / p) 256
    have h3 := Int.emod_nonneg (z / p) (show (256 : Int) ≠ 0 by decide)
    have h4 := Int.emod_lt_of_pos (z / p) (show (0 : Int) < 256 by decide)
    have h5 := Int.emod_nonneg z (show p ≠ 0 by omega)
    have h6 := Int.emod_lt_of_pos z hp
    have hm : z / p % 256 * p ≤ 255 * p := Int.mul_le_mul_of_nonneg_right (by omega) (by omega)
    have hn : 0 ≤ z / p % 256 * p := Int.mul_nonneg h3 (by omega)
    have hz : z = (z / p % 256 * p + z % p) + p * 256 * (z / p / 256) := by
      have : p * (z / p) = p * 256 * (z / p / 256) + z / p % 256 * p := by
        conv => lhs; rw [← h2]
        rw [Int.mul_add, Int.mul_assoc, Int.mul_comm (z / p % 256) p]
      omega
    have hr : (z / p % 256 * p + z % p) % (p * 256) = z / p % 256 * p + z % p := Int.emod_eq_of_lt (by omega) (by omega)
    conv => rhs; rw [hz, Int.add_mul_emod_self_left]
    exact hr.symm
theorem wrap_u8 (x : Int) : IntKind.wrap .u8 x = x % 256 := by simp [IntKind.wrap, IntKind.bits, IntKind.signed]
theorem fdiv2 (z : Int) (k : Nat) : z.fdiv (2 ^ (8 * k)) = z / 256 ^ k := by
  rw [Int.fdiv_eq_ediv_of_nonneg _ (Int.le_of_lt (Int.pow_pos (by decide))), Int.pow_mul]
  rfl
theorem wd_dg (z : Int) : wd z = dg 8 z := by
  simp only [wd, List.map_cons, List.map_nil, dg, wrap_u8]
  have h := fun k => fdiv2 z k
  rw [← h 7, ← h 6, ← h 5, ← h 4, ← h 3, ← h 2, ← h 1, ← h 0]
theorem wd_in (z : Int) : ∀ x ∈ wd z, InB x := by rw [wd_dg]; exact dg_in 8 z
theorem wd_val (z : Int) : val (wd z) = z % 18446744073709551616 := by rw [wd_dg, dg_val]; rfl
theorem byt_in (zs : List Int) : ∀ x ∈ byt zs, InB x := fun x h => by
  obtain ⟨z, _, hz⟩ := List.mem_flatMap.1 h
  exact wd_in z x hz
theorem flat_br (zs : List Int) : (zs.map br).flatten = zs.map (Value.int .u8) := by
  induction zs with
  | nil => rfl
  | cons a l ih => simp only [List.map_cons, List.flatten_cons, ih]; rfl
theorem b2s_ok {H : Heap} {v : Value} {zs : List Int} (h : RowsW 1 H v (zs.map br)) (hz : ∀ z ∈ zs, InB z) (Γ : Env) : opA Γ (.b2s (.const v)) [] H = some (.string (str zs), H) := by
  have hs := h.src
  have fl := flat_br zs
  have hm : (zs.map (Value.int .u8)).mapM byteOf1 = some (zs.map u8) := by
    clear hs fl h hz
    induction zs with
    | nil => rfl
    | cons a l ih =>
      simp only [List.map_cons, List.mapM_cons, ih, byteOf1]; rfl
  rw [fl, List.length_map] at hs
  obtain ⟨a, c, rfl⟩ := h.slcM
  cases a with
  | none =>
    simp only [srcA] at hs
    split at hs
    · rename_i q
      have : zs = [] := List.length_eq_zero_iff.1 q
      subst this
      rfl
    · cases hs
  | some a =>
    simp only [srcA, Nat.mul_one] at hs
    split at hs
    · rename_i l hl
      simp only [Option.some.injEq, Prod.mk.injEq, true_and] at hs
      subst hs
      simp only [opA, pureA, ev, b2sA, hl, hm]; rfl
    · cases hs
end WB
end Go.Proofs.Ytgdojnamjkhknaa
