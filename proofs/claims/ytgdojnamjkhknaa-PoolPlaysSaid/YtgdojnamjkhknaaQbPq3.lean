/-
  ref: a tape, applied to a pool: its loop.
-/
import Derived.Test.YtgdojnamjkhknaaQbPq2
namespace Go.Proofs.Ytgdojnamjkhknaa
open Go.Am
set_option linter.all false
set_option maxRecDepth 100000
namespace PR
open PO (L5 A4 e5 e4 newL sumF wr e5_1 a0 addA mayF doneF stepF runF applyF atI atF atI_lt WF okL wr_id)
open TP.L91 (bif_t bif_f)
structure Lim (t : A4) (M : Int) : Prop where
 p0 : 0 ≤ t.p
 p1 : t.p ≤ M
 l0 : 0 ≤ t.l
 l1 : t.l ≤ M
theorem done_ok {x : L5} {y : R7} (hx : okL x) (hy : TP.lineB y = true) (hm : mayF x y = true) : okL (doneF x y).1 ∧ (doneF x y).1.a = x.a ∧ (0 ≤ (doneF x y).2.p ∧ (doneF x y).2.p ≤ 100000) ∧ (0 ≤ (doneF x y).2.l ∧ (doneF x y).2.l ≤ 100000) := by
 obtain ⟨⟨b0, b1⟩, ⟨c0, c1⟩, _, ⟨e0, e1⟩, _⟩ := TP.lineB_iff.1 hy
 have hb0 := hx.b0
 have hb1 := hx.b1
 have hc0 := hx.c0
 have hc1 := hx.c1
 have w1 : wr (y.b + y.c) = y.b + y.c := wr_id (by omega) (by omega)
 have w2 : wr (x.b - (y.b + y.c)) = x.b - (y.b + y.c) := wr_id (by omega) (by omega)
 have w3 : wr (x.b - y.b) = x.b - y.b := wr_id (by omega) (by omega)
 have w4 : wr (x.b - y.b - y.c) = x.b - y.b - y.c := wr_id (by omega) (by omega)
 unfold mayF at hm
 cases hxe : x.e with
 | true =>
  have hb := hx.ov hxe
  rw [if_pos hxe] at hm
  simp only [Bool.and_eq_true, beq_iff_eq, Bool.not_eq_true', decide_eq_true_eq] at hm
  obtain ⟨⟨⟨⟨⟨m1, m2⟩, m3⟩, m4⟩, m5⟩, m6⟩ := hm
  have w5 : wr (x.c - y.e) = x.c - y.e := wr_id (by omega) (by omega)
  have hd : doneF x y = (⟨x.a, x.b - (y.b + y.c), x.c - y.e, 0, true⟩, ⟨y.b + y.c, y.d, 0, y.e⟩) := by
   unfold doneF; rw [if_neg (by simp [m5]), w1, w2, w5, hxe]; simp
  rw [hd]
  exact ⟨⟨by show 0 ≤ x.b - (y.b + y.c); omega, by show x.b - (y.b + y.c) ≤ 100000; omega, by show 0 ≤ x.c - y.e; omega, by show x.c - y.e ≤ 100000; omega, fun _ => by show x.b - (y.b + y.c) = 0; omega, fun q => by cases q⟩, rfl, by show 0 ≤ y.b + y.c ∧ y.b + y.c ≤ 100000; omega, by simp⟩
 | false =>
  have hc := hx.nt hxe
  rw [if_neg (by simp [hxe]), w3, w4] at hm
  split at hm
  ·cases hm
  ·rename_i hneg
   have w6 : wr (x.c + (x.b - y.b - y.c)) = x.b - y.b - y.c := by rw [wr_id (by omega) (by omega)]; omega
   rw [w6] at hm
   simp only [Bool.or_eq_true, Bool.and_eq_true, beq_iff_eq, decide_eq_true_eq] at hm
   cases hg : y.g with
   | true =>
    have hel : y.e ≤ x.b - y.b - y.c := by
     rcases hm with ⟨_, h⟩ | h <;> omega
    have w7 : wr (x.c + (x.b - (y.b + y.c))) = x.b - (y.b + y.c) := by rw [wr_id (by omega) (by omega)]; omega
    have w8 : wr (x.b - (y.b + y.c) - y.e) = x.b - (y.b + y.c) - y.e := wr_id (by omega) (by omega)
    have hd : doneF x y = (⟨x.a, 0, x.b - (y.b + y.c) - y.e, 0, true⟩, ⟨y.b + y.c, y.d, x.b - (y.b + y.c), y.e⟩) := by
     unfold doneF; rw [if_pos hg, w1, w2, w7, w8]
    rw [hd]
    exact ⟨⟨by simp, by simp, by show 0 ≤ x.b - (y.b + y.c) - y.e; omega, by show x.b - (y.b + y.c) - y.e ≤ 100000; omega, fun _ => rfl, fun q => by cases q⟩, rfl, by show 0 ≤ y.b + y.c ∧ y.b + y.c ≤ 100000; omega, by show 0 ≤ x.b - (y.b + y.c) ∧ x.b - (y.b + y.c) ≤ 100000; omega⟩
   | false =>
    have he : y.e = 0 := by
     rcases hm with ⟨h, _⟩ | h
     ·rw [hg] at h; cases h
     ·exact h
    have w5 : wr (x.c - y.e) = 0 := by rw [wr_id (by omega) (by omega)]; omega
    have hd : doneF x y = (⟨x.a, x.b - (y.b + y.c), 0, if x.e || x.b - (y.b + y.c) == 0 then 0 else y.f, x.e⟩, ⟨y.b + y.c, y.d, 0, y.e⟩) := by
     unfold doneF; rw [if_neg (by simp [hg]), w1, w2, w5]
    rw [hd]
    exact ⟨⟨by show 0 ≤ x.b - (y.b + y.c); omega, by show x.b - (y.b + y.c) ≤ 100000; omega, by simp, by simp, fun q => (by rw [hxe] at q; cases q), fun _ => rfl⟩, rfl, by show 0 ≤ y.b + y.c ∧ y.b + y.c ≤ 100000; omega, by simp⟩
theorem step_wf {l : List L5} {t : A4} {y : R7} {p : List L5 × A4} {M : Int} (h : WF l) (hy : TP.lineB y = true) (hM : M ≤ 1000000000) (ht : Lim t M) (e : stepF l t y = some p) : WF p.1 ∧ p.1.length = l.length ∧ Lim p.2 (M + 100000) := by
 have hlen := PO.stepF_len e
 unfold stepF at e
 split at e
 ·cases e
 ·rename_i i hi
  split at e
  ·cases e
  ·rename_i x hx
   split at e
   ·rename_i hm
    cases e
    have hxo := h.ok x (List.mem_of_getElem? hx)
    obtain ⟨q1, q2, q3, q4⟩ := done_ok hxo hy hm
    have a1 := ht.p0
    have a2 := ht.p1
    have a3 := ht.l0
    have a4 := ht.l1
    have e1 : (addA t (doneF x y).2).p = t.p + (doneF x y).2.p := wr_id (by omega) (by omega)
    have e2 : (addA t (doneF x y).2).l = t.l + (doneF x y).2.l := wr_id (by omega) (by omega)
    refine ⟨⟨by rw [hlen]; exact h.len, fun z hz => ?_, fun j z hz => ?_⟩, hlen, by rw [e1]; omega, by rw [e1]; omega, by rw [e2]; omega, by rw [e2]; omega⟩
    ·rcases List.mem_or_eq_of_mem_set hz with hz | rfl
     ·exact h.ok z hz
     ·exact q1
    ·by_cases hj : j = i
     ·subst hj
      rw [List.getElem?_set_self (List.getElem?_eq_some_iff.1 hx).1] at hz
      cases hz
      rw [q2]; exact h.id j x hx
     ·rw [List.getElem?_set_ne (Ne.symm hj)] at hz
      exact h.id j z hz
   ·cases e
abbrev c1 (x : L5) (y : R7) : Bool := (bif x.e then (bif (bif (bif (bif (decide (y.b > 0)) then true else (decide (y.c > 0))) then true else (decide (y.d > 0))) then true else y.g) then true else (decide (y.f > 0))) else false)
abbrev c2 (x : L5) (y : R7) : Bool := (bif (bif (!x.e) then (decide (y.e > 0)) else false) then (!y.g) else false)
abbrev tqD (t : A4) (y : R7) (nb : Int) : A4 := ⟨wr (wr (t.p + y.b) + y.c), wr (t.i + y.d), wr (t.l + nb), wr (t.r + y.e)⟩
abbrev tqN (t : A4) (y : R7) : A4 := ⟨wr (wr (t.p + y.b) + y.c), wr (t.i + y.d), t.l, wr (t.r + y.e)⟩
structure Fx (l2 : List L5) (t : A4) (k : Nat) (x : L5) (y : R7) (s nb nl : Int) : Prop where
 no1 : c1 x y = true → mayF x y = false
 no2 : c2 x y = true → mayF x y = false
 no3 : c1 x y = false → decide (s > x.b) = true → mayF x y = false
 no4 : c1 x y = false → decide (s > x.b) = false → y.g = true → decide (y.e > nb) = true → mayF x y = false
 no5 : c1 x y = false → c2 x y = false → y.g = false → decide (y.e > x.c) = true → mayF x y = false
 yes1 : c1 x y = false → decide (s > x.b) = false → y.g = true → decide (y.e > nb) = false → stepF l2 t y = some (l2.set k ⟨x.a, 0, nl, 0, true⟩, tqD t y nb)
 yes2 : c1 x y = false → c2 x y = false → decide (s > x.b) = false → y.g = false → decide (y.e > x.c) = false → (x.e = true ∨ (nb == 0) = true) → stepF l2 t y = some (l2.set k ⟨x.a, nb, nl, 0, x.e⟩, tqN t y)
 yes3 : c1 x y = false → c2 x y = false → decide (s > x.b) = false → y.g = false → decide (y.e > x.c) = false → x.e = false → (nb == 0) = false → stepF l2 t y = some (l2.set k ⟨x.a, nb, nl, y.f, x.e⟩, tqN t y)
theorem facts {l2 : List L5} {t : A4} {k : Nat} {x : L5} {y : R7} {s d1 nb nl : Int} (okx : okL x) (hyl : TP.lineB y = true) (ha : atI y.a l2 = some k) (kX : l2[k]? = some x) (htp : 0 ≤ t.p ∧ t.p ≤ 1000000000) (htl : 0 ≤ t.l ∧ t.l ≤ 1000000000) (es : s = wr (y.b + y.c)) (ed1 : d1 = wr (x.b - y.b)) (enb : nb = wr (d1 - y.c)) (enl : nl = if y.g = true then wr (nb - y.e) else wr (x.c - y.e)) : Fx l2 t k x y s nb nl := by
 obtain ⟨⟨yb0, yb1⟩, ⟨yc0, yc1⟩, ⟨yd0, yd1⟩, ⟨ye0, ye1⟩, yf0, yf1⟩ := TP.lineB_iff.1 hyl
 have xb0 := okx.b0
 have xb1 := okx.b1
 have xc0 := okx.c0
 have xc1 := okx.c1
 have vs : s = y.b + y.c := by rw [es]; exact wr_id (by omega) (by omega)
 have vd1 : d1 = x.b - y.b := by rw [ed1]; exact wr_id (by omega) (by omega)
 have vnb : nb = x.b - y.b - y.c := by rw [enb, vd1]; exact wr_id (by omega) (by omega)
 have vnb2 : wr (x.b - wr (y.b + y.c)) = nb := by rw [← es, vs, vnb, wr_id (by omega) (by omega)]; omega
 have step : mayF x y = true → stepF l2 t y = some (l2.set k (doneF x y).1, addA t (doneF x y).2) := fun h => by
  simp only [stepF, ha, kX]; rw [if_pos h]
 have no1 : c1 x y = true → mayF x y = false := fun h => by
  unfold c1 at h
  cases hx : x.e with
  | false => rw [hx] at h; cases h
  | true =>
   rw [hx, cond_true, bif_t, bif_t, bif_t, bif_t] at h
   simp only [decide_eq_true_eq] at h
   unfold mayF
   rw [if_pos hx]
   rcases h with (((h | h) | h) | h) | h
   ·simp [show ¬ y.b = 0 by omega]
   ·simp [show ¬ y.c = 0 by omega]
   ·simp [show ¬ y.d = 0 by omega]
   ·simp [h]
   ·simp [show ¬ y.f = 0 by omega]
 have zero : c1 x y = false → x.e = true → y.b = 0 ∧ y.c = 0 ∧ y.d = 0 ∧ y.g = false ∧ y.f = 0 := fun h hx => by
  unfold c1 at h
  rw [hx, cond_true, bif_f, bif_f, bif_f, bif_f] at h
  simp only [decide_eq_false_iff_not] at h
  obtain ⟨⟨⟨⟨h1, h2⟩, h3⟩, h4⟩, h5⟩ := h
  exact ⟨by omega, by omega, by omega, h4, by omega⟩
 have no2 : c2 x y = true → mayF x y = false := fun h => by
  unfold c2 at h
  cases hx : x.e with
  | true => simp [hx] at h
  | false =>
   cases hg : y.g with
   | true => simp [hx, hg] at h
   | false =>
    simp [hx, hg] at h
    unfold mayF
    rw [if_neg (by simp [hx])]
    split
    ·rfl
    ·simp [hg]; omega
 have ze : c2 x y = false → x.e = false → y.g = false → y.e = 0 := fun h hx hg => by
  unfold c2 at h
  simp [hx, hg] at h; omega
 have ovb : x.e = true → x.b = 0 := okx.ov
 have ntc : x.e = false → x.c = 0 := okx.nt
 have mE : x.e = false → mayF x y = (if nb < 0 then false else (y.g && decide (y.e ≤ nb)) || y.e == 0) := fun hx => by
  unfold mayF
  rw [if_neg (by simp [hx]), ← ed1, ← enb]
  split
  ·rfl
  ·rw [ntc hx, wr_id (by omega) (by omega), Int.zero_add]
 have no3 : c1 x y = false → decide (s > x.b) = true → mayF x y = false := fun h hS => by
  simp at hS
  cases hx : x.e with
  | true => have := zero h hx; omega
  | false => rw [mE hx, if_pos (by omega)]
 have no4 : c1 x y = false → decide (s > x.b) = false → y.g = true → decide (y.e > nb) = true → mayF x y = false := fun h hS hG hE => by
  simp at hS hE
  cases hx : x.e with
  | true => have := (zero h hx).2.2.2.1; rw [hG] at this; cases this
  | false =>
   rw [mE hx, if_neg (by omega), hG]
   have a1 : ¬ y.e ≤ nb := by omega
   have a2 : ¬ y.e = 0 := by omega
   simp [a1, a2]
 have no5 : c1 x y = false → c2 x y = false → y.g = false → decide (y.e > x.c) = true → mayF x y = false := fun h h2 hG hE => by
  simp at hE
  cases hx : x.e with
  | true =>
   unfold mayF
   rw [if_pos hx]
   have a1 : ¬ y.e ≤ x.c := by omega
   simp [a1]
  | false => have := ze h2 hx hG; have := ntc hx; omega
 have tp2 : wr (wr (t.p + y.b) + y.c) = wr (t.p + wr (y.b + y.c)) := by
  rw [← es, vs, wr_id (x := t.p + y.b) (by omega) (by omega)]
  congr 1; omega
 have yes1 : c1 x y = false → decide (s > x.b) = false → y.g = true → decide (y.e > nb) = false → stepF l2 t y = some (l2.set k ⟨x.a, 0, nl, 0, true⟩, tqD t y nb) := fun h hS hG hE => by
  simp at hS hE
  cases hx : x.e with
  | true => have := (zero h hx).2.2.2.1; rw [hG] at this; cases this
  | false =>
   have hmay : mayF x y = true := by
    rw [mE hx, if_neg (by omega), hG]
    have a1 : y.e ≤ nb := by omega
    simp [a1]
   have w1 : wr (x.c + nb) = nb := by rw [ntc hx, Int.zero_add]; exact wr_id (by omega) (by omega)
   have hd : doneF x y = (⟨x.a, 0, nl, 0, true⟩, ⟨wr (y.b + y.c), y.d, nb, y.e⟩) := by
    unfold doneF
    rw [if_pos hG, vnb2, w1, enl, if_pos hG]
   rw [step hmay, hd, tqD, tp2]; rfl
 have mN : c1 x y = false → c2 x y = false → decide (s > x.b) = false → y.g = false → decide (y.e > x.c) = false → stepF l2 t y = some (l2.set k ⟨x.a, nb, nl, if x.e || nb == 0 then 0 else y.f, x.e⟩, tqN t y) := fun h h2 hS hG hE => by
  simp at hS hE
  have hmay : mayF x y = true := by
   cases hx : x.e with
   | true =>
    obtain ⟨z1, z2, z3, z4, z5⟩ := zero h hx
    unfold mayF
    rw [if_pos hx]
    simp [z1, z2, z3, z4, z5, hE]
   | false =>
    rw [mE hx, if_neg (by omega)]
    simp [ze h2 hx hG]
  have hd : doneF x y = (⟨x.a, nb, nl, if x.e || nb == 0 then 0 else y.f, x.e⟩, ⟨wr (y.b + y.c), y.d, 0, y.e⟩) := by
   unfold doneF
   rw [if_neg (show ¬ y.g = true by simp [hG]), vnb2, enl, if_neg (show ¬ y.g = true by simp [hG])]
  have tl2 : wr (t.l + 0) = t.l := by rw [wr_id (by omega) (by omega)]; omega
  rw [step hmay, hd, tqN, tp2]
  show some (_, (⟨_, _, wr (t.l + 0), _⟩ : A4)) = _
  rw [tl2]
 have yes2 : c1 x y = false → c2 x y = false → decide (s > x.b) = false → y.g = false → decide (y.e > x.c) = false → (x.e = true ∨ (nb == 0) = true) → stepF l2 t y = some (l2.set k ⟨x.a, nb, nl, 0, x.e⟩, tqN t y) := fun h h2 hS hG hE hO => by
  rw [mN h h2 hS hG hE, if_pos (by rcases hO with q | q <;> simp [q])]
 have yes3 : c1 x y = false → c2 x y = false → decide (s > x.b) = false → y.g = false → decide (y.e > x.c) = false → x.e = false → (nb == 0) = false → stepF l2 t y = some (l2.set k ⟨x.a, nb, nl, y.f, x.e⟩, tqN t y) := fun h h2 hS hG hE hO hZ => by
  rw [mN h h2 hS hG hE, if_neg (by simp [hO, hZ])]
 exact ⟨no1, no2, no3, no4, no5, yes1, yes2, yes3⟩
end PR
end Go.Proofs.Ytgdojnamjkhknaa
