/-
  Laws of chapter 13: what they share.
-/
import Derived.Test.YtgdojnamjkhknaaQdK6
namespace Go.Proofs.Ytgdojnamjkhknaa
open Go.Am
set_option linter.all false
set_option maxRecDepth 100000
namespace LK
open K (KV KW kVal dealF DlA At)
open D (DV DlW dVal preD rightB stpF)
theorem KW.up {H : Heap} {v : Value} {k : KV} (h : KW H v k) (X : SH) : KW (denH (.seg H :: X)) v k := by
 obtain ⟨b0, b1, b2, b3, b4, b5, b6, x0, x1, x2, x3, x4, x5, x6, rfl, h0, h1, h2, h3, h4, h5, h6⟩ := h
 exact ⟨b0, b1, b2, b3, b4, b5, b6, x0, x1, x2, x3, x4, x5, x6, rfl, D.up1 h0 X, D.up1 h1 X, D.up1 h2 X, D.up1 h3 X, D.up1 h4 X, D.up1 h5 X, D.up1 h6 X⟩
theorem At.at_ {w g : Nat} {Y : Heap} {v : Value} {rows : List (List Value)} (h : At w g Y v rows) {I : SH} (hI : I.all (It.bnd I.length) = true) (e : (denH I).length = g) (J : SH) : RowsW w (denH (I ++ .seg Y :: J)) v rows := by
 rw [denH_app hI]
 exact h (denH I) _ e
theorem use41 {I : SH} (hI : I.all (It.bnd I.length) = true) {v : Value} {k : KV} (hk : KW (denH I) v k) (hn : k.no.length ≤ 140737488355328) : ∃ al an a0 a1 a2 cl cn c0 c1 c2 X, runE (Plain.env K.tblK (K.E1.gE 0)) K.E1.il41 [v] (denH I) = some (dVal al an a0 a1 a2 (dealF k).l.length cl (dealF k).n.length cn (dealF k).s0.length c0 (dealF k).s1.length c1 (dealF k).s2.length c2 (dealF k), denH (I ++ [.seg X])) ∧
  At 2 (denH I).length X (.slice al (dealF k).l.length cl) ((dealF k).l.map e2) ∧ At 3 (denH I).length X (.slice an (dealF k).n.length cn) ((dealF k).n.map e3) ∧ At 2 (denH I).length X (.slice a0 (dealF k).s0.length c0) ((dealF k).s0.map e2) ∧ At 2 (denH I).length X (.slice a1 (dealF k).s1.length c1) ((dealF k).s1.map e2) ∧ At 2 (denH I).length X (.slice a2 (dealF k).s2.length c2) ((dealF k).s2.map e2) := by
 obtain ⟨v', h', r, X, rfl, al, an, a0, a1, a2, cl, cn, c0, c1, c2, rfl, q1, q2, q3, q4, q5⟩ := K.run41 hk hn
 exact ⟨al, an, a0, a1, a2, cl, cn, c0, c1, c2, X, by rw [denH_snoc I hI]; exact r, q1, q2, q3, q4, q5⟩
theorem kv_of {H : Heap} {A : List Value} (h : F2 (LT.ok H) [.f (.i .i64), .f (.i .i64), .f (.i .i64), .f (.i .i64), .f (.i .i64), .f (.i .i64), .f (.i .i64), .f (.i .i64), .f (.i .i64), .f (.i .i64), .f (.i .i64), .f (.i .i64), .f (.i .i64), .s 1 [.i .i64], .s 1 [.i .i64], .s 1 [.i .i64], .s 1 [.i .i64], .s 1 [.i .i64], .s 1 [.i .i64], .s 1 [.i .i64]] A) : ∃ k : KV, KW H (.agg ⟨A⟩) k ∧ k.no.length ≤ 140737488355328 := by
 cases h with
 | cons h0 h =>
  cases h with
  | cons h1 h =>
   cases h with
   | cons h2 h =>
    cases h with
    | cons h3 h =>
     cases h with
     | cons h4 h =>
      cases h with
      | cons h5 h =>
       cases h with
       | cons h6 h =>
        cases h with
        | cons h7 h =>
         cases h with
         | cons h8 h =>
          cases h with
          | cons h9 h =>
           cases h with
           | cons h10 h =>
            cases h with
            | cons h11 h =>
             cases h with
             | cons h12 h =>
              cases h with
              | cons h13 h =>
               cases h with
               | cons h14 h =>
                cases h with
                | cons h15 h =>
                 cases h with
                 | cons h16 h =>
                  cases h with
                  | cons h17 h =>
                   cases h with
                   | cons h18 h =>
                    cases h with
                    | cons h19 h =>
                     cases h with
                     | nil =>
                      obtain ⟨i0, rfl, _⟩ := lt_int h0
                      obtain ⟨i1, rfl, _⟩ := lt_int h1
                      obtain ⟨i2, rfl, _⟩ := lt_int h2
                      obtain ⟨i3, rfl, _⟩ := lt_int h3
                      obtain ⟨i4, rfl, _⟩ := lt_int h4
                      obtain ⟨i5, rfl, _⟩ := lt_int h5
                      obtain ⟨i6, rfl, _⟩ := lt_int h6
                      obtain ⟨i7, rfl, _⟩ := lt_int h7
                      obtain ⟨i8, rfl, _⟩ := lt_int h8
                      obtain ⟨i9, rfl, _⟩ := lt_int h9
                      obtain ⟨i10, rfl, _⟩ := lt_int h10
                      obtain ⟨i11, rfl, _⟩ := lt_int h11
                      obtain ⟨i12, rfl, _⟩ := lt_int h12
                      obtain ⟨l13, r13, _, n13⟩ := lt_ints h13
                      obtain ⟨l14, r14, _, n14⟩ := lt_ints h14
                      obtain ⟨l15, r15, _, n15⟩ := lt_ints h15
                      obtain ⟨l16, r16, _, n16⟩ := lt_ints h16
                      obtain ⟨l17, r17, _, n17⟩ := lt_ints h17
                      obtain ⟨l18, r18, _, n18⟩ := lt_ints h18
                      obtain ⟨l19, r19, _, n19⟩ := lt_ints h19
                      obtain ⟨b13, c13, rfl⟩ := r13.slcM
                      obtain ⟨b14, c14, rfl⟩ := r14.slcM
                      obtain ⟨b15, c15, rfl⟩ := r15.slcM
                      obtain ⟨b16, c16, rfl⟩ := r16.slcM
                      obtain ⟨b17, c17, rfl⟩ := r17.slcM
                      obtain ⟨b18, c18, rfl⟩ := r18.slcM
                      obtain ⟨b19, c19, rfl⟩ := r19.slcM
                      exact ⟨⟨i0, i1, i2, i3, i4, i5, i6, i7, i8, i9, i10, i11, i12, l13, l14, l15, l16, l17, l18, l19⟩, ⟨b13, b14, b15, b16, b17, b18, b19, c13, c14, c15, c16, c17, c18, c19, rfl, r13, r14, r15, r16, r17, r18, r19⟩, n14⟩
end LK
end Go.Proofs.Ytgdojnamjkhknaa
