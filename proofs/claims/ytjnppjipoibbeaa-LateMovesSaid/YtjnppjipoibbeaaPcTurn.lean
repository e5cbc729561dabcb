/-
  The law TapeRight, in plain Lean.
-/
import Derived.Test.YtjnppjipoibbeaaPcRight
import Derived.Test.YtjnppjipoibbeaaPcSums
namespace Go.Proofs.Ytjnppjipoibbeaa.Tape
open Go.Am
set_option linter.all false
set_option maxRecDepth 100000
def Qr (args : List Value) (h : Heap) (v : Value) (h' : Heap) : Prop := ∃ s rows, args = [s] ∧ RowsAt 7 h s (rows.map Ln.enc) ∧ rows.length ≤ 1099511627776 ∧ v = .bool (RightB rows) ∧ h' = h
noncomputable def gT : Env := fun f args h => if f = 39 then rel Qp args h else if f = 33 then rel Ql args h else if f = 31 then rel Qr args h else none
theorem gT_ok : EnvOk Try.prog gT := fun f => by
  intro args h v h' e
  unfold gT at e
  split at e
  · rename_i hf; subst hf
    obtain ⟨s, i, zs, rfl, hi, hs, rfl, rfl⟩ := rel_of e
    exact pick_sim hs hi
  · split at e
    · rename_i hf; subst hf
      have := gL_ok 33 args h v h' (by simpa [gL] using e)
      exact this
    · split at e
      · rename_i hf; subst hf
        obtain ⟨s, rows, rfl, hs, hl, rfl, rfl⟩ := rel_of e
        exact rightL_sim hs hl
      · cases e
theorem gT_quiet : QuietEnv qtR gT := fun f args h v h' hf e => by
  unfold gT at e
  split at e
  · obtain ⟨s, i, zs, _, _, _, _, rfl⟩ := rel_of e
    rfl
  · split at e
    · rename_i q; subst q; exact absurd hf (by decide)
    · split at e
      · obtain ⟨s, rows, _, _, _, _, rfl⟩ := rel_of e
        rfl
      · cases e
theorem right_at {H : Heap} {s : Value} {rows : List Ln} (hs : RowsAt 7 H s (rows.map Ln.enc)) (hl : rows.length ≤ 1099511627776) : opA (Plain.env tblR gT) (.call 31 [(.const s)]) [] H = some ((.bool (RightB rows)), H) := by
  show rel Qr [s] H = _
  refine rel_some ⟨s, rows, rfl, hs, hl, rfl, rfl⟩ fun v1 h1 ⟨s', rows', e, hs', _, q1, q2⟩ => ?_
  cases e
  rw [enc_inj (hs.uniq hs')]
  exact ⟨q1, q2⟩
theorem linesT_at {H : Heap} {s0 s1 s2 s3 s4 s5 : Value} {T : Tp} (hT : TpAt H s0 s1 s2 s3 s4 s5 T) : ∃ v H', opA (Plain.env tblR gT) (.call 33 [(.const (.agg ⟨[s0, s1, s2, s3, s4, s5]⟩))]) [] H = some (v, H') ∧ LinesRes H (lines T) v H' := lines_at hT
/-- cascade/cascadelaw8.TapeRight -/
def il12 : FnIL := ⟨151, [.tmp 8],
  .seq (.reg [
     ⟨(some 4), none, .box (.tmp 0)⟩,
     ⟨(some 8), none, .mov (.const (.bool false))⟩])
  (.seq (.reg [
     ⟨(some 15), none, .load (.tmp 4) (some 6)⟩,
     ⟨(some 16), none, .call 33 [(.tmp 15)]⟩,
     ⟨(some 9), none, .mov (.tmp 16)⟩])
  (.seq (.seq (.reg [
      ⟨(some 17), none, .mov (.tmp 9)⟩,
      ⟨(some 18), none, .call 31 [(.tmp 17)]⟩,
      ⟨(some 19), none, .un .not (.tmp 18)⟩,
      ⟨(some 20), none, .mov (.tmp 19)⟩,
      ⟨(some 21), (some (20, false)), .call 31 [(.const (.slice none 0 0))]⟩,
      ⟨(some 22), (some (20, false)), .un .not (.tmp 21)⟩,
      ⟨(some 23), none, .pick (.tmp 20) (.const (.bool true)) (.tmp 22)⟩])
   (.ite (.tmp 23)
     (.seq (.reg [
        ⟨(some 8), none, .mov (.const (.bool false))⟩])
     (.ret))
     (.skip)))
  (.seq (.seq (.reg [
      ⟨(some 24), none, .mov (.tmp 9)⟩,
      ⟨(some 25), none, .len (.tmp 24)⟩,
      ⟨(some 26), none, .bin .eql (.tmp 25) (.const (.int .i64 0))⟩])
   (.ite (.tmp 26)
     (.seq (.reg [
        ⟨(some 27), none, .call 11 []⟩,
        ⟨(some 8), none, .mov (.tmp 27)⟩])
     (.ret))
     (.skip)))
  (.seq (.reg [
     ⟨(some 28), none, .mov (.tmp 2)⟩,
     ⟨(some 29), none, .mov (.tmp 9)⟩,
     ⟨(some 30), none, .len (.tmp 29)⟩,
     ⟨(some 31), none, .bin .sub (.tmp 30) (.const (.int .i64 1))⟩,
     ⟨(some 32), none, .call 19 [(.tmp 28), (.const (.int .i64 0)), (.tmp 31)]⟩,
     ⟨(some 10), none, .mov (.tmp 32)⟩])
  (.seq (.reg [
     ⟨(some 33), none, .mov (.tmp 3)⟩,
     ⟨(some 34), none, .call 19 [(.tmp 33), (.const (.int .i64 0)), (.const (.int .i64 1099511627776))]⟩,
     ⟨(some 35), none, .bin .add (.const (.int .i64 1)) (.tmp 34)⟩,
     ⟨(some 11), none, .mov (.tmp 35)⟩])
  (.seq (.reg [
     ⟨(some 36), none, .mkrow [] 0 []⟩,
     ⟨(some 37), none, .mov (.tmp 9)⟩,
     ⟨(some 38), none, .append 7 56 (.tmp 36) (.tmp 37)⟩,
     ⟨(some 12), none, .mov (.tmp 38)⟩])
  (.seq (.reg [
     ⟨(some 39), none, .mov (.tmp 12)⟩,
     ⟨(some 40), none, .mov (.tmp 10)⟩,
     ⟨(some 41), none, .iadr 7 none (.tmp 39) (.tmp 40)⟩,
     ⟨(some 13), none, .mov (.tmp 41)⟩])
  (.seq (.seq (.reg [
      ⟨(some 42), none, .mov (.tmp 1)⟩,
      ⟨(some 43), none, .call 19 [(.tmp 42), (.const (.int .i64 0)), (.const (.int .i64 11))]⟩])
   (.block 0
     (.seq (.reg [
        ⟨(some 58), none, .bin .eql (.tmp 43) (.const (.int .i64 0))⟩,
        ⟨(some 57), none, .mov (.tmp 58)⟩])
     (.ite (.tmp 57)
       (.seq (.reg [
          ⟨(some 59), none, .mov (.tmp 13)⟩,
          ⟨(some 60), none, .mov (.tmp 11)⟩,
          ⟨(some 61), none, .un .neg (.tmp 60)⟩,
          ⟨(some 62), none, .nilck (.tmp 59)⟩,
          ⟨(some 63), none, .fadr 0 (.tmp 62)⟩,
          ⟨none, none, .store (.tmp 63) (.tmp 61) 1⟩])
       (.seq (.reg [
          ⟨(some 64), none, .mov (.tmp 10)⟩,
          ⟨(some 65), none, .bin .gtr (.tmp 64) (.const (.int .i64 0))⟩])
       (.ite (.tmp 65)
         (.reg [
           ⟨(some 66), none, .mov (.tmp 13)⟩,
           ⟨(some 67), none, .mov (.tmp 12)⟩,
           ⟨(some 68), none, .mov (.tmp 10)⟩,
           ⟨(some 69), none, .bin .sub (.tmp 68) (.const (.int .i64 1))⟩,
           ⟨(some 70), none, .iadr 7 none (.tmp 67) (.tmp 69)⟩,
           ⟨(some 71), none, .fadr 0 (.tmp 70)⟩,
           ⟨(some 72), none, .load (.tmp 71) none⟩,
           ⟨(some 73), none, .nilck (.tmp 66)⟩,
           ⟨(some 74), none, .fadr 0 (.tmp 73)⟩,
           ⟨none, none, .store (.tmp 74) (.tmp 72) 1⟩])
         (.skip))))
       (.seq (.reg [
          ⟨(some 76), none, .bin .eql (.tmp 43) (.const (.int .i64 1))⟩,
          ⟨(some 75), none, .mov (.tmp 76)⟩])
       (.ite (.tmp 75)
         (.reg [
           ⟨(some 77), none, .mov (.tmp 13)⟩,
           ⟨(some 78), none, .mov (.tmp 11)⟩,
           ⟨(some 79), none, .bin .add (.const (.int .i64 1099511627776)) (.tmp 78)⟩,
           ⟨(some 80), none, .nilck (.tmp 77)⟩,
           ⟨(some 81), none, .fadr 1 (.tmp 80)⟩,
           ⟨none, none, .store (.tmp 81) (.tmp 79) 1⟩])
         (.seq (.reg [
            ⟨(some 83), none, .bin .eql (.tmp 43) (.const (.int .i64 2))⟩,
            ⟨(some 82), none, .mov (.tmp 83)⟩])
         (.ite (.tmp 82)
           (.reg [
             ⟨(some 84), none, .mov (.tmp 13)⟩,
             ⟨(some 85), none, .mov (.tmp 11)⟩,
             ⟨(some 86), none, .un .neg (.tmp 85)⟩,
             ⟨(some 87), none, .nilck (.tmp 84)⟩,
             ⟨(some 88), none, .fadr 1 (.tmp 87)⟩,
             ⟨none, none, .store (.tmp 88) (.tmp 86) 1⟩])
           (.seq (.reg [
              ⟨(some 90), none, .bin .eql (.tmp 43) (.const (.int .i64 3))⟩,
              ⟨(some 89), none, .mov (.tmp 90)⟩])
           (.ite (.tmp 89)
             (.reg [
               ⟨(some 91), none, .mov (.tmp 13)⟩,
               ⟨(some 92), none, .mov (.tmp 11)⟩,
               ⟨(some 93), none, .bin .add (.const (.int .i64 1099511627776)) (.tmp 92)⟩,
               ⟨(some 94), none, .nilck (.tmp 91)⟩,
               ⟨(some 95), none, .fadr 2 (.tmp 94)⟩,
               ⟨none, none, .store (.tmp 95) (.tmp 93) 1⟩])
             (.seq (.reg [
                ⟨(some 97), none, .bin .eql (.tmp 43) (.const (.int .i64 4))⟩,
                ⟨(some 96), none, .mov (.tmp 97)⟩])
             (.ite (.tmp 96)
               (.reg [
                 ⟨(some 98), none, .mov (.tmp 13)⟩,
                 ⟨(some 99), none, .mov (.tmp 11)⟩,
                 ⟨(some 100), none, .un .neg (.tmp 99)⟩,
                 ⟨(some 101), none, .nilck (.tmp 98)⟩,
                 ⟨(some 102), none, .fadr 2 (.tmp 101)⟩,
                 ⟨none, none, .store (.tmp 102) (.tmp 100) 1⟩])
               (.seq (.reg [
                  ⟨(some 104), none, .bin .eql (.tmp 43) (.const (.int .i64 5))⟩,
                  ⟨(some 103), none, .mov (.tmp 104)⟩])
               (.ite (.tmp 103)
                 (.reg [
                   ⟨(some 105), none, .mov (.tmp 13)⟩,
                   ⟨(some 106), none, .mov (.tmp 11)⟩,
                   ⟨(some 107), none, .bin .add (.const (.int .i64 1099511627776)) (.tmp 106)⟩,
                   ⟨(some 108), none, .nilck (.tmp 105)⟩,
                   ⟨(some 109), none, .fadr 3 (.tmp 108)⟩,
                   ⟨none, none, .store (.tmp 109) (.tmp 107) 1⟩])
                 (.seq (.reg [
                    ⟨(some 111), none, .bin .eql (.tmp 43) (.const (.int .i64 6))⟩,
                    ⟨(some 110), none, .mov (.tmp 111)⟩])
                 (.ite (.tmp 110)
                   (.reg [
                     ⟨(some 112), none, .mov (.tmp 13)⟩,
                     ⟨(some 113), none, .mov (.tmp 11)⟩,
                     ⟨(some 114), none, .un .neg (.tmp 113)⟩,
                     ⟨(some 115), none, .nilck (.tmp 112)⟩,
                     ⟨(some 116), none, .fadr 3 (.tmp 115)⟩,
                     ⟨none, none, .store (.tmp 116) (.tmp 114) 1⟩])
                   (.seq (.reg [
                      ⟨(some 118), none, .bin .eql (.tmp 43) (.const (.int .i64 7))⟩,
                      ⟨(some 117), none, .mov (.tmp 118)⟩])
                   (.ite (.tmp 117)
                     (.reg [
                       ⟨(some 119), none, .mov (.tmp 13)⟩,
                       ⟨(some 120), none, .mov (.tmp 11)⟩,
                       ⟨(some 121), none, .bin .add (.const (.int .i64 1099511627776)) (.tmp 120)⟩,
                       ⟨(some 122), none, .nilck (.tmp 119)⟩,
                       ⟨(some 123), none, .fadr 4 (.tmp 122)⟩,
                       ⟨none, none, .store (.tmp 123) (.tmp 121) 1⟩])
                     (.seq (.reg [
                        ⟨(some 125), none, .bin .eql (.tmp 43) (.const (.int .i64 8))⟩,
                        ⟨(some 124), none, .mov (.tmp 125)⟩])
                     (.ite (.tmp 124)
                       (.reg [
                         ⟨(some 126), none, .mov (.tmp 13)⟩,
                         ⟨(some 127), none, .mov (.tmp 11)⟩,
                         ⟨(some 128), none, .un .neg (.tmp 127)⟩,
                         ⟨(some 129), none, .nilck (.tmp 126)⟩,
                         ⟨(some 130), none, .fadr 4 (.tmp 129)⟩,
                         ⟨none, none, .store (.tmp 130) (.tmp 128) 1⟩])
                       (.seq (.reg [
                          ⟨(some 132), none, .bin .eql (.tmp 43) (.const (.int .i64 9))⟩,
                          ⟨(some 131), none, .mov (.tmp 132)⟩])
                       (.ite (.tmp 131)
                         (.reg [
                           ⟨(some 133), none, .mov (.tmp 13)⟩,
                           ⟨(some 134), none, .mov (.tmp 11)⟩,
                           ⟨(some 135), none, .bin .add (.const (.int .i64 12)) (.tmp 134)⟩,
                           ⟨(some 136), none, .nilck (.tmp 133)⟩,
                           ⟨(some 137), none, .fadr 5 (.tmp 136)⟩,
                           ⟨none, none, .store (.tmp 137) (.tmp 135) 1⟩])
                         (.seq (.reg [
                            ⟨(some 139), none, .bin .eql (.tmp 43) (.const (.int .i64 10))⟩,
                            ⟨(some 138), none, .mov (.tmp 139)⟩])
                         (.ite (.tmp 138)
                           (.reg [
                             ⟨(some 140), none, .mov (.tmp 13)⟩,
                             ⟨(some 141), none, .mov (.tmp 11)⟩,
                             ⟨(some 142), none, .un .neg (.tmp 141)⟩,
                             ⟨(some 143), none, .nilck (.tmp 140)⟩,
                             ⟨(some 144), none, .fadr 5 (.tmp 143)⟩,
                             ⟨none, none, .store (.tmp 144) (.tmp 142) 1⟩])
                           (.seq (.reg [
                              ⟨(some 12), none, .mov (.const (.slice none 0 0))⟩])
                           (.seq (.reg [
                              ⟨(some 14), none, .mov (.const (.int .i64 0))⟩])
                           (.block 1
                             (.loop
                               (.seq (.seq (.reg [
                                   ⟨(some 44), none, .mov (.tmp 14)⟩,
                                   ⟨(some 45), none, .mov (.tmp 11)⟩,
                                   ⟨(some 46), none, .bin .rem (.tmp 45) (.const (.int .i64 9))⟩,
                                   ⟨(some 47), none, .bin .add (.const (.int .i64 65)) (.tmp 46)⟩,
                                   ⟨(some 48), none, .bin .lss (.tmp 44) (.tmp 47)⟩])
                                (.ite (.tmp 48)
                                  (.skip)
                                  (.exit 1)))
                               (.seq (.block 2
                                  (.reg [
                                    ⟨(some 51), none, .mov (.tmp 12)⟩,
                                    ⟨(some 52), none, .mov (.tmp 14)⟩,
                                    ⟨(some 53), none, .bin .add (.tmp 52) (.const (.int .i64 1))⟩,
                                    ⟨(some 54), none, .build [(.int .i64 0), (.int .i64 0), (.int .i64 0), (.int .i64 0), (.int .i64 0), (.int .i64 0), (.bool false)] [(0, 1, (.tmp 53))]⟩,
                                    ⟨(some 55), none, .mkrow [(.int .i64 0), (.int .i64 0), (.int .i64 0), (.int .i64 0), (.int .i64 0), (.int .i64 0), (.bool false)] 1 [(0, 7, (.tmp 54))]⟩,
                                    ⟨(some 56), none, .append 7 56 (.tmp 51) (.tmp 55)⟩,
                                    ⟨(some 12), none, .mov (.tmp 56)⟩]))
                               (.reg [
                                 ⟨(some 49), none, .mov (.tmp 14)⟩,
                                 ⟨(some 50), none, .bin .add (.tmp 49) (.const (.int .i64 1))⟩,
                                 ⟨(some 14), none, .mov (.tmp 50)⟩])))))))))))))))))))))))))))))))
  (.seq (.reg [
     ⟨(some 145), none, .mov (.tmp 12)⟩,
     ⟨(some 146), none, .call 31 [(.tmp 145)]⟩,
     ⟨(some 147), none, .un .not (.tmp 146)⟩,
     ⟨(some 148), none, .mov (.tmp 147)⟩,
     ⟨(some 149), (some (148, true)), .call 11 []⟩,
     ⟨(some 150), none, .pick (.tmp 148) (.tmp 149) (.const (.bool false))⟩,
     ⟨(some 8), none, .mov (.tmp 150)⟩])
  (.ret))))))))))⟩
theorem st12 : stF Try.prog qtR 12 = some il12 := by kernel_rfl
def body12_1 : IL := .seq (.seq (.reg [
      ⟨(some 44), none, .mov (.tmp 14)⟩,
      ⟨(some 45), none, .mov (.tmp 11)⟩,
      ⟨(some 46), none, .bin .rem (.tmp 45) (.const (.int .i64 9))⟩,
      ⟨(some 47), none, .bin .add (.const (.int .i64 65)) (.tmp 46)⟩,
      ⟨(some 48), none, .bin .lss (.tmp 44) (.tmp 47)⟩])
   (.ite (.tmp 48)
     (.skip)
     (.exit 1)))
  (.seq (.block 2
     (.reg [
       ⟨(some 51), none, .mov (.tmp 12)⟩,
       ⟨(some 52), none, .mov (.tmp 14)⟩,
       ⟨(some 53), none, .bin .add (.tmp 52) (.const (.int .i64 1))⟩,
       ⟨(some 54), none, .build [(.int .i64 0), (.int .i64 0), (.int .i64 0), (.int .i64 0), (.int .i64 0), (.int .i64 0), (.bool false)] [(0, 1, (.tmp 53))]⟩,
       ⟨(some 55), none, .mkrow [(.int .i64 0), (.int .i64 0), (.int .i64 0), (.int .i64 0), (.int .i64 0), (.int .i64 0), (.bool false)] 1 [(0, 7, (.tmp 54))]⟩,
       ⟨(some 56), none, .append 7 56 (.tmp 51) (.tmp 55)⟩,
       ⟨(some 12), none, .mov (.tmp 56)⟩]))
  (.reg [
    ⟨(some 49), none, .mov (.tmp 14)⟩,
    ⟨(some 50), none, .bin .add (.tmp 49) (.const (.int .i64 1))⟩,
    ⟨(some 14), none, .mov (.tmp 50)⟩]))
def hn12t (l l2 : Value) (m j : Int) (H H2 : Heap) : Hj := (.sym (.use 56 l2 H2 .nil) .nil)
theorem tree12t (l l2 : Value) (m j : Int) (H H2 : Heap) : pieceT tblR gT 100 (fun i => exL i body12_1 || inL [8, 12] i) body12_1 (hn12t l l2 m j H H2) (fr 151 [(8, (.bool false)), (11, (.int .i64 m)), (12, l), (14, (.int .i64 j))]) H =
(.req true (.br (decide (j < (IntKind.wrap .i64 (65 + (Int.tmod m 9)))))
 (.claim (opA (Plain.env tblR gT) (.append 7 56 (.const l) (.const (.slice (some ⟨(H).length, 0, none⟩) 1 1))) [] (H ++ [some (Blk.mk .fix [(.int .i64 (IntKind.wrap .i64 (j + 1))), (.int .i64 0), (.int .i64 0), (.int .i64 0), (.int .i64 0), (.int .i64 0), (.bool false)])]) = some (l2, H2))
 (.ret (pk .normal (fr 151 [(8, (.bool false)), (11, (.int .i64 m)), (12, l2), (14, (.int .i64 (IntKind.wrap .i64 (j + 1))))])) H2))
 (.ret (pk (.exit 1) (fr 151 [(8, (.bool false)), (11, (.int .i64 m)), (12, l), (14, (.int .i64 j))])) H))) := by kernel_rfl
def il12a : IL := .seq (.reg [
     ⟨(some 4), none, .box (.tmp 0)⟩,
     ⟨(some 8), none, .mov (.const (.bool false))⟩])
  (.seq (.reg [
     ⟨(some 15), none, .load (.tmp 4) (some 6)⟩,
     ⟨(some 16), none, .call 33 [(.tmp 15)]⟩,
     ⟨(some 9), none, .mov (.tmp 16)⟩])
  (.seq (.seq (.reg [
      ⟨(some 17), none, .mov (.tmp 9)⟩,
      ⟨(some 18), none, .call 31 [(.tmp 17)]⟩,
      ⟨(some 19), none, .un .not (.tmp 18)⟩,
      ⟨(some 20), none, .mov (.tmp 19)⟩,
      ⟨(some 21), (some (20, false)), .call 31 [(.const (.slice none 0 0))]⟩,
      ⟨(some 22), (some (20, false)), .un .not (.tmp 21)⟩,
      ⟨(some 23), none, .pick (.tmp 20) (.const (.bool true)) (.tmp 22)⟩])
   (.ite (.tmp 23)
     (.seq (.reg [
        ⟨(some 8), none, .mov (.const (.bool false))⟩])
     (.ret))
     (.skip)))
  (.seq (.seq (.reg [
      ⟨(some 24), none, .mov (.tmp 9)⟩,
      ⟨(some 25), none, .len (.tmp 24)⟩,
      ⟨(some 26), none, .bin .eql (.tmp 25) (.const (.int .i64 0))⟩])
   (.ite (.tmp 26)
     (.seq (.reg [
        ⟨(some 27), none, .call 11 []⟩,
        ⟨(some 8), none, .mov (.tmp 27)⟩])
     (.ret))
     (.skip)))
  (.seq (.reg [
     ⟨(some 28), none, .mov (.tmp 2)⟩,
     ⟨(some 29), none, .mov (.tmp 9)⟩,
     ⟨(some 30), none, .len (.tmp 29)⟩,
     ⟨(some 31), none, .bin .sub (.tmp 30) (.const (.int .i64 1))⟩,
     ⟨(some 32), none, .call 19 [(.tmp 28), (.const (.int .i64 0)), (.tmp 31)]⟩,
     ⟨(some 10), none, .mov (.tmp 32)⟩])
  (.seq (.reg [
     ⟨(some 33), none, .mov (.tmp 3)⟩,
     ⟨(some 34), none, .call 19 [(.tmp 33), (.const (.int .i64 0)), (.const (.int .i64 1099511627776))]⟩,
     ⟨(some 35), none, .bin .add (.const (.int .i64 1)) (.tmp 34)⟩,
     ⟨(some 11), none, .mov (.tmp 35)⟩])
  (.seq (.reg [
     ⟨(some 36), none, .mkrow [] 0 []⟩,
     ⟨(some 37), none, .mov (.tmp 9)⟩,
     ⟨(some 38), none, .append 7 56 (.tmp 36) (.tmp 37)⟩,
     ⟨(some 12), none, .mov (.tmp 38)⟩])
  (.seq (.reg [
     ⟨(some 39), none, .mov (.tmp 12)⟩,
     ⟨(some 40), none, .mov (.tmp 10)⟩,
     ⟨(some 41), none, .iadr 7 none (.tmp 39) (.tmp 40)⟩,
     ⟨(some 13), none, .mov (.tmp 41)⟩])
  (.seq (.seq (.reg [
      ⟨(some 42), none, .mov (.tmp 1)⟩,
      ⟨(some 43), none, .call 19 [(.tmp 42), (.const (.int .i64 0)), (.const (.int .i64 11))]⟩])
   (.block 0
     (.seq (.reg [
        ⟨(some 58), none, .bin .eql (.tmp 43) (.const (.int .i64 0))⟩,
        ⟨(some 57), none, .mov (.tmp 58)⟩])
     (.ite (.tmp 57)
       (.seq (.reg [
          ⟨(some 59), none, .mov (.tmp 13)⟩,
          ⟨(some 60), none, .mov (.tmp 11)⟩,
          ⟨(some 61), none, .un .neg (.tmp 60)⟩,
          ⟨(some 62), none, .nilck (.tmp 59)⟩,
          ⟨(some 63), none, .fadr 0 (.tmp 62)⟩,
          ⟨none, none, .store (.tmp 63) (.tmp 61) 1⟩])
       (.seq (.reg [
          ⟨(some 64), none, .mov (.tmp 10)⟩,
          ⟨(some 65), none, .bin .gtr (.tmp 64) (.const (.int .i64 0))⟩])
       (.ite (.tmp 65)
         (.reg [
           ⟨(some 66), none, .mov (.tmp 13)⟩,
           ⟨(some 67), none, .mov (.tmp 12)⟩,
           ⟨(some 68), none, .mov (.tmp 10)⟩,
           ⟨(some 69), none, .bin .sub (.tmp 68) (.const (.int .i64 1))⟩,
           ⟨(some 70), none, .iadr 7 none (.tmp 67) (.tmp 69)⟩,
           ⟨(some 71), none, .fadr 0 (.tmp 70)⟩,
           ⟨(some 72), none, .load (.tmp 71) none⟩,
           ⟨(some 73), none, .nilck (.tmp 66)⟩,
           ⟨(some 74), none, .fadr 0 (.tmp 73)⟩,
           ⟨none, none, .store (.tmp 74) (.tmp 72) 1⟩])
         (.skip))))
       (.seq (.reg [
          ⟨(some 76), none, .bin .eql (.tmp 43) (.const (.int .i64 1))⟩,
          ⟨(some 75), none, .mov (.tmp 76)⟩])
       (.ite (.tmp 75)
         (.reg [
           ⟨(some 77), none, .mov (.tmp 13)⟩,
           ⟨(some 78), none, .mov (.tmp 11)⟩,
           ⟨(some 79), none, .bin .add (.const (.int .i64 1099511627776)) (.tmp 78)⟩,
           ⟨(some 80), none, .nilck (.tmp 77)⟩,
           ⟨(some 81), none, .fadr 1 (.tmp 80)⟩,
           ⟨none, none, .store (.tmp 81) (.tmp 79) 1⟩])
         (.seq (.reg [
            ⟨(some 83), none, .bin .eql (.tmp 43) (.const (.int .i64 2))⟩,
            ⟨(some 82), none, .mov (.tmp 83)⟩])
         (.ite (.tmp 82)
           (.reg [
             ⟨(some 84), none, .mov (.tmp 13)⟩,
             ⟨(some 85), none, .mov (.tmp 11)⟩,
             ⟨(some 86), none, .un .neg (.tmp 85)⟩,
             ⟨(some 87), none, .nilck (.tmp 84)⟩,
             ⟨(some 88), none, .fadr 1 (.tmp 87)⟩,
             ⟨none, none, .store (.tmp 88) (.tmp 86) 1⟩])
           (.seq (.reg [
              ⟨(some 90), none, .bin .eql (.tmp 43) (.const (.int .i64 3))⟩,
              ⟨(some 89), none, .mov (.tmp 90)⟩])
           (.ite (.tmp 89)
             (.reg [
               ⟨(some 91), none, .mov (.tmp 13)⟩,
               ⟨(some 92), none, .mov (.tmp 11)⟩,
               ⟨(some 93), none, .bin .add (.const (.int .i64 1099511627776)) (.tmp 92)⟩,
               ⟨(some 94), none, .nilck (.tmp 91)⟩,
               ⟨(some 95), none, .fadr 2 (.tmp 94)⟩,
               ⟨none, none, .store (.tmp 95) (.tmp 93) 1⟩])
             (.seq (.reg [
                ⟨(some 97), none, .bin .eql (.tmp 43) (.const (.int .i64 4))⟩,
                ⟨(some 96), none, .mov (.tmp 97)⟩])
             (.ite (.tmp 96)
               (.reg [
                 ⟨(some 98), none, .mov (.tmp 13)⟩,
                 ⟨(some 99), none, .mov (.tmp 11)⟩,
                 ⟨(some 100), none, .un .neg (.tmp 99)⟩,
                 ⟨(some 101), none, .nilck (.tmp 98)⟩,
                 ⟨(some 102), none, .fadr 2 (.tmp 101)⟩,
                 ⟨none, none, .store (.tmp 102) (.tmp 100) 1⟩])
               (.seq (.reg [
                  ⟨(some 104), none, .bin .eql (.tmp 43) (.const (.int .i64 5))⟩,
                  ⟨(some 103), none, .mov (.tmp 104)⟩])
               (.ite (.tmp 103)
                 (.reg [
                   ⟨(some 105), none, .mov (.tmp 13)⟩,
                   ⟨(some 106), none, .mov (.tmp 11)⟩,
                   ⟨(some 107), none, .bin .add (.const (.int .i64 1099511627776)) (.tmp 106)⟩,
                   ⟨(some 108), none, .nilck (.tmp 105)⟩,
                   ⟨(some 109), none, .fadr 3 (.tmp 108)⟩,
                   ⟨none, none, .store (.tmp 109) (.tmp 107) 1⟩])
                 (.seq (.reg [
                    ⟨(some 111), none, .bin .eql (.tmp 43) (.const (.int .i64 6))⟩,
                    ⟨(some 110), none, .mov (.tmp 111)⟩])
                 (.ite (.tmp 110)
                   (.reg [
                     ⟨(some 112), none, .mov (.tmp 13)⟩,
                     ⟨(some 113), none, .mov (.tmp 11)⟩,
                     ⟨(some 114), none, .un .neg (.tmp 113)⟩,
                     ⟨(some 115), none, .nilck (.tmp 112)⟩,
                     ⟨(some 116), none, .fadr 3 (.tmp 115)⟩,
                     ⟨none, none, .store (.tmp 116) (.tmp 114) 1⟩])
                   (.seq (.reg [
                      ⟨(some 118), none, .bin .eql (.tmp 43) (.const (.int .i64 7))⟩,
                      ⟨(some 117), none, .mov (.tmp 118)⟩])
                   (.ite (.tmp 117)
                     (.reg [
                       ⟨(some 119), none, .mov (.tmp 13)⟩,
                       ⟨(some 120), none, .mov (.tmp 11)⟩,
                       ⟨(some 121), none, .bin .add (.const (.int .i64 1099511627776)) (.tmp 120)⟩,
                       ⟨(some 122), none, .nilck (.tmp 119)⟩,
                       ⟨(some 123), none, .fadr 4 (.tmp 122)⟩,
                       ⟨none, none, .store (.tmp 123) (.tmp 121) 1⟩])
                     (.seq (.reg [
                        ⟨(some 125), none, .bin .eql (.tmp 43) (.const (.int .i64 8))⟩,
                        ⟨(some 124), none, .mov (.tmp 125)⟩])
                     (.ite (.tmp 124)
                       (.reg [
                         ⟨(some 126), none, .mov (.tmp 13)⟩,
                         ⟨(some 127), none, .mov (.tmp 11)⟩,
                         ⟨(some 128), none, .un .neg (.tmp 127)⟩,
                         ⟨(some 129), none, .nilck (.tmp 126)⟩,
                         ⟨(some 130), none, .fadr 4 (.tmp 129)⟩,
                         ⟨none, none, .store (.tmp 130) (.tmp 128) 1⟩])
                       (.seq (.reg [
                          ⟨(some 132), none, .bin .eql (.tmp 43) (.const (.int .i64 9))⟩,
                          ⟨(some 131), none, .mov (.tmp 132)⟩])
                       (.ite (.tmp 131)
                         (.reg [
                           ⟨(some 133), none, .mov (.tmp 13)⟩,
                           ⟨(some 134), none, .mov (.tmp 11)⟩,
                           ⟨(some 135), none, .bin .add (.const (.int .i64 12)) (.tmp 134)⟩,
                           ⟨(some 136), none, .nilck (.tmp 133)⟩,
                           ⟨(some 137), none, .fadr 5 (.tmp 136)⟩,
                           ⟨none, none, .store (.tmp 137) (.tmp 135) 1⟩])
                         (.seq (.reg [
                            ⟨(some 139), none, .bin .eql (.tmp 43) (.const (.int .i64 10))⟩,
                            ⟨(some 138), none, .mov (.tmp 139)⟩])
                         (.ite (.tmp 138)
                           (.reg [
                             ⟨(some 140), none, .mov (.tmp 13)⟩,
                             ⟨(some 141), none, .mov (.tmp 11)⟩,
                             ⟨(some 142), none, .un .neg (.tmp 141)⟩,
                             ⟨(some 143), none, .nilck (.tmp 140)⟩,
                             ⟨(some 144), none, .fadr 5 (.tmp 143)⟩,
                             ⟨none, none, .store (.tmp 144) (.tmp 142) 1⟩])
                           (.seq (.reg [
                              ⟨(some 12), none, .mov (.const (.slice none 0 0))⟩])
                           (.seq (.reg [
                              ⟨(some 14), none, .mov (.const (.int .i64 0))⟩])
                           (.block 1
                             (.loop
                               (.seq (.seq (.reg [
                                   ⟨(some 44), none, .mov (.tmp 14)⟩,
                                   ⟨(some 45), none, .mov (.tmp 11)⟩,
                                   ⟨(some 46), none, .bin .rem (.tmp 45) (.const (.int .i64 9))⟩,
                                   ⟨(some 47), none, .bin .add (.const (.int .i64 65)) (.tmp 46)⟩,
                                   ⟨(some 48), none, .bin .lss (.tmp 44) (.tmp 47)⟩])
                                (.ite (.tmp 48)
                                  (.skip)
                                  (.exit 1)))
                               (.seq (.block 2
                                  (.reg [
                                    ⟨(some 51), none, .mov (.tmp 12)⟩,
                                    ⟨(some 52), none, .mov (.tmp 14)⟩,
                                    ⟨(some 53), none, .bin .add (.tmp 52) (.const (.int .i64 1))⟩,
                                    ⟨(some 54), none, .build [(.int .i64 0), (.int .i64 0), (.int .i64 0), (.int .i64 0), (.int .i64 0), (.int .i64 0), (.bool false)] [(0, 1, (.tmp 53))]⟩,
                                    ⟨(some 55), none, .mkrow [(.int .i64 0), (.int .i64 0), (.int .i64 0), (.int .i64 0), (.int .i64 0), (.int .i64 0), (.bool false)] 1 [(0, 7, (.tmp 54))]⟩,
                                    ⟨(some 56), none, .append 7 56 (.tmp 51) (.tmp 55)⟩,
                                    ⟨(some 12), none, .mov (.tmp 56)⟩]))
                               (.reg [
                                 ⟨(some 49), none, .mov (.tmp 14)⟩,
                                 ⟨(some 50), none, .bin .add (.tmp 49) (.const (.int .i64 1))⟩,
                                 ⟨(some 14), none, .mov (.tmp 50)⟩])))))))))))))))))))))))))))))))
  (.seq (.reg [
     ⟨(some 145), none, .mov (.tmp 12)⟩,
     ⟨(some 146), none, .call 31 [(.tmp 145)]⟩,
     ⟨(some 147), none, .un .not (.tmp 146)⟩,
     ⟨(some 148), none, .mov (.tmp 147)⟩,
     ⟨(some 149), (some (148, true)), .call 11 []⟩,
     ⟨(some 150), none, .pick (.tmp 148) (.tmp 149) (.const (.bool false))⟩,
     ⟨(some 8), none, .mov (.tmp 150)⟩])
  (.ret))))))))))
def hn12a (s0 s1 s2 s3 s4 s5 la lt l3 : Value) (a1 a2 a3 n y : Int) (b o o2 : Nat) (H Ha Hb H3 Hs0n Hs0y Hs1p Hs1n Hs2p Hs2n Hs3p Hs3n Hs4p Hs4n Hs5p Hs5n : Heap) : Hj := (.use 15 (.agg ⟨[s0, s1, s2, s3, s4, s5]⟩) (H ++ [some (Blk.mk .fix [s0, s1, s2, s3, s4, s5])]) (.use 16 la Ha (.use 18 (.bool true) Ha (.con (.use 21 (.bool true) Ha (.con (.con (.con (.use 25 (.int .i64 n) Ha (.sym .nil (.use 30 (.int .i64 n) Ha (.use 38 lt Hb (.use 41 (.pointer (some ⟨b, (o + 0), none⟩)) Hb (.sym (.use 9999 (.tuple ⟨[]⟩) Hs0n (.sym (.use 70 (.pointer (some ⟨b, (o2 + 0), none⟩)) Hs0n (.use 72 (.int .i64 y) Hs0n (.use 9999 (.tuple ⟨[]⟩) Hs0y (.use 146 (.bool false) Hs0y (.con (.con .nil)))))) (.use 146 (.bool false) Hs0n (.con (.con .nil))))) (.sym (.use 9999 (.tuple ⟨[]⟩) Hs1p (.use 146 (.bool false) Hs1p (.con (.con .nil)))) (.sym (.use 9999 (.tuple ⟨[]⟩) Hs1n (.use 146 (.bool false) Hs1n (.con (.con .nil)))) (.sym (.use 9999 (.tuple ⟨[]⟩) Hs2p (.use 146 (.bool false) Hs2p (.con (.con .nil)))) (.sym (.use 9999 (.tuple ⟨[]⟩) Hs2n (.use 146 (.bool false) Hs2n (.con (.con .nil)))) (.sym (.use 9999 (.tuple ⟨[]⟩) Hs3p (.use 146 (.bool false) Hs3p (.con (.con .nil)))) (.sym (.use 9999 (.tuple ⟨[]⟩) Hs3n (.use 146 (.bool false) Hs3n (.con (.con .nil)))) (.sym (.use 9999 (.tuple ⟨[]⟩) Hs4p (.use 146 (.bool false) Hs4p (.con (.con .nil)))) (.sym (.use 9999 (.tuple ⟨[]⟩) Hs4n (.use 146 (.bool false) Hs4n (.con (.con .nil)))) (.sym (.use 9999 (.tuple ⟨[]⟩) Hs5p (.use 146 (.bool false) Hs5p (.con (.con .nil)))) (.sym (.use 9999 (.tuple ⟨[]⟩) Hs5n (.use 146 (.bool false) Hs5n (.con (.con .nil)))) (.lp 1 [8, 12] (fr 151 [(8, (.bool false)), (12, l3)]) H3 (.use 146 (.bool false) H3 (.con (.con .nil))))))))))))))))))))))))))))
theorem tree12a (s0 s1 s2 s3 s4 s5 la lt l3 : Value) (a1 a2 a3 n y : Int) (b o o2 : Nat) (H Ha Hb H3 Hs0n Hs0y Hs1p Hs1n Hs2p Hs2n Hs3p Hs3n Hs4p Hs4n Hs5p Hs5n : Heap) : pieceT tblR gT 100 (resLv [.tmp 8]) il12a (hn12a s0 s1 s2 s3 s4 s5 la lt l3 a1 a2 a3 n y b o o2 H Ha Hb H3 Hs0n Hs0y Hs1p Hs1n Hs2p Hs2n Hs3p Hs3n Hs4p Hs4n Hs5p Hs5n) (fr 151 [(0, (.agg ⟨[s0, s1, s2, s3, s4, s5]⟩)), (1, (.int .i64 a1)), (2, (.int .i64 a2)), (3, (.int .i64 a3))]) H =
(.claim (opA (Plain.env tblR gT) (.load (.const (.pointer (some ⟨(H).length, 0, none⟩))) (some 6)) [] (H ++ [some (Blk.mk .fix [s0, s1, s2, s3, s4, s5])]) = some ((.agg ⟨[s0, s1, s2, s3, s4, s5]⟩), (H ++ [some (Blk.mk .fix [s0, s1, s2, s3, s4, s5])])))
 (.claim (opA (Plain.env tblR gT) (.call 33 [(.const (.agg ⟨[s0, s1, s2, s3, s4, s5]⟩))]) [] (H ++ [some (Blk.mk .fix [s0, s1, s2, s3, s4, s5])]) = some (la, Ha))
 (.claim (opA (Plain.env tblR gT) (.call 31 [(.const la)]) [] Ha = some ((.bool true), Ha))
 (.claim (opA (Plain.env tblR gT) (.call 31 [(.const (.slice none 0 0))]) [] Ha = some ((.bool true), Ha))
 (.claim (opA (Plain.env tblR gT) (.len (.const la)) [] Ha = some ((.int .i64 n), Ha))
 (.br (n == 0)
 (.req true (.ret (pk .ret (fr 151 [(8, (.bool true))])) Ha))
 (.claim (opA (Plain.env tblR gT) (.len (.const la)) [] Ha = some ((.int .i64 n), Ha))
 (.req (preWithin 0 (IntKind.wrap .i64 (n - 1))) (.req (preWithin 0 1099511627776) (.claim (opA (Plain.env tblR gT) (.append 7 56 (.const (.slice (some ⟨(Ha).length, 0, none⟩) 0 0)) (.const la)) [] (Ha ++ [some (Blk.mk .fix [])]) = some (lt, Hb))
 (.claim (opA (Plain.env tblR gT) (.iadr 7 none (.const lt) (.const (.int .i64 (wn a2 0 (IntKind.wrap .i64 (n - 1)))))) [] Hb = some ((.pointer (some ⟨b, (o + 0), none⟩)), Hb))
 (.req (preWithin 0 11) (.br ((wn a1 0 11) == 0)
 (.claim (opA (Plain.env tblR gT) (.store (.const (.pointer (some ⟨b, (o + 0), none⟩))) (.const (.int .i64 (IntKind.wrap .i64 (0 - (IntKind.wrap .i64 (1 + (wn a3 0 1099511627776))))))) 1) [] Hb = some ((.tuple ⟨[]⟩), Hs0n))
 (.br (decide ((wn a2 0 (IntKind.wrap .i64 (n - 1))) > 0))
 (.claim (opA (Plain.env tblR gT) (.iadr 7 none (.const lt) (.const (.int .i64 (IntKind.wrap .i64 ((wn a2 0 (IntKind.wrap .i64 (n - 1))) - 1))))) [] Hs0n = some ((.pointer (some ⟨b, (o2 + 0), none⟩)), Hs0n))
 (.claim (opA (Plain.env tblR gT) (.load (.const (.pointer (some ⟨b, (o2 + 0), none⟩))) none) [] Hs0n = some ((.int .i64 y), Hs0n))
 (.claim (opA (Plain.env tblR gT) (.store (.const (.pointer (some ⟨b, (o + 0), none⟩))) (.const (.int .i64 y)) 1) [] Hs0n = some ((.tuple ⟨[]⟩), Hs0y))
 (.claim (opA (Plain.env tblR gT) (.call 31 [(.const lt)]) [] Hs0y = some ((.bool false), Hs0y))
 (.req true (.ret (pk .ret (fr 151 [(8, (.bool true))])) Hs0y))))))
 (.claim (opA (Plain.env tblR gT) (.call 31 [(.const lt)]) [] Hs0n = some ((.bool false), Hs0n))
 (.req true (.ret (pk .ret (fr 151 [(8, (.bool true))])) Hs0n)))))
 (.br ((wn a1 0 11) == 1)
 (.claim (opA (Plain.env tblR gT) (.store (.const (.pointer (some ⟨b, (o + 1), none⟩))) (.const (.int .i64 (IntKind.wrap .i64 (1099511627776 + (IntKind.wrap .i64 (1 + (wn a3 0 1099511627776))))))) 1) [] Hb = some ((.tuple ⟨[]⟩), Hs1p))
 (.claim (opA (Plain.env tblR gT) (.call 31 [(.const lt)]) [] Hs1p = some ((.bool false), Hs1p))
 (.req true (.ret (pk .ret (fr 151 [(8, (.bool true))])) Hs1p))))
 (.br ((wn a1 0 11) == 2)
 (.claim (opA (Plain.env tblR gT) (.store (.const (.pointer (some ⟨b, (o + 1), none⟩))) (.const (.int .i64 (IntKind.wrap .i64 (0 - (IntKind.wrap .i64 (1 + (wn a3 0 1099511627776))))))) 1) [] Hb = some ((.tuple ⟨[]⟩), Hs1n))
 (.claim (opA (Plain.env tblR gT) (.call 31 [(.const lt)]) [] Hs1n = some ((.bool false), Hs1n))
 (.req true (.ret (pk .ret (fr 151 [(8, (.bool true))])) Hs1n))))
 (.br ((wn a1 0 11) == 3)
 (.claim (opA (Plain.env tblR gT) (.store (.const (.pointer (some ⟨b, (o + 2), none⟩))) (.const (.int .i64 (IntKind.wrap .i64 (1099511627776 + (IntKind.wrap .i64 (1 + (wn a3 0 1099511627776))))))) 1) [] Hb = some ((.tuple ⟨[]⟩), Hs2p))
 (.claim (opA (Plain.env tblR gT) (.call 31 [(.const lt)]) [] Hs2p = some ((.bool false), Hs2p))
 (.req true (.ret (pk .ret (fr 151 [(8, (.bool true))])) Hs2p))))
 (.br ((wn a1 0 11) == 4)
 (.claim (opA (Plain.env tblR gT) (.store (.const (.pointer (some ⟨b, (o + 2), none⟩))) (.const (.int .i64 (IntKind.wrap .i64 (0 - (IntKind.wrap .i64 (1 + (wn a3 0 1099511627776))))))) 1) [] Hb = some ((.tuple ⟨[]⟩), Hs2n))
 (.claim (opA (Plain.env tblR gT) (.call 31 [(.const lt)]) [] Hs2n = some ((.bool false), Hs2n))
 (.req true (.ret (pk .ret (fr 151 [(8, (.bool true))])) Hs2n))))
 (.br ((wn a1 0 11) == 5)
 (.claim (opA (Plain.env tblR gT) (.store (.const (.pointer (some ⟨b, (o + 3), none⟩))) (.const (.int .i64 (IntKind.wrap .i64 (1099511627776 + (IntKind.wrap .i64 (1 + (wn a3 0 1099511627776))))))) 1) [] Hb = some ((.tuple ⟨[]⟩), Hs3p))
 (.claim (opA (Plain.env tblR gT) (.call 31 [(.const lt)]) [] Hs3p = some ((.bool false), Hs3p))
 (.req true (.ret (pk .ret (fr 151 [(8, (.bool true))])) Hs3p))))
 (.br ((wn a1 0 11) == 6)
 (.claim (opA (Plain.env tblR gT) (.store (.const (.pointer (some ⟨b, (o + 3), none⟩))) (.const (.int .i64 (IntKind.wrap .i64 (0 - (IntKind.wrap .i64 (1 + (wn a3 0 1099511627776))))))) 1) [] Hb = some ((.tuple ⟨[]⟩), Hs3n))
 (.claim (opA (Plain.env tblR gT) (.call 31 [(.const lt)]) [] Hs3n = some ((.bool false), Hs3n))
 (.req true (.ret (pk .ret (fr 151 [(8, (.bool true))])) Hs3n))))
 (.br ((wn a1 0 11) == 7)
 (.claim (opA (Plain.env tblR gT) (.store (.const (.pointer (some ⟨b, (o + 4), none⟩))) (.const (.int .i64 (IntKind.wrap .i64 (1099511627776 + (IntKind.wrap .i64 (1 + (wn a3 0 1099511627776))))))) 1) [] Hb = some ((.tuple ⟨[]⟩), Hs4p))
 (.claim (opA (Plain.env tblR gT) (.call 31 [(.const lt)]) [] Hs4p = some ((.bool false), Hs4p))
 (.req true (.ret (pk .ret (fr 151 [(8, (.bool true))])) Hs4p))))
 (.br ((wn a1 0 11) == 8)
 (.claim (opA (Plain.env tblR gT) (.store (.const (.pointer (some ⟨b, (o + 4), none⟩))) (.const (.int .i64 (IntKind.wrap .i64 (0 - (IntKind.wrap .i64 (1 + (wn a3 0 1099511627776))))))) 1) [] Hb = some ((.tuple ⟨[]⟩), Hs4n))
 (.claim (opA (Plain.env tblR gT) (.call 31 [(.const lt)]) [] Hs4n = some ((.bool false), Hs4n))
 (.req true (.ret (pk .ret (fr 151 [(8, (.bool true))])) Hs4n))))
 (.br ((wn a1 0 11) == 9)
 (.claim (opA (Plain.env tblR gT) (.store (.const (.pointer (some ⟨b, (o + 5), none⟩))) (.const (.int .i64 (IntKind.wrap .i64 (12 + (IntKind.wrap .i64 (1 + (wn a3 0 1099511627776))))))) 1) [] Hb = some ((.tuple ⟨[]⟩), Hs5p))
 (.claim (opA (Plain.env tblR gT) (.call 31 [(.const lt)]) [] Hs5p = some ((.bool false), Hs5p))
 (.req true (.ret (pk .ret (fr 151 [(8, (.bool true))])) Hs5p))))
 (.br ((wn a1 0 11) == 10)
 (.claim (opA (Plain.env tblR gT) (.store (.const (.pointer (some ⟨b, (o + 5), none⟩))) (.const (.int .i64 (IntKind.wrap .i64 (0 - (IntKind.wrap .i64 (1 + (wn a3 0 1099511627776))))))) 1) [] Hb = some ((.tuple ⟨[]⟩), Hs5n))
 (.claim (opA (Plain.env tblR gT) (.call 31 [(.const lt)]) [] Hs5n = some ((.bool false), Hs5n))
 (.req true (.ret (pk .ret (fr 151 [(8, (.bool true))])) Hs5n))))
 (.claim (Wp (Plain.env tblR gT) (inL [8, 12]) (.block 1 (.loop body12_1)) (fr 151 [(8, (.bool false)), (11, (.int .i64 (IntKind.wrap .i64 (1 + (wn a3 0 1099511627776))))), (12, (.slice none 0 0)), (14, (.int .i64 0))]) Hb fun e s h' => e = .normal ∧ s = (fr 151 [(8, (.bool false)), (12, l3)]) ∧ h' = H3)
 (.claim (opA (Plain.env tblR gT) (.call 31 [(.const l3)]) [] H3 = some ((.bool false), H3))
 (.req true (.ret (pk .ret (fr 151 [(8, (.bool true))])) H3))))))))))))))))))))))))))) := by kernel_rfl

/-! ### A list, copied; one thing of it turned -/
theorem app_all {h Ha : Heap} {ls : List Ln} {v : Value} (a : LinesRes h ls v Ha) (hne : ls ≠ []) (hl : ls.length ≤ 12) (Γ : Env) :
    opA Γ (.append 7 56 (.const (.slice (some ⟨Ha.length, 0, none⟩) 0 0)) (.const v)) [] (Ha ++ [some (Blk.mk .fix [])]) = some (.slice (some ⟨(Ha ++ [some (Blk.mk .fix [])]).length, 0, none⟩) ls.length ls.length, (Ha ++ [some (Blk.mk .fix [])]) ++ [some ⟨.grown 7, (ls.map Ln.enc).flatten⟩]) := by
  rcases a with ⟨rfl, _, _⟩ | ⟨_, rfl, rfl⟩
  · exact absurd rfl hne
  · have hfl : (ls.map Ln.enc).flatten.length = ls.length * 7 := by rw [flat_len (w := 7) (fun r hr => by obtain ⟨x, _, rfl⟩ := List.mem_map.1 hr; rfl), List.length_map]
    have hpos : 0 < ls.length := List.length_pos_iff.2 hne
    have src : srcA ((h ++ [some (Blk.mk (.grown 7) (ls.map Ln.enc).flatten)]) ++ [some (Blk.mk .fix [])]) 7 (.slice (some ⟨h.length, 0, none⟩) ls.length ls.length) = some (ls.length, (ls.map Ln.enc).flatten) := by
      simp only [srcA, readN, rd_old (rd_last (H := h) (b := Blk.mk (.grown 7) (ls.map Ln.enc).flatten) rfl), Nat.zero_add, hfl, Nat.le_refl, if_true, List.drop_zero]
      rw [← hfl, List.take_length]
    have hread : readN ((h ++ [some (Blk.mk (.grown 7) (ls.map Ln.enc).flatten)]) ++ [some (Blk.mk .fix [])]) ⟨(h ++ [some (Blk.mk (.grown 7) (ls.map Ln.enc).flatten)]).length, 0, none⟩ (0 * 7) = some [] := by
      simp only [readN, rd_last (H := h ++ [some (Blk.mk (.grown 7) (ls.map Ln.enc).flatten)]) (b := Blk.mk .fix []) rfl]
      rfl
    have hend : isEnd ((h ++ [some (Blk.mk (.grown 7) (ls.map Ln.enc).flatten)]) ++ [some (Blk.mk .fix [])]) 7 ⟨(h ++ [some (Blk.mk (.grown 7) (ls.map Ln.enc).flatten)]).length, 0, none⟩ 0 = some false := by
      simp only [isEnd, rd_last (H := h ++ [some (Blk.mk (.grown 7) (ls.map Ln.enc).flatten)]) (b := Blk.mk .fix []) rfl]
    simp only [opA, ev, appA, src]
    rw [if_neg (by omega)]
    have h1 : ¬ (ls.length ≤ 0) := by omega
    have h2 : 0 < 7 ∧ ls.length * 56 ≤ 1099511627776 ∧ ls.length ≤ 1099511627776 := ⟨by omega, by omega, by omega⟩
    simp only [Nat.zero_add]
    rw [if_neg h1, if_pos h2]
    simp only [hread, hend, List.nil_append]
    rfl
theorem setR_left {a l : List Value} {f : Nat} {v : Value} (hf : f < a.length) : setR (a ++ l) f [v] = setR a f [v] ++ l := by
  simp only [setR, List.length_cons, List.length_nil]
  rw [List.take_append_of_le_length (by omega), List.drop_append_of_le_length (by omega)]
  simp
theorem setR_right {a l : List Value} {k : Nat} {v : Value} : setR (a ++ l) (a.length + k) [v] = a ++ setR l k [v] := by
  simp only [setR, List.length_cons, List.length_nil]
  rw [List.take_append, List.drop_append, List.take_of_length_le (by omega), List.drop_eq_nil_of_le (by omega), show a.length + k - a.length = k by omega, show a.length + k + (0 + 1) - a.length = k + (0 + 1) by omega]
  simp
theorem set_flat : ∀ (ls : List Ln) (i : Nat) (x x' : Ln) (f : Nat) (v : Value), ls[i]? = some x → f < 7 → setR x.enc f [v] = x'.enc → setR (ls.map Ln.enc).flatten (i * 7 + f) [v] = ((ls.set i x').map Ln.enc).flatten
  | [], i, x, x', f, v, h, _, _ => by simp at h
  | a :: l, 0, x, x', f, v, h, hf, he => by
    simp at h; subst h
    rw [List.map_cons, List.flatten_cons, Nat.zero_mul, Nat.zero_add, setR_left (by exact hf), he]
    rfl
  | a :: l, i + 1, x, x', f, v, h, hf, he => by
    have := set_flat l i x x' f v (by simpa using h) hf he
    rw [List.map_cons, List.flatten_cons, show (i + 1) * 7 + f = a.enc.length + (i * 7 + f) by (show (i + 1) * 7 + f = 7 + (i * 7 + f)); omega, setR_right, this]
    rfl
structure Cp (H : Heap) (B : Nat) (ls : List Ln) : Prop where
  r : rd H B = some ⟨.grown 7, (ls.map Ln.enc).flatten⟩
theorem Cp.rows {H : Heap} {B : Nat} {ls : List Ln} (c : Cp H B ls) : RowsAt 7 H (.slice (some ⟨B, 0, none⟩) ls.length ls.length) (ls.map Ln.enc) :=
  .inr ⟨B, 0, ls.length, ⟨.grown 7, (ls.map Ln.enc).flatten⟩, by rw [List.length_map], c.r, fun i r e => by
    rw [Nat.zero_add]
    exact flat_at (w := 7) _ (fun r hr => by obtain ⟨x, _, rfl⟩ := List.mem_map.1 hr; rfl) i r e⟩
theorem Cp.at_ {H : Heap} {B : Nat} {ls : List Ln} (c : Cp H B ls) {i : Nat} (hi : i < ls.length) (n : Nat) (hn : n = ls.length) (Γ : Env) (H' : Heap) : opA Γ (.iadr 7 none (.const (.slice (some ⟨B, 0, none⟩) n n)) (.const (.int .i64 i))) [] H' = some ((.pointer (some ⟨B, (i * 7 + 0), none⟩)), H') := by
  subst hn
  have h1 : (0 : Int) ≤ i ∧ (i : Int) < ls.length := ⟨by omega, by omega⟩
  simp only [opA, pureA, ev, h1, and_self, if_true, Int.toNat_natCast, Nat.zero_add, Nat.add_zero]
theorem Cp.store {H : Heap} {B : Nat} {ls : List Ln} (c : Cp H B ls) {i : Nat} {x x' : Ln} {f : Nat} {z : Int} (hx : ls[i]? = some x) (hf : f < 7) (he : setR x.enc f [.int .i64 z] = x'.enc) :
    ∃ H', (∀ Γ, opA Γ (.store (.const (.pointer (some ⟨B, (i * 7 + f), none⟩))) (.const (.int .i64 z)) 1) [] H = some ((.tuple ⟨[]⟩), H')) ∧ Cp H' B (ls.set i x') := by
  have hlt := (List.getElem?_eq_some_iff.1 hx).1
  have hfl : (ls.map Ln.enc).flatten.length = ls.length * 7 := by rw [flat_len (w := 7) (fun r hr => by obtain ⟨x, _, rfl⟩ := List.mem_map.1 hr; rfl), List.length_map]
  refine ⟨H.set B (some ⟨.grown 7, ((ls.set i x').map Ln.enc).flatten⟩), fun Γ => st_ c.r (by intro q; cases q) rfl rfl (by rw [hfl]; omega) (set_flat ls i x x' f _ hx hf he) rfl, ⟨rd_set (rd_lt c.r)⟩⟩
theorem Cp.wrong {H : Heap} {B : Nat} {ls : List Ln} (c : Cp H B ls) (n : Nat) (hn : n = ls.length) (hl : ls.length ≤ 12) (hc : chk 0 ls = false) : opA (Plain.env tblR gT) (.call 31 [(.const (.slice (some ⟨B, 0, none⟩) n n))]) [] H = some ((.bool false), H) := by
  subst hn
  have := right_at c.rows (by omega)
  rw [this, RightB, hc, Bool.and_false]
theorem rows_of_ls {n0 : Nat} {H : Heap} {l : Value} {rows : List (List Value)} (a : LsOf 7 n0 H l rows) : RowsAt 7 H l rows := by
  obtain ⟨a1, ⟨rfl, rfl⟩ | ⟨B, rfl, _, _, b4⟩⟩ := a
  · exact .inl ⟨rfl, rfl⟩
  · refine .inr ⟨B, 0, rows.length, _, rfl, b4, fun i r e => ?_⟩
    rw [Nat.zero_add]
    exact flat_at rows a1 i r e
def manyTo (n : Nat) : List Ln := (List.range n).map fun (j : Nat) => (⟨((j : Int) + 1), 0, 0, 0, 0, 0, false⟩ : Ln)
theorem many_succ (n : Nat) : (manyTo (n + 1)).map Ln.enc = (manyTo n).map Ln.enc ++ [[.int .i64 ((n : Int) + 1), .int .i64 0, .int .i64 0, .int .i64 0, .int .i64 0, .int .i64 0, .bool false]] := by
  simp [manyTo, List.range_succ, Ln.enc]
theorem many_len (n : Nat) : (manyTo n).length = n := by simp [manyTo]
abbrev fr12 (m : Int) (l : Value) (j : Int) : Fr := fr 151 [(8, (.bool false)), (11, (.int .i64 m)), (12, l), (14, (.int .i64 j))]
def inv12 (m : Int) (K : Nat) (k : Nat) (t : Fr) (H : Heap) : Prop := ∃ (j : Nat) (l : Value), j + k = K ∧ t = fr12 m l j ∧ LsOf 7 0 H l ((manyTo j).map Ln.enc)
theorem loop12 {m : Int} {H0 : Heap} (hm : 0 ≤ m) {K : Nat} (hK : 65 + Int.tmod m 9 = K) : Wp (Plain.env tblR gT) (inL [8, 12]) (.block 1 (.loop body12_1)) (fr12 m (.slice none 0 0) 0) H0 fun e t H => ∃ l, e = .normal ∧ t = fr 151 [(8, (.bool false)), (12, l)] ∧ LsOf 7 0 H l ((manyTo K).map Ln.enc) := by
  have hK1 : K ≤ 73 := by have := Int.tmod_lt_of_pos m (b := 9) (by omega); omega
  have wk : IntKind.wrap .i64 (65 + Int.tmod m 9) = K := by rw [hK, wrap_id (by omega) (by omega)]
  refine Wp.block ((Wp.loop (K := fun e t H => ∃ l, e = .exit 1 ∧ t = fr12 m l K ∧ LsOf 7 0 H l ((manyTo K).map Ln.enc)) (inv12 m K) ?_ K _ _ ⟨0, _, by omega, rfl, by simp [manyTo], .inl ⟨rfl, rfl⟩⟩).ends fun e t H ⟨l, q1, q2, q3⟩ => ?_)
  rotate_right
  · subst q1 q2
    exact ⟨_, norm_ag (inL [8, 12]) _, l, rfl, by kernel_rfl, q3⟩
  rintro k t H ⟨j, l, hj, ht, hI⟩
  subst ht
  cases k with
  | zero =>
    have : j = K := by omega
    subst this
    refine Wp.piece 100 (hn12t l l m j H H) ?_
    rw [tree12t, wk]
    exact ⟨rfl, fun q => by simp at q, fun _ => outP_pk ⟨l, rfl, rfl, hI⟩⟩
  | succ k =>
    have hll : ((manyTo j).map Ln.enc).length = j := by rw [List.length_map, many_len]
    obtain ⟨l2, H2, g1, g2, _, _, _⟩ := LsOf.grow (h0 := []) (eby := 56) (row := [.int .i64 ((j : Int) + 1), .int .i64 0, .int .i64 0, .int .i64 0, .int .i64 0, .int .i64 0, .bool false]) hI rfl (by decide) (by rw [hll]; omega) (by rw [hll]; omega) (by simp) (by simp)
    have wj : IntKind.wrap .i64 ((j : Int) + 1) = (j : Int) + 1 := wrap_id (by omega) (by omega)
    refine Wp.piece 100 (hn12t l l2 m j H H2) ?_
    rw [tree12t, wk, wj]
    exact ⟨rfl, fun _ => ⟨g1 _, outP_pk ⟨k, by omega, j + 1, l2, by omega, rfl, by rw [many_succ]; exact g2⟩⟩, fun q => by simp at q; omega⟩
theorem start12 (s0 s1 s2 s3 s4 s5 : Value) (a1 a2 a3 : Int) : (([.agg ⟨[s0, s1, s2, s3, s4, s5]⟩, .int .i64 a1, .int .i64 a2, .int .i64 a3] : List Value) ++ List.replicate (il12.ntmps - ([.agg ⟨[s0, s1, s2, s3, s4, s5]⟩, .int .i64 a1, .int .i64 a2, .int .i64 a3] : List Value).length) undef) = fr 151 [(0, (.agg ⟨[s0, s1, s2, s3, s4, s5]⟩)), (1, (.int .i64 a1)), (2, (.int .i64 a2)), (3, (.int .i64 a3))] := by kernel_rfl
theorem right_law {H : Heap} {s0 s1 s2 s3 s4 s5 : Value} {S : Tp} (hS : TpAt H s0 s1 s2 s3 s4 s5 S) (a1 a2 a3 : Int) : Sim Try.prog 12 [.agg ⟨[s0, s1, s2, s3, s4, s5]⟩, .int .i64 a1, .int .i64 a2, .int .i64 a3] H fun v _ => v = .bool true := by
  refine wp_sim' mixed (Plain.ok okR gT_ok) (Plain.quiet gT_quiet) st12 ?_
  rw [start12, show il12.res = [.tmp 8] from rfl, show il12.body = il12a from rfl]
  obtain ⟨la, Ha, ea, ra⟩ := linesT_at (hS.more (fun B blk e => rd_old (X := [some (Blk.mk .fix [s0, s1, s2, s3, s4, s5])]) e))
  have len12 : (lines S).length ≤ 12 := by rw [lines_len]; omega
  have hlen : ∀ Γ H', opA Γ (.len (.const la)) [] H' = some ((.int .i64 (lines S).length), H') := fun Γ H' => by have := ra.rows.len (Γ := Γ) (H := H'); rw [List.length_map] at this; exact this
  have r1 : opA (Plain.env tblR gT) (.call 31 [(.const la)]) [] Ha = some ((.bool true), Ha) := by have := right_at ra.rows (by omega); rwa [right_lines] at this
  have r2 : opA (Plain.env tblR gT) (.call 31 [(.const (.slice none 0 0))]) [] Ha = some ((.bool true), Ha) := right_at (rows := []) (.inl ⟨rfl, rfl⟩) (by simp)
  have fin : ∀ h', outP (fun e s h' => (e = .normal ∨ e = .ret) ∧ ∃ v, resA s h' [.tmp 8] = some v ∧ v = .bool true) (pk .ret (fr 151 [(8, (.bool true))])) h' := fun h' => outP_pk ⟨.inr rfl, _, rfl, rfl⟩
  generalize lines S = ls at *
  by_cases hz : ls = []
  · refine Wp.piece 100 (hn12a s0 s1 s2 s3 s4 s5 la la la a1 a2 a3 ls.length 0 0 0 0 H Ha Ha Ha Ha Ha Ha Ha Ha Ha Ha Ha Ha Ha Ha Ha) ?_
    rw [tree12a]
    exact ⟨ldn (rd_last rfl) (by simp) rfl, ea, r1, r2, hlen _ _, fun _ => ⟨rfl, fin _⟩, fun q => by simp [hz] at q⟩
  have hpos : 0 < ls.length := List.length_pos_iff.2 hz
  have wn1 : IntKind.wrap .i64 ((ls.length : Int) - 1) = (ls.length : Int) - 1 := wrap_id (by omega) (by omega)
  obtain ⟨i, hi⟩ : ∃ i : Nat, wn a2 0 ((ls.length : Int) - 1) = i := ⟨(wn a2 0 ((ls.length : Int) - 1)).toNat, by have := wn_lo (x := a2) (lo := 0) (hi := (ls.length : Int) - 1) (by omega); omega⟩
  have hil : i < ls.length := by have := wn_hi (x := a2) (lo := 0) (hi := (ls.length : Int) - 1) (by omega); omega
  have hpre : preWithin 0 ((ls.length : Int) - 1) = true := by simp [preWithin]; omega
  have m1 := wn_lo (x := a3) (lo := 0) (hi := 1099511627776) (by omega)
  have m2 := wn_hi (x := a3) (lo := 0) (hi := 1099511627776) (by omega)
  have wm : IntKind.wrap .i64 (1 + wn a3 0 1099511627776) = 1 + wn a3 0 1099511627776 := wrap_id (by omega) (by omega)
  generalize hM : 1 + wn a3 0 1099511627776 = M at *
  have wneg : IntKind.wrap .i64 (0 - M) = 0 - M := wrap_id (by omega) (by omega)
  have wc : IntKind.wrap .i64 (1099511627776 + M) = 1099511627776 + M := wrap_id (by omega) (by omega)
  have wl : IntKind.wrap .i64 (12 + M) = 12 + M := wrap_id (by omega) (by omega)
  have hx : ls[i]? = some ls[i] := List.getElem?_eq_getElem hil
  generalize ls[i] = x at hx
  have eapp := app_all ra hz len12 (Plain.env tblR gT)
  obtain ⟨Hb, hHb⟩ : ∃ Hb, Hb = (Ha ++ [some (Blk.mk .fix [])]) ++ [some ⟨.grown 7, (ls.map Ln.enc).flatten⟩] := ⟨_, rfl⟩
  have cp : Cp Hb (Ha ++ [some (Blk.mk .fix [])]).length ls := ⟨by subst hHb; exact rd_last rfl⟩
  rw [← hHb] at eapp
  generalize (Ha ++ [some (Blk.mk .fix [])]).length = B at *
  obtain ⟨K, hK⟩ : ∃ K : Nat, 65 + Int.tmod M 9 = K := ⟨(65 + Int.tmod M 9).toNat, by have := Int.tmod_nonneg 9 (a := M) (by omega); omega⟩
  obtain ⟨e3, t3, H3, ⟨l3, k1, k2, k3⟩, w⟩ := (loop12 (H0 := Hb) (m := M) (by omega) hK).exact
  subst k1 k2
  have hK0 : 65 ≤ K := by have := Int.tmod_nonneg 9 (a := M) (by omega); omega
  have hK1 : K ≤ 73 := by have := Int.tmod_lt_of_pos M (b := 9) (by omega); omega
  have r3 : opA (Plain.env tblR gT) (.call 31 [(.const l3)]) [] H3 = some ((.bool false), H3) := by
    have := right_at (rows_of_ls k3) (by rw [many_len]; omega)
    rw [this]
    have h9 : ¬ (manyTo K).length ≤ 64 := by rw [many_len]; omega
    simp [RightB, h9]
  have self : ∀ x' : Ln, (ls.set i x')[i]? = some x' := fun x' => by simp [hil]
  have slen : ∀ x' : Ln, ls.length = (ls.set i x').length := fun x' => by simp
  have bad : ∀ x' : Ln, rightB x' = false → chk 0 (ls.set i x') = false := fun x' h => chk_bad _ i x' 0 (self x') h
  obtain ⟨Hs0n, e0n, c0n⟩ := cp.store (x' := ⟨0 - M, x.b, x.c, x.e, x.f, x.g, x.d⟩) (f := 0) (z := 0 - M) hx (by decide) rfl
  obtain ⟨Hs1p, e1p, c1p⟩ := cp.store (x' := ⟨x.a, 1099511627776 + M, x.c, x.e, x.f, x.g, x.d⟩) (f := 1) (z := 1099511627776 + M) hx (by decide) rfl
  obtain ⟨Hs1n, e1n, c1n⟩ := cp.store (x' := ⟨x.a, 0 - M, x.c, x.e, x.f, x.g, x.d⟩) (f := 1) (z := 0 - M) hx (by decide) rfl
  obtain ⟨Hs2p, e2p, c2p⟩ := cp.store (x' := ⟨x.a, x.b, 1099511627776 + M, x.e, x.f, x.g, x.d⟩) (f := 2) (z := 1099511627776 + M) hx (by decide) rfl
  obtain ⟨Hs2n, e2n, c2n⟩ := cp.store (x' := ⟨x.a, x.b, 0 - M, x.e, x.f, x.g, x.d⟩) (f := 2) (z := 0 - M) hx (by decide) rfl
  obtain ⟨Hs3p, e3p, c3p⟩ := cp.store (x' := ⟨x.a, x.b, x.c, 1099511627776 + M, x.f, x.g, x.d⟩) (f := 3) (z := 1099511627776 + M) hx (by decide) rfl
  obtain ⟨Hs3n, e3n, c3n⟩ := cp.store (x' := ⟨x.a, x.b, x.c, 0 - M, x.f, x.g, x.d⟩) (f := 3) (z := 0 - M) hx (by decide) rfl
  obtain ⟨Hs4p, e4p, c4p⟩ := cp.store (x' := ⟨x.a, x.b, x.c, x.e, 1099511627776 + M, x.g, x.d⟩) (f := 4) (z := 1099511627776 + M) hx (by decide) rfl
  obtain ⟨Hs4n, e4n, c4n⟩ := cp.store (x' := ⟨x.a, x.b, x.c, x.e, 0 - M, x.g, x.d⟩) (f := 4) (z := 0 - M) hx (by decide) rfl
  obtain ⟨Hs5p, e5p, c5p⟩ := cp.store (x' := ⟨x.a, x.b, x.c, x.e, x.f, 12 + M, x.d⟩) (f := 5) (z := 12 + M) hx (by decide) rfl
  obtain ⟨Hs5n, e5n, c5n⟩ := cp.store (x' := ⟨x.a, x.b, x.c, x.e, x.f, 0 - M, x.d⟩) (f := 5) (z := 0 - M) hx (by decide) rfl
  obtain ⟨y, Hs0y, e0y, il1, c0y⟩ : ∃ (y : Int) (Hs0y : Heap), (∀ Γ, opA Γ (.store (.const (.pointer (some ⟨B, (i * 7 + 0), none⟩))) (.const (.int .i64 y)) 1) [] Hs0n = some ((.tuple ⟨[]⟩), Hs0y)) ∧ (0 < i → opA (Plain.env tblR gT) (.load (.const (.pointer (some ⟨B, ((i - 1) * 7 + 0), none⟩))) none) [] Hs0n = some ((.int .i64 y), Hs0n)) ∧ (0 < i → opA (Plain.env tblR gT) (.call 31 [(.const (.slice (some ⟨B, 0, none⟩) ls.length ls.length))]) [] Hs0y = some ((.bool false), Hs0y)) := by
    obtain ⟨z, hzz⟩ : ∃ z : Ln, 0 < i → ls[i - 1]? = some z := by
      by_cases h0 : 0 < i
      · exact ⟨ls[i - 1], fun _ => List.getElem?_eq_getElem (by omega)⟩
      · exact ⟨x, fun h => absurd h h0⟩
    obtain ⟨H', q1, q2⟩ := c0n.store (x' := ⟨z.a, x.b, x.c, x.e, x.f, x.g, x.d⟩) (f := 0) (z := z.a) (self _) (by decide) rfl
    have hprev : 0 < i → (ls.set i ⟨0 - M, x.b, x.c, x.e, x.f, x.g, x.d⟩)[i - 1]? = some z := fun h => by rw [List.getElem?_set_ne (by omega)]; exact hzz h
    refine ⟨z.a, H', q1, fun h => ?_, fun h => ?_⟩
    · have := (flat_at (w := 7) ((ls.set i ⟨0 - M, x.b, x.c, x.e, x.f, x.g, x.d⟩).map Ln.enc) (fun r hr => by obtain ⟨x, _, rfl⟩ := List.mem_map.1 hr; rfl) (i - 1) z.enc (by rw [List.getElem?_map, hprev h]; rfl)).2
      refine ld1 c0n.r ?_
      have h2 := congrArg (fun l : List Value => l[0]?) this
      simp only [List.getElem?_take, List.getElem?_drop, Nat.add_zero] at h2
      exact h2
    · refine q2.wrong _ (by simp) (by simpa using len12) (chk_two _ (i - 1) ⟨z.a, x.b, x.c, x.e, x.f, x.g, x.d⟩ z 0 ?_ ?_ (Int.le_refl _))
      · rw [List.getElem?_set_ne (by omega)]; exact hprev h
      · rw [show i - 1 + 1 = i by omega]; simp [hil]
  refine Wp.piece 100 (hn12a s0 s1 s2 s3 s4 s5 la (.slice (some ⟨B, 0, none⟩) ls.length ls.length) l3 a1 a2 a3 ls.length y B (i * 7) ((i - 1) * 7) H Ha Hb H3 Hs0n Hs0y Hs1p Hs1n Hs2p Hs2n Hs3p Hs3n Hs4p Hs4n Hs5p Hs5n) ?_
  rw [tree12a, wn1, hi, hM, wm, wneg, wc, wl]
  refine ⟨ldn (rd_last rfl) (by simp) rfl, ea, r1, r2, hlen _ _, fun _ => ⟨rfl, fin _⟩, fun _ => ⟨hlen _ _, hpre, by decide, eapp, cp.at_ hil _ rfl _ _, by decide, ?_⟩⟩
  refine ⟨fun _ => ⟨e0n _, fun h => ?_, fun h => ⟨c0n.wrong _ (slen _) (by simpa using len12) (chk_low _ i _ 0 (self _) (Int.le_refl _) (by show 0 - M ≤ 0; omega)), rfl, fin _⟩⟩, fun _ => ?_⟩
  · have hp : 0 < i := by simp at h; omega
    have w1 : IntKind.wrap .i64 ((i : Int) - 1) = ((i - 1 : Nat) : Int) := by rw [wrap_id (by omega) (by omega)]; omega
    rw [w1]
    exact ⟨c0n.at_ (by simp; omega) _ (slen _) _ _, il1 hp, e0y _, c0y hp, rfl, fin _⟩
  refine ⟨fun _ => ⟨e1p _, c1p.wrong _ (slen _) (by simpa using len12) (bad _ (by simp [rightB, badZ]; omega)), rfl, fin _⟩, fun _ => ?_⟩
  refine ⟨fun _ => ⟨e1n _, c1n.wrong _ (slen _) (by simpa using len12) (bad _ (by simp [rightB, badZ]; omega)), rfl, fin _⟩, fun _ => ?_⟩
  refine ⟨fun _ => ⟨e2p _, c2p.wrong _ (slen _) (by simpa using len12) (bad _ (by simp [rightB, badZ]; omega)), rfl, fin _⟩, fun _ => ?_⟩
  refine ⟨fun _ => ⟨e2n _, c2n.wrong _ (slen _) (by simpa using len12) (bad _ (by simp [rightB, badZ]; omega)), rfl, fin _⟩, fun _ => ?_⟩
  refine ⟨fun _ => ⟨e3p _, c3p.wrong _ (slen _) (by simpa using len12) (bad _ (by simp [rightB, badZ]; omega)), rfl, fin _⟩, fun _ => ?_⟩
  refine ⟨fun _ => ⟨e3n _, c3n.wrong _ (slen _) (by simpa using len12) (bad _ (by simp [rightB, badZ]; omega)), rfl, fin _⟩, fun _ => ?_⟩
  refine ⟨fun _ => ⟨e4p _, c4p.wrong _ (slen _) (by simpa using len12) (bad _ (by simp [rightB, badZ]; omega)), rfl, fin _⟩, fun _ => ?_⟩
  refine ⟨fun _ => ⟨e4n _, c4n.wrong _ (slen _) (by simpa using len12) (bad _ (by simp [rightB, badZ]; omega)), rfl, fin _⟩, fun _ => ?_⟩
  refine ⟨fun _ => ⟨e5p _, c5p.wrong _ (slen _) (by simpa using len12) (bad _ (by simp [rightB, badZ]; omega)), rfl, fin _⟩, fun _ => ?_⟩
  refine ⟨fun _ => ⟨e5n _, c5n.wrong _ (slen _) (by simpa using len12) (bad _ (by simp [rightB, badZ]; omega)), rfl, fin _⟩, fun _ => ?_⟩
  exact ⟨w, r3, rfl, fin _⟩
end Go.Proofs.Ytjnppjipoibbeaa.Tape
